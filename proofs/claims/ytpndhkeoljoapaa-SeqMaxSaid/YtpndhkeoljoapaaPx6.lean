/- What these Go functions compute, as Lean functions, and that they do. No condition. -/
import Derived.Test.YtpndhkeoljoapaaPx0
namespace Go.Proofs.Ytpndhkeoljoapaa.P
open Go.RowKit Go.Proofs.YtpndhkeoljoapaaW.PrintWords Go.Proofs.YtpndhkeoljoapaaW.PrintLast Go.Proofs.YtpndhkeoljoapaaW.PrintMore
attribute [local go_sem] max2_int min2_int max_two min_two max_three min_three max_four min_four   -- for this text's walks alone
set_option linter.unusedVariables false
set_option linter.unusedSimpArgs false
set_option linter.unnecessarySimpa false
theorem iteS6 {α : Type} {c : Prop} [Decidable c] {a : Option α} {r : α} (h : (if c then a else none) = some r) : c ∧ a = some r := by
 by_cases hc : c
 ·rw [if_pos hc] at h; exact ⟨hc, h⟩
 ·rw [if_neg hc] at h; cases h

/-! ### cmp_Or_int: function 57 -/
def cmp_Or_int.l0 : Nat → Int → List Int → Int → Int → Option (Int)
 | 0, _, _, _, _ => none
 | k + 1, x3, x6, x7, x8 => if x8 < x7 then (if 0 ≤ x8 then (if x8 < (x6.length : Int) then (if (rd x6 x8) = x3 then (cmp_Or_int.l0 k x3 x6 x7 (wrap64 (x8 + 1))) else (some (rd x6 x8))) else (none)) else (none)) else (some x3)
def cmp_Or_int.f (k : Nat) (l0 : List Int) : Option (Int) := cmp_Or_int.l0 k 0 l0 (l0.length : Int) 0
theorem cmp_Or_int.mono_l : ∀ k, (∀ y0 y1 y2 y3, LeO (cmp_Or_int.l0 k y0 y1 y2 y3) (cmp_Or_int.l0 (k + 1) y0 y1 y2 y3))
 | 0 => fun _ _ _ _ r h => by simp [cmp_Or_int.l0] at h
 | k + 1 => by
  have ih0 := cmp_Or_int.mono_l k
  ·intro y0 y1 y2 y3
   unfold cmp_Or_int.l0
   repeat' first
   | (with_reducible exact ih0 _ _ _ _)
   | (with_reducible exact LeO.refl _)
   | (with_reducible exact LeO.none _)
   | (with_reducible refine LeO.ite ?_ ?_)
   | (with_reducible refine LeO.bind ?_ (fun _ => ?_))
   | exact ih0 _ _ _ _
   | exact LeO.none _
   | refine LeO.ite ?_ ?_
   | refine LeO.bind ?_ (fun _ => ?_)
theorem cmp_Or_int.mono : ∀ a0 k, LeO (cmp_Or_int.f k a0) (cmp_Or_int.f (k + 1) a0) := by
 intro a0 k
 have ih0 := cmp_Or_int.mono_l k
 unfold cmp_Or_int.f
 repeat' first
   | (with_reducible exact ih0 _ _ _ _)
   | (with_reducible exact LeO.refl _)
   | (with_reducible exact LeO.none _)
   | (with_reducible refine LeO.ite ?_ ?_)
   | (with_reducible refine LeO.bind ?_ (fun _ => ?_))
   | exact ih0 _ _ _ _
   | exact LeO.none _
   | refine LeO.ite ?_ ?_
   | refine LeO.bind ?_ (fun _ => ?_)
set_option maxHeartbeats 8000000 in
set_option maxRecDepth 100000 in
theorem cmp_Or_int.calls (k : Nat) (A0 : Option Addr) (c0 : Nat) (l0 : List Int) (r : Int) (w : World) (hr0 : Kd.C (Kd.int .i64) w A0 l0.length l0) (hc0 : l0.length ≤ c0) (h : cmp_Or_int.f k l0 = some r) :
  Calls Try.prog 57 #[.slice A0 l0.length c0] w fun e w' => e = .returned (.int .i64 r) ∧ Drawn0 w w' := by
 have HR0 := Aside0.mk hr0
 have HC0 := Aside0.mk hc0
 clear hr0 hc0
 have H : (cmp_Or_int.l0 k 0 l0 (l0.length : Int) 0) = some r := h
 clear h
 have H' := Aside0.mk H
 clear H
 go_enter Try.func57, Try.ntmps57
 go_wp2
 go_loopg [8] k (fun kq v8 w' => ∃ (x8_1 : Int), v8 = .int .i64 x8_1 ∧ Aside0 (cmp_Or_int.l0 kq 0 l0 (l0.length : Int) x8_1 = some r) ∧ Aside0 (kq ≤ k) ∧ Drawn0 w w')
 case atStart => exact ⟨(0), (by first | rfl | (simp; done) | (simp [*]; done)), H', ⟨Nat.le_refl _⟩, by repeat (first | exact Drawn0.refl _ | apply Drawn0.step)⟩
 case round =>
  clear H'
  obtain ⟨x8_1, rfl, HA, HK1, ⟨m1, rfl⟩⟩ := hrel
  cases gk with
  | zero => exact absurd HA.out (by simp [cmp_Or_int.l0])
  | succ k1 =>
   have H := HA.out
   clear HA
   simp only [cmp_Or_int.l0] at H
   by_cases c2 : x8_1 < (l0.length : Int)
   ·rw [if_pos c2] at H
    have c2b0 : decide (x8_1 < (l0.length : Int)) = true := decide_eq_true c2
    clear c2
    obtain ⟨c3, H⟩ := iteS6 H
    have c3b0 := decide_eq_true c3
    clear c3
    obtain ⟨c4, H⟩ := iteS6 H
    have c4b0 := decide_eq_true c4
    clear c4
    by_cases c5 : (rd l0 x8_1) = 0
    ·rw [if_pos c5] at H
     have c5b0 : ((rd l0 x8_1) == 0) = true := beq_iff_eq.mpr c5
     have c5b1 : ((rd l0 x8_1) != 0) = false := bne_eq_false_iff_eq.mpr c5
     clear c5
     have H' := Aside0.mk H
     clear H
     have p124 : 0 ≤ (x8_1 : Int) := of_decide_eq_true (by first | (with_reducible assumption) | assumption)
     have q124 : x8_1 < (l0.length : Int) := of_decide_eq_true (by first | (with_reducible assumption) | assumption)
     obtain ⟨ad124, e124, hx124_0⟩ := Kd.at_int HR0.out x8_1 p124 q124
     cases e124
     replace p124 := eq_true p124
     replace q124 := eq_true q124
     go_wp2
     go_roundg k1
     case measure => have := HK1.out; omega
     case rel => exact ⟨(wrap64 (x8_1 + 1)), (by first | rfl | (simp; done) | (simp [*]; done)), H', ⟨by have := HK1.out; omega⟩, by repeat (first | exact Drawn0.refl _ | apply Drawn0.step)⟩
    ·rw [if_neg c5] at H
     have c5b0 : ((rd l0 x8_1) == 0) = false := beq_eq_false_iff_ne.mpr c5
     have c5b1 : ((rd l0 x8_1) != 0) = true := bne_iff_ne.mpr c5
     obtain rfl := Option.some.inj H
     have p124 : 0 ≤ (x8_1 : Int) := of_decide_eq_true (by first | (with_reducible assumption) | assumption)
     have q124 : x8_1 < (l0.length : Int) := of_decide_eq_true (by first | (with_reducible assumption) | assumption)
     obtain ⟨ad124, e124, hx124_0⟩ := Kd.at_int HR0.out x8_1 p124 q124
     cases e124
     replace p124 := eq_true p124
     replace q124 := eq_true q124
     go_wp2
     go_ret
     exact ⟨by first | rfl | (simp; done) | (simp [*]; done), by repeat (first | exact Drawn0.refl _ | apply Drawn0.step)⟩
   ·rw [if_neg c2] at H
    have c2b0 : decide (x8_1 < (l0.length : Int)) = false := decide_eq_false c2
    clear c2
    obtain rfl := Option.some.inj H
    go_wp2
    go_ret
    exact ⟨by first | rfl | (simp; done) | (simp [*]; done), by repeat (first | exact Drawn0.refl _ | apply Drawn0.step)⟩

/-! ### cmp_isNaN_int: function 76 -/
def cmp_isNaN_int.f (a0 : Int) : Option (Bool) := some (a0 != a0)
set_option maxHeartbeats 8000000 in
set_option maxRecDepth 100000 in
theorem cmp_isNaN_int.calls (a0 : Int) (r : Bool) (w : World) (h : cmp_isNaN_int.f a0 = some r) :
  Calls Try.prog 76 #[.int .i64 a0] w fun e w' => e = .returned (.bool r) ∧ Drawn0 w w' := by
 have H : (some (a0 != a0)) = some r := h
 clear h
 obtain rfl := Option.some.inj H
 go_enter Try.func76, Try.ntmps76
 go_wp2
 go_ret
 exact ⟨by first | rfl | (simp; done) | (simp [*]; done), by repeat (first | exact Drawn0.refl _ | apply Drawn0.step)⟩

/-! ### cmp_Compare_int: function 58 -/
def cmp_Compare_int.f (a0 : Int) (a1 : Int) : Option (Int) := (cmp_isNaN_int.f a0).bind fun t125 => ((cmp_isNaN_int.f a1).bind fun t126 => (if t125 = true then (if t126 = true then (some 0) else (some (-1))) else (if t126 = true then (some 1) else (if a0 < a1 then (some (-1)) else (if a0 > a1 then (some 1) else (some 0))))))
set_option maxHeartbeats 8000000 in
set_option maxRecDepth 100000 in
theorem cmp_Compare_int.calls (a0 : Int) (a1 : Int) (r : Int) (w : World) (h : cmp_Compare_int.f a0 a1 = some r) :
  Calls Try.prog 58 #[.int .i64 a0, .int .i64 a1] w fun e w' => e = .returned (.int .i64 r) ∧ Drawn0 w w' := by
 have H : ((cmp_isNaN_int.f a0).bind fun t125 => ((cmp_isNaN_int.f a1).bind fun t126 => (if t125 = true then (if t126 = true then (some 0) else (some (-1))) else (if t126 = true then (some 1) else (if a0 < a1 then (some (-1)) else (if a0 > a1 then (some 1) else (some 0))))))) = some r := h
 clear h
 replace H := Option.bind_eq_some_iff.mp H
 obtain ⟨t125, A30, H⟩ := H
 replace H : ((cmp_isNaN_int.f a1).bind fun t126 => (if t125 = true then (if t126 = true then (some 0) else (some (-1))) else (if t126 = true then (some 1) else (if a0 < a1 then (some (-1)) else (if a0 > a1 then (some 1) else (some 0)))))) = some r := H
 have A3 := Aside0.mk A30
 clear A30
 replace H := Option.bind_eq_some_iff.mp H
 obtain ⟨t126, A40, H⟩ := H
 replace H : (if t125 = true then (if t126 = true then (some 0) else (some (-1))) else (if t126 = true then (some 1) else (if a0 < a1 then (some (-1)) else (if a0 > a1 then (some 1) else (some 0))))) = some r := H
 have A4 := Aside0.mk A40
 clear A40
 by_cases c5 : t125 = true
 ·subst c5
  have H1 : (if t126 = true then (some 0) else (some (-1))) = some r := by rw [if_pos rfl] at H; exact H
  clear H
  have H := H1
  clear H1
  by_cases c6 : t126 = true
  ·subst c6
   have H1 : (some 0) = some r := by rw [if_pos rfl] at H; exact H
   clear H
   have H := H1
   clear H1
   obtain rfl := Option.some.inj H
   go_enter Try.func58, Try.ntmps58
   go_wp2_with (first | ((with_reducible refine gate_callee (f := 76) rfl ?_); refine goesL_ (some 8) rfl rfl Try.func76 (by kernel_rfl) rfl #[.int .i64 a0] rfl (by (try simp only [List.map_toArray, List.map_cons, List.map_nil]); first | done | rfl | (simp only [List.length_drop, List.length_take]; rfl)) ?_; (with_reducible refine (cmp_isNaN_int.calls a0 true _ A3.out).mono ?_); rintro e w' ⟨rfl, ⟨nd, rfl⟩⟩; refine ⟨_, rfl, ?_⟩; (try clear A3)) | ((with_reducible refine gate_callee (f := 76) rfl ?_); refine goesL_ (some 10) rfl rfl Try.func76 (by kernel_rfl) rfl #[.int .i64 a1] rfl (by (try simp only [List.map_toArray, List.map_cons, List.map_nil]); first | done | rfl | (simp only [List.length_drop, List.length_take]; rfl)) ?_; (with_reducible refine (cmp_isNaN_int.calls a1 true _ A4.out).mono ?_); rintro e w' ⟨rfl, ⟨nd, rfl⟩⟩; refine ⟨_, rfl, ?_⟩; (try clear A4)))
   go_ret
   exact ⟨by first | rfl | (simp; done) | (simp [*]; done), by repeat (first | exact Drawn0.refl _ | apply Drawn0.step)⟩
  ·replace c6 := Bool.eq_false_iff.mpr c6
   subst c6
   have H1 : (some (-1)) = some r := by rw [if_neg (show ¬ (false = true) by decide)] at H; exact H
   clear H
   have H := H1
   clear H1
   obtain rfl := Option.some.inj H
   go_enter Try.func58, Try.ntmps58
   go_wp2_with (first | ((with_reducible refine gate_callee (f := 76) rfl ?_); refine goesL_ (some 8) rfl rfl Try.func76 (by kernel_rfl) rfl #[.int .i64 a0] rfl (by (try simp only [List.map_toArray, List.map_cons, List.map_nil]); first | done | rfl | (simp only [List.length_drop, List.length_take]; rfl)) ?_; (with_reducible refine (cmp_isNaN_int.calls a0 true _ A3.out).mono ?_); rintro e w' ⟨rfl, ⟨nd, rfl⟩⟩; refine ⟨_, rfl, ?_⟩; (try clear A3)) | ((with_reducible refine gate_callee (f := 76) rfl ?_); refine goesL_ (some 10) rfl rfl Try.func76 (by kernel_rfl) rfl #[.int .i64 a1] rfl (by (try simp only [List.map_toArray, List.map_cons, List.map_nil]); first | done | rfl | (simp only [List.length_drop, List.length_take]; rfl)) ?_; (with_reducible refine (cmp_isNaN_int.calls a1 false _ A4.out).mono ?_); rintro e w' ⟨rfl, ⟨nd, rfl⟩⟩; refine ⟨_, rfl, ?_⟩; (try clear A4)))
   go_ret
   exact ⟨by first | rfl | (simp; done) | (simp [*]; done), by repeat (first | exact Drawn0.refl _ | apply Drawn0.step)⟩
 ·replace c5 := Bool.eq_false_iff.mpr c5
  subst c5
  have H1 : (if t126 = true then (some 1) else (if a0 < a1 then (some (-1)) else (if a0 > a1 then (some 1) else (some 0)))) = some r := by rw [if_neg (show ¬ (false = true) by decide)] at H; exact H
  clear H
  have H := H1
  clear H1
  by_cases c7 : t126 = true
  ·subst c7
   have H1 : (some 1) = some r := by rw [if_pos rfl] at H; exact H
   clear H
   have H := H1
   clear H1
   obtain rfl := Option.some.inj H
   go_enter Try.func58, Try.ntmps58
   go_wp2_with (first | ((with_reducible refine gate_callee (f := 76) rfl ?_); refine goesL_ (some 8) rfl rfl Try.func76 (by kernel_rfl) rfl #[.int .i64 a0] rfl (by (try simp only [List.map_toArray, List.map_cons, List.map_nil]); first | done | rfl | (simp only [List.length_drop, List.length_take]; rfl)) ?_; (with_reducible refine (cmp_isNaN_int.calls a0 false _ A3.out).mono ?_); rintro e w' ⟨rfl, ⟨nd, rfl⟩⟩; refine ⟨_, rfl, ?_⟩; (try clear A3)) | ((with_reducible refine gate_callee (f := 76) rfl ?_); refine goesL_ (some 10) rfl rfl Try.func76 (by kernel_rfl) rfl #[.int .i64 a1] rfl (by (try simp only [List.map_toArray, List.map_cons, List.map_nil]); first | done | rfl | (simp only [List.length_drop, List.length_take]; rfl)) ?_; (with_reducible refine (cmp_isNaN_int.calls a1 true _ A4.out).mono ?_); rintro e w' ⟨rfl, ⟨nd, rfl⟩⟩; refine ⟨_, rfl, ?_⟩; (try clear A4)))
   go_ret
   exact ⟨by first | rfl | (simp; done) | (simp [*]; done), by repeat (first | exact Drawn0.refl _ | apply Drawn0.step)⟩
  ·replace c7 := Bool.eq_false_iff.mpr c7
   subst c7
   have H1 : (if a0 < a1 then (some (-1)) else (if a0 > a1 then (some 1) else (some 0))) = some r := by rw [if_neg (show ¬ (false = true) by decide)] at H; exact H
   clear H
   have H := H1
   clear H1
   by_cases c8 : a0 < a1
   ·rw [if_pos c8] at H
    have c8b0 := decide_eq_true c8
    clear c8
    obtain rfl := Option.some.inj H
    go_enter Try.func58, Try.ntmps58
    go_wp2_with (first | ((with_reducible refine gate_callee (f := 76) rfl ?_); refine goesL_ (some 8) rfl rfl Try.func76 (by kernel_rfl) rfl #[.int .i64 a0] rfl (by (try simp only [List.map_toArray, List.map_cons, List.map_nil]); first | done | rfl | (simp only [List.length_drop, List.length_take]; rfl)) ?_; (with_reducible refine (cmp_isNaN_int.calls a0 false _ A3.out).mono ?_); rintro e w' ⟨rfl, ⟨nd, rfl⟩⟩; refine ⟨_, rfl, ?_⟩; (try clear A3)) | ((with_reducible refine gate_callee (f := 76) rfl ?_); refine goesL_ (some 10) rfl rfl Try.func76 (by kernel_rfl) rfl #[.int .i64 a1] rfl (by (try simp only [List.map_toArray, List.map_cons, List.map_nil]); first | done | rfl | (simp only [List.length_drop, List.length_take]; rfl)) ?_; (with_reducible refine (cmp_isNaN_int.calls a1 false _ A4.out).mono ?_); rintro e w' ⟨rfl, ⟨nd, rfl⟩⟩; refine ⟨_, rfl, ?_⟩; (try clear A4)))
    go_ret
    exact ⟨by first | rfl | (simp; done) | (simp [*]; done), by repeat (first | exact Drawn0.refl _ | apply Drawn0.step)⟩
   ·rw [if_neg c8] at H
    have c8b0 := decide_eq_false c8
    clear c8
    by_cases c9 : a0 > a1
    ·rw [if_pos c9] at H
     have c9b0 : decide (a1 < a0) = true := decide_eq_true c9
     clear c9
     obtain rfl := Option.some.inj H
     go_enter Try.func58, Try.ntmps58
     go_wp2_with (first | ((with_reducible refine gate_callee (f := 76) rfl ?_); refine goesL_ (some 8) rfl rfl Try.func76 (by kernel_rfl) rfl #[.int .i64 a0] rfl (by (try simp only [List.map_toArray, List.map_cons, List.map_nil]); first | done | rfl | (simp only [List.length_drop, List.length_take]; rfl)) ?_; (with_reducible refine (cmp_isNaN_int.calls a0 false _ A3.out).mono ?_); rintro e w' ⟨rfl, ⟨nd, rfl⟩⟩; refine ⟨_, rfl, ?_⟩; (try clear A3)) | ((with_reducible refine gate_callee (f := 76) rfl ?_); refine goesL_ (some 10) rfl rfl Try.func76 (by kernel_rfl) rfl #[.int .i64 a1] rfl (by (try simp only [List.map_toArray, List.map_cons, List.map_nil]); first | done | rfl | (simp only [List.length_drop, List.length_take]; rfl)) ?_; (with_reducible refine (cmp_isNaN_int.calls a1 false _ A4.out).mono ?_); rintro e w' ⟨rfl, ⟨nd, rfl⟩⟩; refine ⟨_, rfl, ?_⟩; (try clear A4)))
     go_ret
     exact ⟨by first | rfl | (simp; done) | (simp [*]; done), by repeat (first | exact Drawn0.refl _ | apply Drawn0.step)⟩
    ·rw [if_neg c9] at H
     have c9b0 : decide (a1 < a0) = false := decide_eq_false c9
     clear c9
     obtain rfl := Option.some.inj H
     go_enter Try.func58, Try.ntmps58
     go_wp2_with (first | ((with_reducible refine gate_callee (f := 76) rfl ?_); refine goesL_ (some 8) rfl rfl Try.func76 (by kernel_rfl) rfl #[.int .i64 a0] rfl (by (try simp only [List.map_toArray, List.map_cons, List.map_nil]); first | done | rfl | (simp only [List.length_drop, List.length_take]; rfl)) ?_; (with_reducible refine (cmp_isNaN_int.calls a0 false _ A3.out).mono ?_); rintro e w' ⟨rfl, ⟨nd, rfl⟩⟩; refine ⟨_, rfl, ?_⟩; (try clear A3)) | ((with_reducible refine gate_callee (f := 76) rfl ?_); refine goesL_ (some 10) rfl rfl Try.func76 (by kernel_rfl) rfl #[.int .i64 a1] rfl (by (try simp only [List.map_toArray, List.map_cons, List.map_nil]); first | done | rfl | (simp only [List.length_drop, List.length_take]; rfl)) ?_; (with_reducible refine (cmp_isNaN_int.calls a1 false _ A4.out).mono ?_); rintro e w' ⟨rfl, ⟨nd, rfl⟩⟩; refine ⟨_, rfl, ?_⟩; (try clear A4)))
     go_ret
     exact ⟨by first | rfl | (simp; done) | (simp [*]; done), by repeat (first | exact Drawn0.refl _ | apply Drawn0.step)⟩

/-! ### cmp_isNaN_int64: function 77 -/
def cmp_isNaN_int64.f (a0 : Int) : Option (Bool) := some (a0 != a0)
set_option maxHeartbeats 8000000 in
set_option maxRecDepth 100000 in
theorem cmp_isNaN_int64.calls (a0 : Int) (r : Bool) (w : World) (h : cmp_isNaN_int64.f a0 = some r) :
  Calls Try.prog 77 #[.int .i64 a0] w fun e w' => e = .returned (.bool r) ∧ Drawn0 w w' := by
 have H : (some (a0 != a0)) = some r := h
 clear h
 obtain rfl := Option.some.inj H
 go_enter Try.func77, Try.ntmps77
 go_wp2
 go_ret
 exact ⟨by first | rfl | (simp; done) | (simp [*]; done), by repeat (first | exact Drawn0.refl _ | apply Drawn0.step)⟩

/-! ### cmp_Compare_int64: function 59 -/
def cmp_Compare_int64.f (a0 : Int) (a1 : Int) : Option (Int) := (cmp_isNaN_int64.f a0).bind fun t127 => ((cmp_isNaN_int64.f a1).bind fun t128 => (if t127 = true then (if t128 = true then (some 0) else (some (-1))) else (if t128 = true then (some 1) else (if a0 < a1 then (some (-1)) else (if a0 > a1 then (some 1) else (some 0))))))
set_option maxHeartbeats 8000000 in
set_option maxRecDepth 100000 in
theorem cmp_Compare_int64.calls (a0 : Int) (a1 : Int) (r : Int) (w : World) (h : cmp_Compare_int64.f a0 a1 = some r) :
  Calls Try.prog 59 #[.int .i64 a0, .int .i64 a1] w fun e w' => e = .returned (.int .i64 r) ∧ Drawn0 w w' := by
 have H : ((cmp_isNaN_int64.f a0).bind fun t127 => ((cmp_isNaN_int64.f a1).bind fun t128 => (if t127 = true then (if t128 = true then (some 0) else (some (-1))) else (if t128 = true then (some 1) else (if a0 < a1 then (some (-1)) else (if a0 > a1 then (some 1) else (some 0))))))) = some r := h
 clear h
 replace H := Option.bind_eq_some_iff.mp H
 obtain ⟨t127, A30, H⟩ := H
 replace H : ((cmp_isNaN_int64.f a1).bind fun t128 => (if t127 = true then (if t128 = true then (some 0) else (some (-1))) else (if t128 = true then (some 1) else (if a0 < a1 then (some (-1)) else (if a0 > a1 then (some 1) else (some 0)))))) = some r := H
 have A3 := Aside0.mk A30
 clear A30
 replace H := Option.bind_eq_some_iff.mp H
 obtain ⟨t128, A40, H⟩ := H
 replace H : (if t127 = true then (if t128 = true then (some 0) else (some (-1))) else (if t128 = true then (some 1) else (if a0 < a1 then (some (-1)) else (if a0 > a1 then (some 1) else (some 0))))) = some r := H
 have A4 := Aside0.mk A40
 clear A40
 by_cases c5 : t127 = true
 ·subst c5
  have H1 : (if t128 = true then (some 0) else (some (-1))) = some r := by rw [if_pos rfl] at H; exact H
  clear H
  have H := H1
  clear H1
  by_cases c6 : t128 = true
  ·subst c6
   have H1 : (some 0) = some r := by rw [if_pos rfl] at H; exact H
   clear H
   have H := H1
   clear H1
   obtain rfl := Option.some.inj H
   go_enter Try.func59, Try.ntmps59
   go_wp2_with (first | ((with_reducible refine gate_callee (f := 77) rfl ?_); refine goesL_ (some 8) rfl rfl Try.func77 (by kernel_rfl) rfl #[.int .i64 a0] rfl (by (try simp only [List.map_toArray, List.map_cons, List.map_nil]); first | done | rfl | (simp only [List.length_drop, List.length_take]; rfl)) ?_; (with_reducible refine (cmp_isNaN_int64.calls a0 true _ A3.out).mono ?_); rintro e w' ⟨rfl, ⟨nd, rfl⟩⟩; refine ⟨_, rfl, ?_⟩; (try clear A3)) | ((with_reducible refine gate_callee (f := 77) rfl ?_); refine goesL_ (some 10) rfl rfl Try.func77 (by kernel_rfl) rfl #[.int .i64 a1] rfl (by (try simp only [List.map_toArray, List.map_cons, List.map_nil]); first | done | rfl | (simp only [List.length_drop, List.length_take]; rfl)) ?_; (with_reducible refine (cmp_isNaN_int64.calls a1 true _ A4.out).mono ?_); rintro e w' ⟨rfl, ⟨nd, rfl⟩⟩; refine ⟨_, rfl, ?_⟩; (try clear A4)))
   go_ret
   exact ⟨by first | rfl | (simp; done) | (simp [*]; done), by repeat (first | exact Drawn0.refl _ | apply Drawn0.step)⟩
  ·replace c6 := Bool.eq_false_iff.mpr c6
   subst c6
   have H1 : (some (-1)) = some r := by rw [if_neg (show ¬ (false = true) by decide)] at H; exact H
   clear H
   have H := H1
   clear H1
   obtain rfl := Option.some.inj H
   go_enter Try.func59, Try.ntmps59
   go_wp2_with (first | ((with_reducible refine gate_callee (f := 77) rfl ?_); refine goesL_ (some 8) rfl rfl Try.func77 (by kernel_rfl) rfl #[.int .i64 a0] rfl (by (try simp only [List.map_toArray, List.map_cons, List.map_nil]); first | done | rfl | (simp only [List.length_drop, List.length_take]; rfl)) ?_; (with_reducible refine (cmp_isNaN_int64.calls a0 true _ A3.out).mono ?_); rintro e w' ⟨rfl, ⟨nd, rfl⟩⟩; refine ⟨_, rfl, ?_⟩; (try clear A3)) | ((with_reducible refine gate_callee (f := 77) rfl ?_); refine goesL_ (some 10) rfl rfl Try.func77 (by kernel_rfl) rfl #[.int .i64 a1] rfl (by (try simp only [List.map_toArray, List.map_cons, List.map_nil]); first | done | rfl | (simp only [List.length_drop, List.length_take]; rfl)) ?_; (with_reducible refine (cmp_isNaN_int64.calls a1 false _ A4.out).mono ?_); rintro e w' ⟨rfl, ⟨nd, rfl⟩⟩; refine ⟨_, rfl, ?_⟩; (try clear A4)))
   go_ret
   exact ⟨by first | rfl | (simp; done) | (simp [*]; done), by repeat (first | exact Drawn0.refl _ | apply Drawn0.step)⟩
 ·replace c5 := Bool.eq_false_iff.mpr c5
  subst c5
  have H1 : (if t128 = true then (some 1) else (if a0 < a1 then (some (-1)) else (if a0 > a1 then (some 1) else (some 0)))) = some r := by rw [if_neg (show ¬ (false = true) by decide)] at H; exact H
  clear H
  have H := H1
  clear H1
  by_cases c7 : t128 = true
  ·subst c7
   have H1 : (some 1) = some r := by rw [if_pos rfl] at H; exact H
   clear H
   have H := H1
   clear H1
   obtain rfl := Option.some.inj H
   go_enter Try.func59, Try.ntmps59
   go_wp2_with (first | ((with_reducible refine gate_callee (f := 77) rfl ?_); refine goesL_ (some 8) rfl rfl Try.func77 (by kernel_rfl) rfl #[.int .i64 a0] rfl (by (try simp only [List.map_toArray, List.map_cons, List.map_nil]); first | done | rfl | (simp only [List.length_drop, List.length_take]; rfl)) ?_; (with_reducible refine (cmp_isNaN_int64.calls a0 false _ A3.out).mono ?_); rintro e w' ⟨rfl, ⟨nd, rfl⟩⟩; refine ⟨_, rfl, ?_⟩; (try clear A3)) | ((with_reducible refine gate_callee (f := 77) rfl ?_); refine goesL_ (some 10) rfl rfl Try.func77 (by kernel_rfl) rfl #[.int .i64 a1] rfl (by (try simp only [List.map_toArray, List.map_cons, List.map_nil]); first | done | rfl | (simp only [List.length_drop, List.length_take]; rfl)) ?_; (with_reducible refine (cmp_isNaN_int64.calls a1 true _ A4.out).mono ?_); rintro e w' ⟨rfl, ⟨nd, rfl⟩⟩; refine ⟨_, rfl, ?_⟩; (try clear A4)))
   go_ret
   exact ⟨by first | rfl | (simp; done) | (simp [*]; done), by repeat (first | exact Drawn0.refl _ | apply Drawn0.step)⟩
  ·replace c7 := Bool.eq_false_iff.mpr c7
   subst c7
   have H1 : (if a0 < a1 then (some (-1)) else (if a0 > a1 then (some 1) else (some 0))) = some r := by rw [if_neg (show ¬ (false = true) by decide)] at H; exact H
   clear H
   have H := H1
   clear H1
   by_cases c8 : a0 < a1
   ·rw [if_pos c8] at H
    have c8b0 := decide_eq_true c8
    clear c8
    obtain rfl := Option.some.inj H
    go_enter Try.func59, Try.ntmps59
    go_wp2_with (first | ((with_reducible refine gate_callee (f := 77) rfl ?_); refine goesL_ (some 8) rfl rfl Try.func77 (by kernel_rfl) rfl #[.int .i64 a0] rfl (by (try simp only [List.map_toArray, List.map_cons, List.map_nil]); first | done | rfl | (simp only [List.length_drop, List.length_take]; rfl)) ?_; (with_reducible refine (cmp_isNaN_int64.calls a0 false _ A3.out).mono ?_); rintro e w' ⟨rfl, ⟨nd, rfl⟩⟩; refine ⟨_, rfl, ?_⟩; (try clear A3)) | ((with_reducible refine gate_callee (f := 77) rfl ?_); refine goesL_ (some 10) rfl rfl Try.func77 (by kernel_rfl) rfl #[.int .i64 a1] rfl (by (try simp only [List.map_toArray, List.map_cons, List.map_nil]); first | done | rfl | (simp only [List.length_drop, List.length_take]; rfl)) ?_; (with_reducible refine (cmp_isNaN_int64.calls a1 false _ A4.out).mono ?_); rintro e w' ⟨rfl, ⟨nd, rfl⟩⟩; refine ⟨_, rfl, ?_⟩; (try clear A4)))
    go_ret
    exact ⟨by first | rfl | (simp; done) | (simp [*]; done), by repeat (first | exact Drawn0.refl _ | apply Drawn0.step)⟩
   ·rw [if_neg c8] at H
    have c8b0 := decide_eq_false c8
    clear c8
    by_cases c9 : a0 > a1
    ·rw [if_pos c9] at H
     have c9b0 : decide (a1 < a0) = true := decide_eq_true c9
     clear c9
     obtain rfl := Option.some.inj H
     go_enter Try.func59, Try.ntmps59
     go_wp2_with (first | ((with_reducible refine gate_callee (f := 77) rfl ?_); refine goesL_ (some 8) rfl rfl Try.func77 (by kernel_rfl) rfl #[.int .i64 a0] rfl (by (try simp only [List.map_toArray, List.map_cons, List.map_nil]); first | done | rfl | (simp only [List.length_drop, List.length_take]; rfl)) ?_; (with_reducible refine (cmp_isNaN_int64.calls a0 false _ A3.out).mono ?_); rintro e w' ⟨rfl, ⟨nd, rfl⟩⟩; refine ⟨_, rfl, ?_⟩; (try clear A3)) | ((with_reducible refine gate_callee (f := 77) rfl ?_); refine goesL_ (some 10) rfl rfl Try.func77 (by kernel_rfl) rfl #[.int .i64 a1] rfl (by (try simp only [List.map_toArray, List.map_cons, List.map_nil]); first | done | rfl | (simp only [List.length_drop, List.length_take]; rfl)) ?_; (with_reducible refine (cmp_isNaN_int64.calls a1 false _ A4.out).mono ?_); rintro e w' ⟨rfl, ⟨nd, rfl⟩⟩; refine ⟨_, rfl, ?_⟩; (try clear A4)))
     go_ret
     exact ⟨by first | rfl | (simp; done) | (simp [*]; done), by repeat (first | exact Drawn0.refl _ | apply Drawn0.step)⟩
    ·rw [if_neg c9] at H
     have c9b0 : decide (a1 < a0) = false := decide_eq_false c9
     clear c9
     obtain rfl := Option.some.inj H
     go_enter Try.func59, Try.ntmps59
     go_wp2_with (first | ((with_reducible refine gate_callee (f := 77) rfl ?_); refine goesL_ (some 8) rfl rfl Try.func77 (by kernel_rfl) rfl #[.int .i64 a0] rfl (by (try simp only [List.map_toArray, List.map_cons, List.map_nil]); first | done | rfl | (simp only [List.length_drop, List.length_take]; rfl)) ?_; (with_reducible refine (cmp_isNaN_int64.calls a0 false _ A3.out).mono ?_); rintro e w' ⟨rfl, ⟨nd, rfl⟩⟩; refine ⟨_, rfl, ?_⟩; (try clear A3)) | ((with_reducible refine gate_callee (f := 77) rfl ?_); refine goesL_ (some 10) rfl rfl Try.func77 (by kernel_rfl) rfl #[.int .i64 a1] rfl (by (try simp only [List.map_toArray, List.map_cons, List.map_nil]); first | done | rfl | (simp only [List.length_drop, List.length_take]; rfl)) ?_; (with_reducible refine (cmp_isNaN_int64.calls a1 false _ A4.out).mono ?_); rintro e w' ⟨rfl, ⟨nd, rfl⟩⟩; refine ⟨_, rfl, ?_⟩; (try clear A4)))
     go_ret
     exact ⟨by first | rfl | (simp; done) | (simp [*]; done), by repeat (first | exact Drawn0.refl _ | apply Drawn0.step)⟩

/-! ### fold_Sort: function 30 (given) -/
def fold_compare_g.f (k : Nat) (a0_0 : Int) (a0_1 : Int) (a0_2 : Int) (a1_0 : Int) (a1_1 : Int) (a1_2 : Int) : Option (Int) := (cmp_Compare_int.f a0_1 a1_1).bind fun t110 => ((cmp_Compare_int.f a0_0 a1_0).bind fun t111 => ((cmp_Compare_int64.f a0_2 a1_2).bind fun t112 => ((cmp_Or_int.f k (([t110, t111, t112] : List Int))).bind fun t116 => (some t116))))
section
open Go.Sort Go.Proofs.Ytpndhkeoljoapaa.Bridge
def fold_compare.T1g : Bool × List (List Nat × List Nat) := (true, [([], []), ([0], [0]), ([], []), ([2], [2]), ([1, 3], [1, 3]), ([], []), ([5], [5]), ([], []), ([7], [7]), ([6, 8, 4], [6, 8]), ([], []), ([10], [10]), ([], []), ([12], [12]), ([11, 13, 9], [11, 13]), ([4, 9, 14], [4, 9, 14]), ([15, 14], [15]), ([16, 16, 0, 1, 2, 3, 4, 5, 6, 7, 8, 9, 10, 11, 12, 13, 14, 15, 16], [16])])
def fold_compare.B1g : List Nat := [0, 1, 0, 4, 15, 0, 32, 0, 128, 511, 0, 1024, 0, 4096, 16383, 32767, 65535, 131071]
theorem fold_compare.tab1g : rtab .any (opsOf Try.f42 1) = fold_compare.T1g := by kernel_rfl
theorem fold_compare.bits1g : waitsOk fold_compare.T1g.2 fold_compare.B1g = true := by kernel_rfl
set_option maxHeartbeats 8000000 in
set_option maxRecDepth 100000 in
theorem fold_compare.grown (k : Nat) (a0_0 : Int) (a0_1 : Int) (a0_2 : Int) (a1_0 : Int) (a1_1 : Int) (a1_2 : Int) (r : Int) (w : World) (h : fold_compare_g.f k a0_0 a0_1 a0_2 a1_0 a1_1 a1_2 = some r) :
  Calls Try.prog 42 #[.agg #[.int .i64 a0_0, .int .i64 a0_1, .int .i64 a0_2], .agg #[.int .i64 a1_0, .int .i64 a1_1, .int .i64 a1_2]] w fun e w' => e = .returned (.int .i64 r) ∧ Grw w w' := by
 have hu := Try.underlying48
 have HB := Aside0.mk (Below.refl w.heap.size w)
 have H : ((cmp_Compare_int.f a0_1 a1_1).bind fun t110 => ((cmp_Compare_int.f a0_0 a1_0).bind fun t111 => ((cmp_Compare_int64.f a0_2 a1_2).bind fun t112 => ((cmp_Or_int.f k (([t110, t111, t112] : List Int))).bind fun t116 => (some t116))))) = some r := h
 clear h
 replace H := Option.bind_eq_some_iff.mp H
 obtain ⟨t110, A30, H⟩ := H
 replace H : ((cmp_Compare_int.f a0_0 a1_0).bind fun t111 => ((cmp_Compare_int64.f a0_2 a1_2).bind fun t112 => ((cmp_Or_int.f k (([t110, t111, t112] : List Int))).bind fun t116 => (some t116)))) = some r := H
 have A3 := Aside0.mk A30
 clear A30
 replace H := Option.bind_eq_some_iff.mp H
 obtain ⟨t111, A40, H⟩ := H
 replace H : ((cmp_Compare_int64.f a0_2 a1_2).bind fun t112 => ((cmp_Or_int.f k (([t110, t111, t112] : List Int))).bind fun t116 => (some t116))) = some r := H
 have A4 := Aside0.mk A40
 clear A40
 replace H := Option.bind_eq_some_iff.mp H
 obtain ⟨t112, A50, H⟩ := H
 replace H : ((cmp_Or_int.f k (([t110, t111, t112] : List Int))).bind fun t116 => (some t116)) = some r := H
 have A5 := Aside0.mk A50
 clear A50
 obtain ⟨y113, hy113⟩ : ∃ y_ : List Int, y_ = (([t110, t111, t112] : List Int)) := ⟨_, rfl⟩
 replace H : ((cmp_Or_int.f k y113).bind fun t116 => (some t116)) = some r := by first | (rw [hy113]; with_reducible exact H) | (have H2_ := (Option.bind_some _ _).symm.trans H; rw [hy113]; with_reducible exact H2_) | (have H2_ := (Option.bind_some _ _).symm.trans H; with_reducible exact H2_) | with_reducible exact H | (rw [hy113]; exact H) | exact H
 have Ny113 := Aside0.mk hy113
 clear hy113
 replace H := Option.bind_eq_some_iff.mp H
 obtain ⟨t116, A60, H⟩ := H
 replace H : (some t116) = some r := H
 have A6 := Aside0.mk A60
 clear A60
 obtain rfl := Option.some.inj H
 go_enter Try.func42, Try.ntmps42
 go_wp2_with (fail)
 refine start_ (n := 18) (S := fun w' => w'.cell? ⟨w.heap.size, 0, none⟩ = some (.int .i64 a0_0) ∧ w'.cell? ⟨w.heap.size, 1, none⟩ = some (.int .i64 a0_1) ∧ w'.cell? ⟨w.heap.size, 2, none⟩ = some (.int .i64 a0_2) ∧ w'.cell? ⟨(w.heap.size + 1), 0, none⟩ = some (.int .i64 a1_0) ∧ w'.cell? ⟨(w.heap.size + 1), 1, none⟩ = some (.int .i64 a1_1) ∧ w'.cell? ⟨(w.heap.size + 1), 2, none⟩ = some (.int .i64 a1_2)) (ds := []) #[false, false, false, false, false, false, false, false, false, false, false, false, false, false, false, false, false, false] (by kernel_rfl) rfl rfl ⟨by first | (simp; done) | (refine cell_old ?_; simp; done) | (show (World.alloc _ _).cell? _ = _; refine cell_old ?_; simp; done), by first | (simp; done) | (refine cell_old ?_; simp; done) | (show (World.alloc _ _).cell? _ = _; refine cell_old ?_; simp; done), by first | (simp; done) | (refine cell_old ?_; simp; done) | (show (World.alloc _ _).cell? _ = _; refine cell_old ?_; simp; done), by first | (simp; done) | (refine cell_old ?_; simp; done) | (show (World.alloc _ _).cell? _ = _; refine cell_old ?_; simp; done), by first | (simp; done) | (refine cell_old ?_; simp; done) | (show (World.alloc _ _).cell? _ = _; refine cell_old ?_; simp; done), by first | (simp; done) | (refine cell_old ?_; simp; done) | (show (World.alloc _ _).cell? _ = _; refine cell_old ?_; simp; done)⟩ (fun hHeld => ?_); refine with_tabW fold_compare.tab1g fold_compare.bits1g (fun HT_ HW_ => ?_)
 refine pure_ (i := 0) (N := some 5) (v := ?_) (a' := ?_) #[true, false, false, false, false, false, false, false, false, false, false, false, false, false, false, false, false, false] rfl rfl (any_of HT_.out (by kernel_rfl)) (fun _ _ _ h => h) (Or.inl ⟨by rfl, ?_⟩) ?_ ?_
 rotate_left
 ·intro w'
  go_simp
  with_reducible rfl
 rotate_left
 ·simp only [Act.put, List.setIfInBounds_toArray, List.set_cons_zero, List.set_cons_succ, i64_w, i32_w]
  rfl
 refine pure_ (i := 2) (N := some 7) (v := ?_) (a' := ?_) #[true, false, true, false, false, false, false, false, false, false, false, false, false, false, false, false, false, false] rfl rfl (any_of HT_.out (by kernel_rfl)) (fun _ _ _ h => h) (Or.inl ⟨by rfl, ?_⟩) ?_ ?_
 rotate_left
 ·intro w'
  go_simp
  with_reducible rfl
 rotate_left
 ·simp only [Act.put, List.setIfInBounds_toArray, List.set_cons_zero, List.set_cons_succ, i64_w, i32_w]
  rfl
 refine pure_ (i := 5) (N := some 10) (v := ?_) (a' := ?_) #[true, false, true, false, false, true, false, false, false, false, false, false, false, false, false, false, false, false] rfl rfl (any_of HT_.out (by kernel_rfl)) (fun _ _ _ h => h) (Or.inl ⟨by rfl, ?_⟩) ?_ ?_
 rotate_left
 ·intro w'
  go_simp
  with_reducible rfl
 rotate_left
 ·simp only [Act.put, List.setIfInBounds_toArray, List.set_cons_zero, List.set_cons_succ, i64_w, i32_w]
  rfl
 refine pure_ (i := 7) (N := some 12) (v := ?_) (a' := ?_) #[true, false, true, false, false, true, false, true, false, false, false, false, false, false, false, false, false, false] rfl rfl (any_of HT_.out (by kernel_rfl)) (fun _ _ _ h => h) (Or.inl ⟨by rfl, ?_⟩) ?_ ?_
 rotate_left
 ·intro w'
  go_simp
  with_reducible rfl
 rotate_left
 ·simp only [Act.put, List.setIfInBounds_toArray, List.set_cons_zero, List.set_cons_succ, i64_w, i32_w]
  rfl
 refine pure_ (i := 10) (N := some 15) (v := ?_) (a' := ?_) #[true, false, true, false, false, true, false, true, false, false, true, false, false, false, false, false, false, false] rfl rfl (any_of HT_.out (by kernel_rfl)) (fun _ _ _ h => h) (Or.inl ⟨by rfl, ?_⟩) ?_ ?_
 rotate_left
 ·intro w'
  go_simp
  with_reducible rfl
 rotate_left
 ·simp only [Act.put, List.setIfInBounds_toArray, List.set_cons_zero, List.set_cons_succ, i64_w, i32_w]
  rfl
 refine pure_ (i := 12) (N := some 17) (v := ?_) (a' := ?_) #[true, false, true, false, false, true, false, true, false, false, true, false, true, false, false, false, false, false] rfl rfl (any_of HT_.out (by kernel_rfl)) (fun _ _ _ h => h) (Or.inl ⟨by rfl, ?_⟩) ?_ ?_
 rotate_left
 ·intro w'
  go_simp
  with_reducible rfl
 rotate_left
 ·simp only [Act.put, List.setIfInBounds_toArray, List.set_cons_zero, List.set_cons_succ, i64_w, i32_w]
  rfl
 refine take_ (i := 1) (N := some 6) (v := ?_) (a' := ?_) #[true, true, true, false, false, true, false, true, false, false, true, false, true, false, false, false, false, false] rfl rfl (take_ofW HT_.out HW_.out (by kernel_rfl)) (fun _ _ _ h => h) (Or.inl ⟨by rfl, ?_⟩) hHeld ?_ ?_
 rotate_left
 ·rintro w' ⟨s0, s1, s2, s3, s4, s5⟩
  go_simp
  with_reducible rfl
 rotate_left
 ·simp only [Act.put, List.setIfInBounds_toArray, List.set_cons_zero, List.set_cons_succ, i64_w, i32_w]
  rfl
 refine take_ (i := 3) (N := some 8) (v := ?_) (a' := ?_) #[true, true, true, true, false, true, false, true, false, false, true, false, true, false, false, false, false, false] rfl rfl (take_ofW HT_.out HW_.out (by kernel_rfl)) (fun _ _ _ h => h) (Or.inl ⟨by rfl, ?_⟩) hHeld ?_ ?_
 rotate_left
 ·rintro w' ⟨s0, s1, s2, s3, s4, s5⟩
  go_simp
  with_reducible rfl
 rotate_left
 ·simp only [Act.put, List.setIfInBounds_toArray, List.set_cons_zero, List.set_cons_succ, i64_w, i32_w]
  rfl
 refine take_ (i := 6) (N := some 11) (v := ?_) (a' := ?_) #[true, true, true, true, false, true, true, true, false, false, true, false, true, false, false, false, false, false] rfl rfl (take_ofW HT_.out HW_.out (by kernel_rfl)) (fun _ _ _ h => h) (Or.inl ⟨by rfl, ?_⟩) hHeld ?_ ?_
 rotate_left
 ·rintro w' ⟨s0, s1, s2, s3, s4, s5⟩
  go_simp
  with_reducible rfl
 rotate_left
 ·simp only [Act.put, List.setIfInBounds_toArray, List.set_cons_zero, List.set_cons_succ, i64_w, i32_w]
  rfl
 refine take_ (i := 8) (N := some 13) (v := ?_) (a' := ?_) #[true, true, true, true, false, true, true, true, true, false, true, false, true, false, false, false, false, false] rfl rfl (take_ofW HT_.out HW_.out (by kernel_rfl)) (fun _ _ _ h => h) (Or.inl ⟨by rfl, ?_⟩) hHeld ?_ ?_
 rotate_left
 ·rintro w' ⟨s0, s1, s2, s3, s4, s5⟩
  go_simp
  with_reducible rfl
 rotate_left
 ·simp only [Act.put, List.setIfInBounds_toArray, List.set_cons_zero, List.set_cons_succ, i64_w, i32_w]
  rfl
 refine take_ (i := 11) (N := some 16) (v := ?_) (a' := ?_) #[true, true, true, true, false, true, true, true, true, false, true, true, true, false, false, false, false, false] rfl rfl (take_ofW HT_.out HW_.out (by kernel_rfl)) (fun _ _ _ h => h) (Or.inl ⟨by rfl, ?_⟩) hHeld ?_ ?_
 rotate_left
 ·rintro w' ⟨s0, s1, s2, s3, s4, s5⟩
  go_simp
  with_reducible rfl
 rotate_left
 ·simp only [Act.put, List.setIfInBounds_toArray, List.set_cons_zero, List.set_cons_succ, i64_w, i32_w]
  rfl
 refine take_ (i := 13) (N := some 18) (v := ?_) (a' := ?_) #[true, true, true, true, false, true, true, true, true, false, true, true, true, true, false, false, false, false] rfl rfl (take_ofW HT_.out HW_.out (by kernel_rfl)) (fun _ _ _ h => h) (Or.inl ⟨by rfl, ?_⟩) hHeld ?_ ?_
 rotate_left
 ·rintro w' ⟨s0, s1, s2, s3, s4, s5⟩
  go_simp
  with_reducible rfl
 rotate_left
 ·simp only [Act.put, List.setIfInBounds_toArray, List.set_cons_zero, List.set_cons_succ, i64_w, i32_w]
  rfl
 refine one_ (i := 4) (N := some 9) #[true, true, true, true, true, true, true, true, true, false, true, true, true, true, false, false, false, false] rfl rfl (one_of HT_.out (by kernel_rfl)) (by decide) (fun K hK => ?_)
 refine goes_ Try.func58 (by kernel_rfl) rfl #[.int .i64 a0_1, .int .i64 a1_1] (by rfl) rfl rfl (by (try simp only [List.map_toArray, List.map_cons, List.map_nil]); first | done | rfl | (simp only [List.length_drop, List.length_take]; rfl)) ?_
 with_reducible refine (cmp_Compare_int.calls a0_1 a1_1 t110 _ A3.out).mono ?_
 rintro e w' ⟨rfl, ⟨nd, rfl⟩⟩
 refine ⟨_, rfl, ?_⟩
 refine hK.out _ _ ⟨by first | (simp; done) | (refine cell_old ?_; simp; done) | (show (World.alloc _ _).cell? _ = _; refine cell_old ?_; simp; done), by first | (simp; done) | (refine cell_old ?_; simp; done) | (show (World.alloc _ _).cell? _ = _; refine cell_old ?_; simp; done), by first | (simp; done) | (refine cell_old ?_; simp; done) | (show (World.alloc _ _).cell? _ = _; refine cell_old ?_; simp; done), by first | (simp; done) | (refine cell_old ?_; simp; done) | (show (World.alloc _ _).cell? _ = _; refine cell_old ?_; simp; done), by first | (simp; done) | (refine cell_old ?_; simp; done) | (show (World.alloc _ _).cell? _ = _; refine cell_old ?_; simp; done), by first | (simp; done) | (refine cell_old ?_; simp; done) | (show (World.alloc _ _).cell? _ = _; refine cell_old ?_; simp; done)⟩ (fun hHeld => ?_)
 clear hK K
 refine norm_ (a' := ?_) ?_ ?_
 rotate_left
 ·show Act.put _ (some 9) _ = _
  simp only [Act.put, List.setIfInBounds_toArray, List.set_cons_zero, List.set_cons_succ, i64_w, i32_w]
  rfl
 refine one_ (i := 9) (N := some 14) #[true, true, true, true, true, true, true, true, true, true, true, true, true, true, false, false, false, false] rfl rfl (one_of HT_.out (by kernel_rfl)) (by decide) (fun K hK => ?_)
 refine goes_ Try.func58 (by kernel_rfl) rfl #[.int .i64 a0_0, .int .i64 a1_0] (by rfl) rfl rfl (by (try simp only [List.map_toArray, List.map_cons, List.map_nil]); first | done | rfl | (simp only [List.length_drop, List.length_take]; rfl)) ?_
 with_reducible refine (cmp_Compare_int.calls a0_0 a1_0 t111 _ A4.out).mono ?_
 rintro e w' ⟨rfl, ⟨nd, rfl⟩⟩
 refine ⟨_, rfl, ?_⟩
 refine hK.out _ _ ⟨by first | (simp; done) | (refine cell_old ?_; simp; done) | (show (World.alloc _ _).cell? _ = _; refine cell_old ?_; simp; done), by first | (simp; done) | (refine cell_old ?_; simp; done) | (show (World.alloc _ _).cell? _ = _; refine cell_old ?_; simp; done), by first | (simp; done) | (refine cell_old ?_; simp; done) | (show (World.alloc _ _).cell? _ = _; refine cell_old ?_; simp; done), by first | (simp; done) | (refine cell_old ?_; simp; done) | (show (World.alloc _ _).cell? _ = _; refine cell_old ?_; simp; done), by first | (simp; done) | (refine cell_old ?_; simp; done) | (show (World.alloc _ _).cell? _ = _; refine cell_old ?_; simp; done), by first | (simp; done) | (refine cell_old ?_; simp; done) | (show (World.alloc _ _).cell? _ = _; refine cell_old ?_; simp; done)⟩ (fun hHeld => ?_)
 clear hK K
 refine norm_ (a' := ?_) ?_ ?_
 rotate_left
 ·show Act.put _ (some 14) _ = _
  simp only [Act.put, List.setIfInBounds_toArray, List.set_cons_zero, List.set_cons_succ, i64_w, i32_w]
  rfl
 refine one_ (i := 14) (N := some 19) #[true, true, true, true, true, true, true, true, true, true, true, true, true, true, true, false, false, false] rfl rfl (one_of HT_.out (by kernel_rfl)) (by decide) (fun K hK => ?_)
 refine goes_ Try.func59 (by kernel_rfl) rfl #[.int .i64 a0_2, .int .i64 a1_2] (by rfl) rfl rfl (by (try simp only [List.map_toArray, List.map_cons, List.map_nil]); first | done | rfl | (simp only [List.length_drop, List.length_take]; rfl)) ?_
 with_reducible refine (cmp_Compare_int64.calls a0_2 a1_2 t112 _ A5.out).mono ?_
 rintro e w' ⟨rfl, ⟨nd, rfl⟩⟩
 refine ⟨_, rfl, ?_⟩
 refine hK.out _ _ ⟨by first | (simp; done) | (refine cell_old ?_; simp; done) | (show (World.alloc _ _).cell? _ = _; refine cell_old ?_; simp; done), by first | (simp; done) | (refine cell_old ?_; simp; done) | (show (World.alloc _ _).cell? _ = _; refine cell_old ?_; simp; done), by first | (simp; done) | (refine cell_old ?_; simp; done) | (show (World.alloc _ _).cell? _ = _; refine cell_old ?_; simp; done), by first | (simp; done) | (refine cell_old ?_; simp; done) | (show (World.alloc _ _).cell? _ = _; refine cell_old ?_; simp; done), by first | (simp; done) | (refine cell_old ?_; simp; done) | (show (World.alloc _ _).cell? _ = _; refine cell_old ?_; simp; done), by first | (simp; done) | (refine cell_old ?_; simp; done) | (show (World.alloc _ _).cell? _ = _; refine cell_old ?_; simp; done)⟩ (fun hHeld => ?_)
 clear hK K
 refine norm_ (a' := ?_) ?_ ?_
 rotate_left
 ·show Act.put _ (some 19) _ = _
  simp only [Act.put, List.setIfInBounds_toArray, List.set_cons_zero, List.set_cons_succ, i64_w, i32_w]
  rfl
 refine one_ (i := 15) (N := some 20) #[true, true, true, true, true, true, true, true, true, true, true, true, true, true, true, true, false, false] rfl rfl (one_of HT_.out (by kernel_rfl)) (by decide) (fun K hK => ?_)
 refine lit_exact (inner := [.int .i64 t110, .int .i64 t111, .int .i64 t112]) (e := 3) (n := 3) ?hg ?hr ?_
 case hg => rfl
 case hr => first | (go_simp; done) | (go_simp; rfl)
 refine hK.out _ _ ⟨by first | (simp; done) | (refine cell_old ?_; simp; done) | (show (World.alloc _ _).cell? _ = _; refine cell_old ?_; simp; done), by first | (simp; done) | (refine cell_old ?_; simp; done) | (show (World.alloc _ _).cell? _ = _; refine cell_old ?_; simp; done), by first | (simp; done) | (refine cell_old ?_; simp; done) | (show (World.alloc _ _).cell? _ = _; refine cell_old ?_; simp; done), by first | (simp; done) | (refine cell_old ?_; simp; done) | (show (World.alloc _ _).cell? _ = _; refine cell_old ?_; simp; done), by first | (simp; done) | (refine cell_old ?_; simp; done) | (show (World.alloc _ _).cell? _ = _; refine cell_old ?_; simp; done), by first | (simp; done) | (refine cell_old ?_; simp; done) | (show (World.alloc _ _).cell? _ = _; refine cell_old ?_; simp; done)⟩ (fun hHeld => ?_)
 clear hK K
 refine norm_ (a' := ?_) ?_ ?_
 rotate_left
 ·show Act.put _ (some 20) _ = _
  simp only [Act.put, List.setIfInBounds_toArray, List.set_cons_zero, List.set_cons_succ, i64_w, i32_w]
  rfl
 refine one_ (i := 16) (N := some 21) #[true, true, true, true, true, true, true, true, true, true, true, true, true, true, true, true, true, false] rfl rfl (one_of HT_.out (by kernel_rfl)) (by decide) (fun K hK => ?_)
 refine goes_ Try.func57 (by kernel_rfl) rfl #[.slice (some ⟨_, 0, none⟩) 3 3] (by rfl) rfl rfl (by (try simp only [List.map_toArray, List.map_cons, List.map_nil]); first | done | rfl | (simp only [List.length_drop, List.length_take]; rfl)) ?_
 rw [Ny113.out] at A6
 refine (cmp_Or_int.calls k (some ⟨_, 0, none⟩) 3 [t110, t111, t112] t116 _ ?side1 (by simp) A6.out).mono ?_
 case side1 =>
  refine Kd.C_of_reads (d := (0 : Int)) (h1 := fun _ => rfl) ⟨rfl, by simp, fun _ => ⟨_, rfl, fun j hj => ?_⟩⟩
  match j, hj with
  | 0, _ => refine (show World.cell? _ ⟨_, 0, none⟩ = _ from ?_); rw [World.cell?_alloc_at _ _ _ _ (by simp)]; rfl
  | 1, _ => refine (show World.cell? _ ⟨_, 1, none⟩ = _ from ?_); rw [World.cell?_alloc_at _ _ _ _ (by simp)]; rfl
  | 2, _ => refine (show World.cell? _ ⟨_, 2, none⟩ = _ from ?_); rw [World.cell?_alloc_at _ _ _ _ (by simp)]; rfl
 rintro e w' ⟨rfl, ⟨nd, rfl⟩⟩
 refine ⟨_, rfl, ?_⟩
 refine hK.out _ _ ⟨by first | (simp; done) | (refine cell_old ?_; simp; done) | (show (World.alloc _ _).cell? _ = _; refine cell_old ?_; simp; done), by first | (simp; done) | (refine cell_old ?_; simp; done) | (show (World.alloc _ _).cell? _ = _; refine cell_old ?_; simp; done), by first | (simp; done) | (refine cell_old ?_; simp; done) | (show (World.alloc _ _).cell? _ = _; refine cell_old ?_; simp; done), by first | (simp; done) | (refine cell_old ?_; simp; done) | (show (World.alloc _ _).cell? _ = _; refine cell_old ?_; simp; done), by first | (simp; done) | (refine cell_old ?_; simp; done) | (show (World.alloc _ _).cell? _ = _; refine cell_old ?_; simp; done), by first | (simp; done) | (refine cell_old ?_; simp; done) | (show (World.alloc _ _).cell? _ = _; refine cell_old ?_; simp; done)⟩ (fun hHeld => ?_)
 clear hK K
 refine norm_ (a' := ?_) ?_ ?_
 rotate_left
 ·show Act.put _ (some 21) _ = _
  simp only [Act.put, List.setIfInBounds_toArray, List.set_cons_zero, List.set_cons_succ, i64_w, i32_w]
  rfl
 refine pure_ (i := 17) (N := some 4) (v := ?_) (a' := ?_) #[true, true, true, true, true, true, true, true, true, true, true, true, true, true, true, true, true, true] rfl rfl (any_of HT_.out (by kernel_rfl)) (fun _ _ _ h => h) (Or.inl ⟨by rfl, ?_⟩) ?_ ?_
 rotate_left
 ·intro w'
  go_simp
  with_reducible rfl
 rotate_left
 ·simp only [Act.put, List.setIfInBounds_toArray, List.set_cons_zero, List.set_cons_succ, i64_w, i32_w]
  rfl
 refine done_ (done_of HT_.out (by kernel_rfl)) ?_
 try go_wp2
 go_ret
 refine ⟨by first | rfl | (simp [*]; done), ?_⟩
 repeat (first | exact Grw.refl _ | apply Grw.drewN | apply Grw.drew | apply Grw.alloc)

end
/-- Which of two messages is ahead: by To, From, Val. -/
def cfMsg (x y : S48) : Int := if x.f1 < y.f1 then -1 else if x.f1 > y.f1 then 1 else if x.f0 < y.f0 then -1 else if x.f0 > y.f0 then 1 else if x.f2 < y.f2 then -1 else if x.f2 > y.f2 then 1 else 0
def ltMsg (x y : S48) : Bool := decide (x.f1 < y.f1) || (decide (x.f1 = y.f1) && (decide (x.f0 < y.f0) || (decide (x.f0 = y.f0) && decide (x.f2 < y.f2))))
instance : Inhabited S48 := ⟨z48⟩
/-- Messages in order. -/
def sortMsg (l : List S48) : List S48 := l.mergeSort fun x y => !ltMsg y x
def fold_Sort.f (l0 : List S48) : Option (List S48) := if l0.length < 5864062014805 then some (sortMsg l0) else none
section
open Go.Sort Go.Shelf Go.Proofs.Ytpndhkeoljoapaa.Bridge
theorem ltOf_cfMsg : ltOf cfMsg = ltMsg := by
 funext x y
 unfold ltOf cfMsg ltMsg
 by_cases h1 : x.f1 < y.f1
 ·simp [h1]
 ·by_cases h2 : x.f1 > y.f1
  ·have h3 : ¬ x.f1 = y.f1 := by omega
   simp [h1, h2, h3]
  ·have h3 : x.f1 = y.f1 := by omega
   rw [if_neg h1, if_neg h2]
   by_cases h4 : x.f0 < y.f0
   ·simp [h3, h4]
   ·by_cases h5 : x.f0 > y.f0
    ·have h6 : ¬ x.f0 = y.f0 := by omega
     simp [h3, h4, h5, h6]
    ·have h6 : x.f0 = y.f0 := by omega
     rw [if_neg h4, if_neg h5]
     by_cases h7 : x.f2 < y.f2
     ·simp [h3, h6, h7]
     ·by_cases h8 : x.f2 > y.f2 <;> simp [h3, h6, h7, h8]
theorem ltMsg_iff (x y : S48) : ltMsg x y = true ↔ x.f1 < y.f1 ∨ (x.f1 = y.f1 ∧ (x.f0 < y.f0 ∨ (x.f0 = y.f0 ∧ x.f2 < y.f2))) := by
 unfold ltMsg
 simp only [Bool.or_eq_true, Bool.and_eq_true, decide_eq_true_eq]
theorem ltMsg_not (x y : S48) : ltMsg x y = false ↔ ¬ (x.f1 < y.f1 ∨ (x.f1 = y.f1 ∧ (x.f0 < y.f0 ∨ (x.f0 = y.f0 ∧ x.f2 < y.f2)))) := by
 rw [← ltMsg_iff]; simp
theorem swoMsg : SWO (ltOf cfMsg) where
 irrefl x := by rw [ltOf_cfMsg, ltMsg_not]; omega
 trans x y z h1 h2 := by rw [ltOf_cfMsg, ltMsg_iff] at *; omega
 ntrans x y z h1 h2 := by rw [ltOf_cfMsg, ltMsg_not] at *; omega
theorem totalMsg (x y : S48) (h1 : ltOf cfMsg x y = false) (h2 : ltOf cfMsg y x = false) : x = y := by
 rw [ltOf_cfMsg, ltMsg_not] at *
 cases x; cases y
 simp only at h1 h2
 congr 1 <;> omega
theorem compare_int_f (a b : Int) : cmp_Compare_int.f a b = some (if a < b then -1 else if a > b then 1 else 0) := by
 unfold cmp_Compare_int.f cmp_isNaN_int.f
 simp only [bne_self_eq_false, Option.bind_some, Bool.false_eq_true, if_false]
 split
 ·rfl
 ·split <;> rfl
theorem compare_int64_f (a b : Int) : cmp_Compare_int64.f a b = some (if a < b then -1 else if a > b then 1 else 0) := by
 unfold cmp_Compare_int64.f cmp_isNaN_int64.f
 simp only [bne_self_eq_false, Option.bind_some, Bool.false_eq_true, if_false]
 split
 ·rfl
 ·split <;> rfl
theorem or_int_f (a b c : Int) : cmp_Or_int.f 5 [a, b, c] = some (if a = 0 then if b = 0 then c else b else a) := by
 unfold cmp_Or_int.f
 have w0 : wrap64 (0 + 1) = 1 := by unfold wrap64; omega
 have w1 : wrap64 (1 + 1) = 2 := by unfold wrap64; omega
 have w2 : wrap64 (2 + 1) = 3 := by unfold wrap64; omega
 have r0 : rd [a, b, c] 0 = a := rfl
 have r1 : rd [a, b, c] 1 = b := rfl
 have r2 : rd [a, b, c] 2 = c := rfl
 simp only [List.length_cons, List.length_nil]
 simp only [cmp_Or_int.l0, r0, w0, r1, w1, r2, w2]
 by_cases h1 : a = 0
 ·subst h1
  by_cases h2 : b = 0
  ·subst h2
   by_cases h3 : c = 0
   ·subst h3; simp
   ·simp [h3]
  ·simp [h2]
 ·simp [h1]
theorem fold_compare_cf (x y : S48) : fold_compare_g.f 5 x.f0 x.f1 x.f2 y.f0 y.f1 y.f2 = some (cfMsg x y) := by
 unfold fold_compare_g.f cfMsg
 rw [compare_int_f, compare_int_f, compare_int64_f]
 simp only [Option.bind_some]
 rw [or_int_f]
 simp only [Option.bind_some]
 congr 1
 by_cases h1 : x.f1 < y.f1
 ·simp [h1]
 ·by_cases h2 : x.f1 > y.f1
  ·simp [h1, h2]
  ·simp only [h1, h2, if_false, if_true]
   by_cases h4 : x.f0 < y.f0
   ·simp [h4]
   ·by_cases h5 : x.f0 > y.f0
    ·simp [h4, h5]
    ·simp only [h4, h5, if_false, if_true]
def encMsg (x : S48) : List Value := [.int .i64 x.f0, .int .i64 x.f1, .int .i64 x.f2]
theorem encMsg_one (x : S48) : ∀ v ∈ encMsg x, v.oneCell' = true := by
 intro v hv
 simp only [encMsg, List.mem_cons, List.not_mem_nil, or_false] at hv
 rcases hv with rfl | rfl | rfl <;> rfl
theorem flatMsg : Flat k48 encMsg where
 K w x cs := ⟨fun h => k48_open h, fun h => h ▸ k48_mk w x⟩
 M w base ok x cs := ⟨fun h => k48_openM h, fun h => h ▸ k48_mkM w base ok x⟩
 len x := rfl
 pos := by decide
 one := encMsg_one
theorem cmpLaysMsg (blk off size : Nat) (w : World) : CmpLays Try.prog 42 #[] encMsg 3 cfMsg blk off size w :=
 fun _ _ _ _ x y => (fold_compare.grown 5 x.f0 x.f1 x.f2 y.f0 y.f1 y.f2 (cfMsg x y) _ (fold_compare_cf x y)).mono fun _ _ ⟨he, hg⟩ => ⟨he, hg.out⟩
/-- The sort of messages, in place: of a row of the call's own. -/
theorem sort_msgs (W : World) (base cap : Nat) (ok : Nat → Prop) (v : Value) (l : List S48) (hl : l.length < 4611686018427387904) (hbase : base ≤ W.heap.size) (h : Kd.R k48 48 W base ok v l) :
  Calls Try.prog 41 #[v, .func (.func 42) #[] #[]] W fun e w' => e = .returned (.tuple #[]) ∧ Kd.R k48 48 w' base ok v (sortMsg l) ∧ Below base W w' := by
 by_cases hn : l = []
 ·subst hn
  obtain ⟨A, c, rfl⟩ := Kd.R_slice h
  refine (AnyF.slices_SortFunc_none Try.sortMsg A c _ W).mono fun e w' ⟨he, hw⟩ => ?_
  subst hw
  exact ⟨he, by simpa [sortMsg] using h, Below.refl _ _⟩
 ·obtain ⟨g, cap, rfl, hb, hg, hok, hH⟩ := holds_of_R flatMsg h hn
  have eg : ∀ args w, (callFunc 42 args).run Try.prog w = .ok (.enter 42 args) w := enters_of Try.func42 (by kernel_rfl) rfl
  have hs := AnyQ.slices_SortFunc_total Try.sortMsg 3 Try.isAgg48 Try.sizeOf48 encMsg (fun _ => rfl) encMsg_one cfMsg swoMsg 42 #[] g 0 cap l.toArray W eg (cmpLaysMsg _ _ _ _) hH hg (by simpa using hl) totalMsg
  simp only [List.size_toArray] at hs
  change Calls Try.prog 41 _ _ _ at hs
  refine hs.mono ?_
  rintro e w' ⟨he, n, os, rfl⟩
  rw [ltOf_cfMsg]
  refine ⟨he, ?_, below_sortWorldK 3 g n _ os hb hbase⟩
  have := R_of_sorted flatMsg h n (l.mergeSort fun x y => !ltMsg y x).toArray (by simp) os
  simp only [List.toList_toArray] at this
  exact this
end
set_option maxHeartbeats 8000000 in
set_option maxRecDepth 100000 in
theorem fold_Sort.calls (A0 : Option Addr) (c0 : Nat) (l0 : List S48) (r : List S48) (w : World) (hr0 : Kd.C k48 w A0 l0.length l0) (hc0 : l0.length ≤ c0) (h : fold_Sort.f l0 = some r) :
  Calls Try.prog 30 #[.slice A0 l0.length c0] w fun e w' => ∃ v0_ : Value, e = .returned (v0_) ∧ Kd.R k48 48 w' w.heap.size (fun _ => True) v0_ r ∧ Below w.heap.size w w' := by
 have HR0 := Aside0.mk hr0
 have HC0 := Aside0.mk hc0
 clear hr0 hc0
 have HB := Aside0.mk (Below.refl w.heap.size w)
 unfold fold_Sort.f at h
 by_cases c2 : l0.length < 5864062014805
 ·rw [if_pos c2] at h
  obtain rfl := Option.some.inj h
  have LM := Aside0.mk c2
  clear c2 h
  have HS := fun (W : World) (v : Value) (hb : w.heap.size ≤ W.heap.size) (h : Kd.R k48 48 W w.heap.size (fun _ => True) v l0) => sort_msgs W w.heap.size 0 (fun _ => True) v l0 (by have := LM.out; omega) hb h
  go_enter Try.func30, Try.ntmps30
  go_wp2_with (first | (at_builtin; refine Kd.R_append_rows k48 (w0 := w) w.heap.size rfl (.const (.slice none 0 0)) (.tmp 4) 37 48 (.agg #[(.int .i64 0), (.int .i64 0), (.int .i64 0)]) 24 rfl Try.underlying37 info48 rfl (by decide) (by omega) (.slice none 0 0) [] l0 _ _ _ (fun _ => True) (fun _ => False) rfl rfl (Kd.R_nil _ _ _ _ _) HR0.out (fun _ _ h => h) (fun _ h => h.elim) (fun _ _ => trivial) HB.out (Nat.le_refl _) (by have := LM.out; simp; omega) ?_; intro v146 w5 ho hb hg hat; (simp only [List.nil_append] at ho); have n0_ := Aside0.mk (hb); have n1_ := Aside0.mk (ho); clear HB; have HB := n0_; have HO147 := n1_; clear n0_ n1_; clear ho hb hg hat) | (go_at_call 41; refine (HS _ _ (by have := HB.out.size; exact this) HO147.out).mono ?_; rintro e w' ⟨rfl, hr, hb⟩; have HR9 := Aside0.mk hr; have HB9 := Aside0.mk (HB.out.trans hb); clear hr hb))
  go_ret
  exact ⟨_, rfl, HR9.out, HB9.out⟩
 ·rw [if_neg c2] at h
  exact absurd h (by simp)

/-! ### fold_pick: function 53 (given) -/
section
open Go.Sort Go.Shelf Go.Proofs.Ytpndhkeoljoapaa.Bridge
theorem take_snoc_filter {α : Type} (l : List α) (p : α → Bool) (i : Nat) (h : i < l.length) : (l.take (i + 1)).filter p = (l.take i).filter p ++ (if p l[i] = true then [l[i]] else []) := by
 rw [List.take_succ_eq_append_getElem h, List.filter_append]
 by_cases hp : p l[i] = true <;> simp [List.filter_cons, hp]
theorem rd_msg (l : List S48) (i : Nat) (h : i < l.length) : rd_T48 l (i : Int) = l[i] := by
 unfold rd_T48
 simp [List.getD_eq_getElem?_getD, List.getElem?_eq_getElem h]
set_option maxHeartbeats 8000000 in
set_option maxRecDepth 100000 in
theorem fold_pick.on (p : S48 → Bool) (g : Nat) (lb : Array Value) (eg : ∀ args w, (callFunc g args).run Try.prog w = .ok (.enter g args) w) (A0 : Option Addr) (c0 : Nat) (l0 : List S48) (w : World) (hr0 : Kd.C k48 w A0 l0.length l0) (hc0 : l0.length ≤ c0) (hlen : l0.length < 5864062014805) (hp : PredOn Try.prog g lb (fun x => .agg (encMsg x).toArray) p w) :
  Calls Try.prog 53 #[.slice A0 l0.length c0, .func (.func g) #[] lb] w fun e w' => ∃ v0_ : Value, e = .returned v0_ ∧ Kd.R k48 48 w' w.heap.size (fun _ => True) v0_ (l0.filter p) ∧ Below w.heap.size w w' := by
 have HR0 := Aside0.mk hr0
 have HL := Aside0.mk hlen
 have HP := Aside0.mk hp
 clear hr0 hc0 hlen hp
 go_enter Try.func53, Try.ntmps53
 go_wp2
 go_loopg [5, 10] (l0.length) (fun kq v5 v10 w' => ∃ (i : Nat), v10 = .int .i64 (i : Int) ∧ Aside0 (i + kq = l0.length) ∧ Aside0 (Kd.R k48 48 w' w.heap.size (fun _ => True) v5 ((l0.take i).filter p)) ∧ Aside0 (Below w.heap.size w w'))
 case atStart => exact ⟨0, rfl, ⟨by omega⟩, ⟨by simpa using Kd.R_nil _ _ _ _ _⟩, ⟨Below.refl _ _⟩⟩
 case round =>
  obtain ⟨i, rfl, HI, HO, HB⟩ := hrel
  by_cases hlt : i < l0.length
  ·have c1 : decide ((i : Int) < (l0.length : Int)) = true := decide_eq_true (by omega)
   have p1 : 0 ≤ (i : Int) := by omega
   have q1 : (i : Int) < (l0.length : Int) := by omega
   obtain ⟨ad, e1, hx0, hx1, hx2⟩ := at_T48 (Kd.C_below HR0.out HB.out) (i : Int) p1 q1
   cases e1
   rw [rd_msg l0 i hlt, Int.toNat_natCast] at hx0 hx1 hx2
   have hts := take_snoc_filter l0 p i hlt
   have HLT := Aside0.mk hlt
   generalize hy : l0[i] = y at hx0 hx1 hx2 hts
   clear hy
   have HTS := Aside0.mk hts
   clear hts hlt
   replace p1 := eq_true p1
   replace q1 := eq_true q1
   have hcall := fun (W : World) (hb : Below w.heap.size w W) => HP.out W y hb
   obtain ⟨gk1, rfl⟩ : ∃ m, gk = m + 1 := ⟨gk - 1, by have := HI.out; have := HLT.out; omega⟩
   have hw1 : wrap64 ((i : Int) + 1) = (i : Int) + 1 := by have h1 := HL.out; have h2 := HLT.out; unfold wrap64; omega
   cases hq : p y with
   | true =>
    rw [hq] at hcall HTS
    have HLE : Aside0 (((l0.take i).filter p).length < 5864062014805) := ⟨by have h1 := List.length_filter_le p (l0.take i); have h2 := HL.out; simp only [List.length_take] at h1; omega⟩
    go_wp2_with (first | (go_at_fn g; refine (hcall _ (below_alloc HB.out _)).mono ?_; rintro e w' ⟨rfl, hb⟩; have k0 := (hb.cell (p := ⟨wr.heap.size, 0, none⟩) (by simp)).trans (show _ = some (.int .i64 y.f0) by simp); have k1 := (hb.cell (p := ⟨wr.heap.size, 1, none⟩) (by simp)).trans (show _ = some (.int .i64 y.f1) by simp); have k2 := (hb.cell (p := ⟨wr.heap.size, 2, none⟩) (by simp)).trans (show _ = some (.int .i64 y.f2) by simp); have HB2 := Aside0.mk ((below_alloc HB.out (.cells #[.int .i64 y.f0, .int .i64 y.f1, .int .i64 y.f2] 48)).trans (hb.mono (by have := HB.out.size; simp; omega))); have HO2 := Aside0.mk (Kd.R_below (Kd.R_alloc HO.out (.cells #[.int .i64 y.f0, .int .i64 y.f1, .int .i64 y.f2] 48)) hb); clear hb HO) | (at_builtin; refine Kd.R_append k48 (w0 := w) w.heap.size rfl (.tmp 17) (.tmp 19) 37 48 (.agg #[(.int .i64 0), (.int .i64 0), (.int .i64 0)]) 24 rfl Try.underlying37 info48 rfl (by decide) (by omega) u5 ((l0.take i).filter p) y [.int .i64 y.f0, .int .i64 y.f1, .int .i64 y.f2] (fun _ => True) (fun _ => False) rfl rfl ?aP (fun _ hk => hk.elim) ?aF ?aO ?aB ?aS ?aL ?_; (case aP => exact k48_mkM _ _ _ y); (case aB => exact (by repeat (first | (with_reducible first | exact HB2.out | apply below_alloc | apply pw_below_drewN | apply below_drew1) | exact HB2.out))); (case aF => exact (fun _ _ => trivial)); (case aO => exact (kR HO2.out)); (case aS => exact (below_size (by repeat (first | (with_reducible first | exact HB2.out | apply below_alloc | apply pw_below_drewN | apply below_drew1) | exact HB2.out)))); (case aL => have := HLE.out; omega); intro v113 w10 ho hb hg hat; have n0_ := Aside0.mk (hb); have n1_ := Aside0.mk (ho); clear HB2; clear HO2; have HB2 := n0_; have HO114 := n1_; clear n0_ n1_; clear ho hb hg hat))
    go_roundg gk1
    case measure => omega
    case rel => exact ⟨i + 1, by go_num, ⟨by have := HI.out; omega⟩, ⟨by rw [HTS.out]; exact HO114.out⟩, HB2⟩
   | false =>
    rw [hq] at hcall HTS
    go_wp2_with (first | (go_at_fn g; refine (hcall _ (below_alloc HB.out _)).mono ?_; rintro e w' ⟨rfl, hb⟩; have k0 := (hb.cell (p := ⟨wr.heap.size, 0, none⟩) (by simp)).trans (show _ = some (.int .i64 y.f0) by simp); have k1 := (hb.cell (p := ⟨wr.heap.size, 1, none⟩) (by simp)).trans (show _ = some (.int .i64 y.f1) by simp); have k2 := (hb.cell (p := ⟨wr.heap.size, 2, none⟩) (by simp)).trans (show _ = some (.int .i64 y.f2) by simp); have HB2 := Aside0.mk ((below_alloc HB.out (.cells #[.int .i64 y.f0, .int .i64 y.f1, .int .i64 y.f2] 48)).trans (hb.mono (by have := HB.out.size; simp; omega))); have HO2 := Aside0.mk (Kd.R_below (Kd.R_alloc HO.out (.cells #[.int .i64 y.f0, .int .i64 y.f1, .int .i64 y.f2] 48)) hb); clear hb HO))
    go_roundg gk1
    case measure => omega
    case rel => exact ⟨i + 1, by go_num, ⟨by have := HI.out; omega⟩, ⟨by rw [HTS.out]; simpa using HO2.out⟩, HB2⟩
  ·have c1 : decide ((i : Int) < (l0.length : Int)) = false := decide_eq_false (by omega)
   have c1n : decide (i < l0.length) = false := decide_eq_false (by omega)
   have hi : i = l0.length := by have := HI.out; omega
   have HO3 : Aside0 (Kd.R k48 48 wr w.heap.size (fun _ => True) u5 (l0.filter p)) := ⟨by have := HO.out; rwa [hi, List.take_length] at this⟩
   clear hi HO HI hlt
   go_wp2
   go_ret
   exact ⟨_, rfl, HO3.out, HB.out⟩
end

/-! ### fold_To: function 39 (given) -/
def fold_To.f (l0 : List S48) (a1 : Int) : Option (List S48) := if l0.length < 5864062014805 then some (sortMsg (l0.filter fun x => x.f1 == a1)) else none
section
open Go.Sort Go.Shelf Go.Proofs.Ytpndhkeoljoapaa.Bridge
set_option maxHeartbeats 8000000 in
theorem fold_To_1.on (v : Int) (b : Nat) (w : World) (hb : b < w.heap.size) (hc : w.cell? ⟨b, 0, none⟩ = some (.int .i64 v)) : PredOn Try.prog 54 #[.pointer (some ⟨b, 0, none⟩)] (fun x => .agg (encMsg x).toArray) (fun x => x.f1 == v) w := fun W x hW => by
 have hc2 : W.cell? ⟨b, 0, none⟩ = some (.int .i64 v) := (hW.cell (p := ⟨b, 0, none⟩) hb).trans hc
 have hbW : b < W.heap.size := Nat.lt_of_lt_of_le hb hW.size
 have hne : b ≠ W.heap.size := by omega
 clear hc hb hW
 show Calls Try.prog 54 #[.agg #[.int .i64 x.f0, .int .i64 x.f1, .int .i64 x.f2], .pointer (some ⟨b, 0, none⟩)] W _
 go_enter Try.func54, Try.ntmps54
 go_wp2
 all_goals (go_ret; exact ⟨by first | rfl | (simp [*]; done), by repeat (first | exact Below.refl _ _ | apply below_alloc | apply pw_below_drewN)⟩)
set_option maxHeartbeats 8000000 in
set_option maxRecDepth 100000 in
theorem fold_To.calls (A0 : Option Addr) (c0 : Nat) (l0 : List S48) (a1 : Int) (r : List S48) (w : World) (hr0 : Kd.C k48 w A0 l0.length l0) (hc0 : l0.length ≤ c0) (h : fold_To.f l0 a1 = some r) :
  Calls Try.prog 39 #[.slice A0 l0.length c0, .int .i64 a1] w fun e w' => ∃ v0_ : Value, e = .returned (v0_) ∧ Kd.R k48 48 w' w.heap.size (fun _ => True) v0_ r ∧ Below w.heap.size w w' := by
 unfold fold_To.f at h
 by_cases c2 : l0.length < 5864062014805
 ·rw [if_pos c2] at h
  obtain rfl := Option.some.inj h
  clear h
  have eg : ∀ args w, (callFunc 54 args).run Try.prog w = .ok (.enter 54 args) w := enters_of Try.func54 (by kernel_rfl) rfl
  obtain ⟨W1, hW1⟩ : ∃ W1, w.alloc (.cells #[.int .i64 a1] 3) = W1 := ⟨_, rfl⟩
  have hb1 : Below w.heap.size w W1 := hW1 ▸ below_alloc (Below.refl _ _) _
  have hs1 : w.heap.size < W1.heap.size := by rw [← hW1]; simp
  have hcell : W1.cell? ⟨w.heap.size, 0, none⟩ = some (.int .i64 a1) := by rw [← hW1]; simp
  have HP := fold_pick.on (fun x => x.f1 == a1) 54 #[.pointer (some ⟨w.heap.size, 0, none⟩)] eg A0 c0 l0 W1 (Kd.C_below hr0 hb1) hc0 c2 (fold_To_1.on a1 _ W1 hs1 hcell)
  have hfl := List.length_filter_le (fun x : S48 => x.f1 == a1) l0
  generalize hq : l0.filter (fun x => x.f1 == a1) = q at HP hfl ⊢
  have HF : Aside0 (q.length < 5864062014805) := ⟨by omega⟩
  have HS : ∀ (W : World) (A : Option Addr) (c : Nat), Kd.C k48 W A q.length q → q.length ≤ c → Calls Try.prog 30 #[.slice A q.length c] W fun e w' => ∃ v0_ : Value, e = .returned (v0_) ∧ Kd.R k48 48 w' W.heap.size (fun _ => True) v0_ (sortMsg q) ∧ Below W.heap.size W w' :=
   fun W A c hr hc => fold_Sort.calls A c q (sortMsg q) W hr hc (by unfold fold_Sort.f; rw [if_pos HF.out])
  have HB := Aside0.mk hb1
  have HW := Aside0.mk hW1
  have HSZ := Aside0.mk hs1
  clear hq hfl hcell hb1 hs1 c2 hr0 hc0
  rw [← hW1] at HP
  clear hW1
  go_enter Try.func39, Try.ntmps39
  go_wp2_with (first | (go_at_call 53; refine HP.mono ?_; rintro e w2 ⟨v2, rfl, hr, hb⟩; rw [HW.out] at hr hb; have HB2 := Aside0.mk (HB.out.trans (hb.mono HB.out.size)); obtain ⟨A2, c2, e2⟩ := Kd.R_slice hr; subst e2; have HR2 := Aside0.mk (Kd.R_reads' hr).2; clear hr hb HB HW HSZ) | (go_at_call 30; refine (HS _ _ _ HR2.out.2 HR2.out.1).mono ?_; rintro e w3 ⟨v3, rfl, hr, hb⟩; have HR3 := Aside0.mk (Kd.R_lower hr HB2.out.size); have HB3 := Aside0.mk (HB2.out.trans (hb.mono HB2.out.size)); clear hr hb))
  go_ret
  exact ⟨_, rfl, HR3.out, HB3.out⟩
 ·rw [if_neg c2] at h
  exact absurd h (by simp)
end

end Go.Proofs.Ytpndhkeoljoapaa.P
