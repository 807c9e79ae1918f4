/- What these Go functions compute, as Lean functions, and that they do. No condition. -/
import Derived.Test.YtpndhkeoljoapaaGreatPx0
namespace Go.Proofs.YtpndhkeoljoapaaGreat.P
open Go.RowKit Go.Proofs.YtpndhkeoljoapaaGreatW.PrintWords Go.Proofs.YtpndhkeoljoapaaGreatW.PrintLast Go.Proofs.YtpndhkeoljoapaaGreatW.PrintMore
attribute [local go_sem] max2_int min2_int max_two min_two max_three min_three max_four min_four   -- for this text's walks alone
set_option linter.unusedVariables false
set_option linter.unusedSimpArgs false
set_option linter.unnecessarySimpa false
theorem iteS7 {α : Type} {c : Prop} [Decidable c] {a : Option α} {r : α} (h : (if c then a else none) = some r) : c ∧ a = some r := by
 by_cases hc : c
 ·rw [if_pos hc] at h; exact ⟨hc, h⟩
 ·rw [if_neg hc] at h; cases h

/-! ### cmp_Or_int: function 71 -/
def cmp_Or_int.l0 : Nat → Int → List Int → Int → Int → Option (Int)
 | 0, _, _, _, _ => none
 | k + 1, x3, x6, x7, x8 => if x8 < x7 then (if 0 ≤ x8 then (if x8 < (x6.length : Int) then (if (rd x6 x8) = x3 then (cmp_Or_int.l0 k x3 x6 x7 (wrap64 (x8 + 1))) else (some (rd x6 x8))) else (none)) else (none)) else (some x3)
def cmp_Or_int.f (k : Nat) (l0 : List Int) : Option (Int) := cmp_Or_int.l0 k 0 l0 (l0.length : Int) 0
theorem cmp_Or_int.mono_l : ∀ k, (∀ y0 y1 y2 y3, LeO (cmp_Or_int.l0 k y0 y1 y2 y3) (cmp_Or_int.l0 (k + 1) y0 y1 y2 y3))
 | 0 => fun _ _ _ _ r h => by simp [cmp_Or_int.l0] at h
 | k + 1 => by
  have ih0 := cmp_Or_int.mono_l k
  ·intro y0 y1 y2 y3
   unfold cmp_Or_int.l0
   repeat' first
   | (with_reducible exact ih0 _ _ _ _)
   | (with_reducible exact LeO.refl _)
   | (with_reducible exact LeO.none _)
   | (with_reducible refine LeO.ite ?_ ?_)
   | (with_reducible refine LeO.bind ?_ (fun _ => ?_))
   | exact ih0 _ _ _ _
   | exact LeO.none _
   | refine LeO.ite ?_ ?_
   | refine LeO.bind ?_ (fun _ => ?_)
theorem cmp_Or_int.mono : ∀ a0 k, LeO (cmp_Or_int.f k a0) (cmp_Or_int.f (k + 1) a0) := by
 intro a0 k
 have ih0 := cmp_Or_int.mono_l k
 unfold cmp_Or_int.f
 repeat' first
   | (with_reducible exact ih0 _ _ _ _)
   | (with_reducible exact LeO.refl _)
   | (with_reducible exact LeO.none _)
   | (with_reducible refine LeO.ite ?_ ?_)
   | (with_reducible refine LeO.bind ?_ (fun _ => ?_))
   | exact ih0 _ _ _ _
   | exact LeO.none _
   | refine LeO.ite ?_ ?_
   | refine LeO.bind ?_ (fun _ => ?_)
set_option maxHeartbeats 8000000 in
set_option maxRecDepth 100000 in
theorem cmp_Or_int.calls (k : Nat) (A0 : Option Addr) (c0 : Nat) (l0 : List Int) (r : Int) (w : World) (hr0 : Kd.C (Kd.int .i64) w A0 l0.length l0) (hc0 : l0.length ≤ c0) (h : cmp_Or_int.f k l0 = some r) :
  Calls Tryz.prog 71 #[.slice A0 l0.length c0] w fun e w' => e = .returned (.int .i64 r) ∧ Drawn0 w w' := by
 have HR0 := Aside0.mk hr0
 have HC0 := Aside0.mk hc0
 clear hr0 hc0
 have H : (cmp_Or_int.l0 k 0 l0 (l0.length : Int) 0) = some r := h
 clear h
 have H' := Aside0.mk H
 clear H
 go_enter Tryz.func71, Tryz.ntmps71
 go_wp2
 go_loopg [8] k (fun kq v8 w' => ∃ (x8_1 : Int), v8 = .int .i64 x8_1 ∧ Aside0 (cmp_Or_int.l0 kq 0 l0 (l0.length : Int) x8_1 = some r) ∧ Aside0 (kq ≤ k) ∧ Drawn0 w w')
 case atStart => exact ⟨(0), (by first | rfl | (simp; done) | (simp [*]; done)), H', ⟨Nat.le_refl _⟩, by repeat (first | exact Drawn0.refl _ | apply Drawn0.step)⟩
 case round =>
  clear H'
  obtain ⟨x8_1, rfl, HA, HK1, ⟨m1, rfl⟩⟩ := hrel
  cases gk with
  | zero => exact absurd HA.out (by simp [cmp_Or_int.l0])
  | succ k1 =>
   have H := HA.out
   clear HA
   simp only [cmp_Or_int.l0] at H
   by_cases c2 : x8_1 < (l0.length : Int)
   ·rw [if_pos c2] at H
    have c2b0 : decide (x8_1 < (l0.length : Int)) = true := decide_eq_true c2
    clear c2
    obtain ⟨c3, H⟩ := iteS7 H
    have c3b0 : decide (0 ≤ x8_1) = true := decide_eq_true c3
    clear c3
    obtain ⟨c4, H⟩ := iteS7 H
    have c4b0 : decide (x8_1 < (l0.length : Int)) = true := decide_eq_true c4
    clear c4
    by_cases c5 : (rd l0 x8_1) = 0
    ·rw [if_pos c5] at H
     have c5b0 : ((rd l0 x8_1) == 0) = true := beq_iff_eq.mpr c5
     have c5b1 : ((rd l0 x8_1) != 0) = false := bne_eq_false_iff_eq.mpr c5
     clear c5
     have H' := Aside0.mk H
     clear H
     have p112 : 0 ≤ (x8_1 : Int) := of_decide_eq_true (by first | (with_reducible assumption) | assumption)
     have q112 : x8_1 < (l0.length : Int) := of_decide_eq_true (by first | (with_reducible assumption) | assumption)
     obtain ⟨ad112, e112, hx112_0⟩ := Kd.at_int HR0.out x8_1 p112 q112
     cases e112
     replace p112 := eq_true p112
     replace q112 := eq_true q112
     go_wp2
     go_roundg k1
     case measure => have := HK1.out; omega
     case rel => exact ⟨(wrap64 (x8_1 + 1)), (by first | rfl | (simp; done) | (simp [*]; done)), H', ⟨by have := HK1.out; omega⟩, by repeat (first | exact Drawn0.refl _ | apply Drawn0.step)⟩
    ·rw [if_neg c5] at H
     have c5b0 : ((rd l0 x8_1) == 0) = false := beq_eq_false_iff_ne.mpr c5
     have c5b1 : ((rd l0 x8_1) != 0) = true := bne_iff_ne.mpr c5
     obtain rfl := Option.some.inj H
     have p112 : 0 ≤ (x8_1 : Int) := of_decide_eq_true (by first | (with_reducible assumption) | assumption)
     have q112 : x8_1 < (l0.length : Int) := of_decide_eq_true (by first | (with_reducible assumption) | assumption)
     obtain ⟨ad112, e112, hx112_0⟩ := Kd.at_int HR0.out x8_1 p112 q112
     cases e112
     replace p112 := eq_true p112
     replace q112 := eq_true q112
     go_wp2
     go_ret
     exact ⟨by first | rfl | (simp; done) | (simp [*]; done), by repeat (first | exact Drawn0.refl _ | apply Drawn0.step)⟩
   ·rw [if_neg c2] at H
    have c2b0 : decide (x8_1 < (l0.length : Int)) = false := decide_eq_false c2
    clear c2
    obtain rfl := Option.some.inj H
    go_wp2
    go_ret
    exact ⟨by first | rfl | (simp; done) | (simp [*]; done), by repeat (first | exact Drawn0.refl _ | apply Drawn0.step)⟩

/-! ### cmp_isNaN_int: function 93 -/
def cmp_isNaN_int.f (a0 : Int) : Option (Bool) := some (a0 != a0)
set_option maxHeartbeats 8000000 in
set_option maxRecDepth 100000 in
theorem cmp_isNaN_int.calls (a0 : Int) (r : Bool) (w : World) (h : cmp_isNaN_int.f a0 = some r) :
  Calls Tryz.prog 93 #[.int .i64 a0] w fun e w' => e = .returned (.bool r) ∧ Drawn0 w w' := by
 have H : (some (a0 != a0)) = some r := h
 clear h
 obtain rfl := Option.some.inj H
 go_enter Tryz.func93, Tryz.ntmps93
 go_wp2
 go_ret
 exact ⟨by first | rfl | (simp; done) | (simp [*]; done), by repeat (first | exact Drawn0.refl _ | apply Drawn0.step)⟩

/-! ### cmp_Compare_int: function 72 -/
def cmp_Compare_int.f (a0 : Int) (a1 : Int) : Option (Int) := (cmp_isNaN_int.f a0).bind fun t113 => ((cmp_isNaN_int.f a1).bind fun t114 => (if t113 = true then (if t114 = true then (some 0) else (some (-1))) else (if t114 = true then (some 1) else (if a0 < a1 then (some (-1)) else (if a0 > a1 then (some 1) else (some 0))))))
set_option maxHeartbeats 8000000 in
set_option maxRecDepth 100000 in
theorem cmp_Compare_int.calls (a0 : Int) (a1 : Int) (r : Int) (w : World) (h : cmp_Compare_int.f a0 a1 = some r) :
  Calls Tryz.prog 72 #[.int .i64 a0, .int .i64 a1] w fun e w' => e = .returned (.int .i64 r) ∧ Drawn0 w w' := by
 have H : ((cmp_isNaN_int.f a0).bind fun t113 => ((cmp_isNaN_int.f a1).bind fun t114 => (if t113 = true then (if t114 = true then (some 0) else (some (-1))) else (if t114 = true then (some 1) else (if a0 < a1 then (some (-1)) else (if a0 > a1 then (some 1) else (some 0))))))) = some r := h
 clear h
 replace H := Option.bind_eq_some_iff.mp H
 obtain ⟨t113, A30, H⟩ := H
 replace H : ((cmp_isNaN_int.f a1).bind fun t114 => (if t113 = true then (if t114 = true then (some 0) else (some (-1))) else (if t114 = true then (some 1) else (if a0 < a1 then (some (-1)) else (if a0 > a1 then (some 1) else (some 0)))))) = some r := H
 have A3 := Aside0.mk A30
 clear A30
 replace H := Option.bind_eq_some_iff.mp H
 obtain ⟨t114, A40, H⟩ := H
 replace H : (if t113 = true then (if t114 = true then (some 0) else (some (-1))) else (if t114 = true then (some 1) else (if a0 < a1 then (some (-1)) else (if a0 > a1 then (some 1) else (some 0))))) = some r := H
 have A4 := Aside0.mk A40
 clear A40
 by_cases c5 : t113 = true
 ·subst c5
  have H1 : (if t114 = true then (some 0) else (some (-1))) = some r := by rw [if_pos rfl] at H; exact H
  clear H
  have H := H1
  clear H1
  by_cases c6 : t114 = true
  ·subst c6
   have H1 : (some 0) = some r := by rw [if_pos rfl] at H; exact H
   clear H
   have H := H1
   clear H1
   obtain rfl := Option.some.inj H
   go_enter Tryz.func72, Tryz.ntmps72
   go_wp2_with (first | ((with_reducible refine gate_callee (f := 93) rfl ?_); refine gL_ (some 8) Tryz.func93 #[.int .i64 a0] ?_; (with_reducible refine (cmp_isNaN_int.calls a0 true _ A3.out).mono ?_); rintro e w' ⟨rfl, ⟨nd, rfl⟩⟩; refine ⟨_, rfl, ?_⟩; (try clear A3)) | ((with_reducible refine gate_callee (f := 93) rfl ?_); refine gL_ (some 10) Tryz.func93 #[.int .i64 a1] ?_; (with_reducible refine (cmp_isNaN_int.calls a1 true _ A4.out).mono ?_); rintro e w' ⟨rfl, ⟨nd, rfl⟩⟩; refine ⟨_, rfl, ?_⟩; (try clear A4)))
   go_ret
   exact ⟨by first | rfl | (simp; done) | (simp [*]; done), by repeat (first | exact Drawn0.refl _ | apply Drawn0.step)⟩
  ·replace c6 := Bool.eq_false_iff.mpr c6
   subst c6
   have H1 : (some (-1)) = some r := by rw [if_neg (show ¬ (false = true) by decide)] at H; exact H
   clear H
   have H := H1
   clear H1
   obtain rfl := Option.some.inj H
   go_enter Tryz.func72, Tryz.ntmps72
   go_wp2_with (first | ((with_reducible refine gate_callee (f := 93) rfl ?_); refine gL_ (some 8) Tryz.func93 #[.int .i64 a0] ?_; (with_reducible refine (cmp_isNaN_int.calls a0 true _ A3.out).mono ?_); rintro e w' ⟨rfl, ⟨nd, rfl⟩⟩; refine ⟨_, rfl, ?_⟩; (try clear A3)) | ((with_reducible refine gate_callee (f := 93) rfl ?_); refine gL_ (some 10) Tryz.func93 #[.int .i64 a1] ?_; (with_reducible refine (cmp_isNaN_int.calls a1 false _ A4.out).mono ?_); rintro e w' ⟨rfl, ⟨nd, rfl⟩⟩; refine ⟨_, rfl, ?_⟩; (try clear A4)))
   go_ret
   exact ⟨by first | rfl | (simp; done) | (simp [*]; done), by repeat (first | exact Drawn0.refl _ | apply Drawn0.step)⟩
 ·replace c5 := Bool.eq_false_iff.mpr c5
  subst c5
  have H1 : (if t114 = true then (some 1) else (if a0 < a1 then (some (-1)) else (if a0 > a1 then (some 1) else (some 0)))) = some r := by rw [if_neg (show ¬ (false = true) by decide)] at H; exact H
  clear H
  have H := H1
  clear H1
  by_cases c7 : t114 = true
  ·subst c7
   have H1 : (some 1) = some r := by rw [if_pos rfl] at H; exact H
   clear H
   have H := H1
   clear H1
   obtain rfl := Option.some.inj H
   go_enter Tryz.func72, Tryz.ntmps72
   go_wp2_with (first | ((with_reducible refine gate_callee (f := 93) rfl ?_); refine gL_ (some 8) Tryz.func93 #[.int .i64 a0] ?_; (with_reducible refine (cmp_isNaN_int.calls a0 false _ A3.out).mono ?_); rintro e w' ⟨rfl, ⟨nd, rfl⟩⟩; refine ⟨_, rfl, ?_⟩; (try clear A3)) | ((with_reducible refine gate_callee (f := 93) rfl ?_); refine gL_ (some 10) Tryz.func93 #[.int .i64 a1] ?_; (with_reducible refine (cmp_isNaN_int.calls a1 true _ A4.out).mono ?_); rintro e w' ⟨rfl, ⟨nd, rfl⟩⟩; refine ⟨_, rfl, ?_⟩; (try clear A4)))
   go_ret
   exact ⟨by first | rfl | (simp; done) | (simp [*]; done), by repeat (first | exact Drawn0.refl _ | apply Drawn0.step)⟩
  ·replace c7 := Bool.eq_false_iff.mpr c7
   subst c7
   have H1 : (if a0 < a1 then (some (-1)) else (if a0 > a1 then (some 1) else (some 0))) = some r := by rw [if_neg (show ¬ (false = true) by decide)] at H; exact H
   clear H
   have H := H1
   clear H1
   by_cases c8 : a0 < a1
   ·rw [if_pos c8] at H
    have c8b0 := decide_eq_true c8
    clear c8
    obtain rfl := Option.some.inj H
    go_enter Tryz.func72, Tryz.ntmps72
    go_wp2_with (first | ((with_reducible refine gate_callee (f := 93) rfl ?_); refine gL_ (some 8) Tryz.func93 #[.int .i64 a0] ?_; (with_reducible refine (cmp_isNaN_int.calls a0 false _ A3.out).mono ?_); rintro e w' ⟨rfl, ⟨nd, rfl⟩⟩; refine ⟨_, rfl, ?_⟩; (try clear A3)) | ((with_reducible refine gate_callee (f := 93) rfl ?_); refine gL_ (some 10) Tryz.func93 #[.int .i64 a1] ?_; (with_reducible refine (cmp_isNaN_int.calls a1 false _ A4.out).mono ?_); rintro e w' ⟨rfl, ⟨nd, rfl⟩⟩; refine ⟨_, rfl, ?_⟩; (try clear A4)))
    go_ret
    exact ⟨by first | rfl | (simp; done) | (simp [*]; done), by repeat (first | exact Drawn0.refl _ | apply Drawn0.step)⟩
   ·rw [if_neg c8] at H
    have c8b0 := decide_eq_false c8
    clear c8
    by_cases c9 : a0 > a1
    ·rw [if_pos c9] at H
     have c9b0 : decide (a1 < a0) = true := decide_eq_true c9
     clear c9
     obtain rfl := Option.some.inj H
     go_enter Tryz.func72, Tryz.ntmps72
     go_wp2_with (first | ((with_reducible refine gate_callee (f := 93) rfl ?_); refine gL_ (some 8) Tryz.func93 #[.int .i64 a0] ?_; (with_reducible refine (cmp_isNaN_int.calls a0 false _ A3.out).mono ?_); rintro e w' ⟨rfl, ⟨nd, rfl⟩⟩; refine ⟨_, rfl, ?_⟩; (try clear A3)) | ((with_reducible refine gate_callee (f := 93) rfl ?_); refine gL_ (some 10) Tryz.func93 #[.int .i64 a1] ?_; (with_reducible refine (cmp_isNaN_int.calls a1 false _ A4.out).mono ?_); rintro e w' ⟨rfl, ⟨nd, rfl⟩⟩; refine ⟨_, rfl, ?_⟩; (try clear A4)))
     go_ret
     exact ⟨by first | rfl | (simp; done) | (simp [*]; done), by repeat (first | exact Drawn0.refl _ | apply Drawn0.step)⟩
    ·rw [if_neg c9] at H
     have c9b0 : decide (a1 < a0) = false := decide_eq_false c9
     clear c9
     obtain rfl := Option.some.inj H
     go_enter Tryz.func72, Tryz.ntmps72
     go_wp2_with (first | ((with_reducible refine gate_callee (f := 93) rfl ?_); refine gL_ (some 8) Tryz.func93 #[.int .i64 a0] ?_; (with_reducible refine (cmp_isNaN_int.calls a0 false _ A3.out).mono ?_); rintro e w' ⟨rfl, ⟨nd, rfl⟩⟩; refine ⟨_, rfl, ?_⟩; (try clear A3)) | ((with_reducible refine gate_callee (f := 93) rfl ?_); refine gL_ (some 10) Tryz.func93 #[.int .i64 a1] ?_; (with_reducible refine (cmp_isNaN_int.calls a1 false _ A4.out).mono ?_); rintro e w' ⟨rfl, ⟨nd, rfl⟩⟩; refine ⟨_, rfl, ?_⟩; (try clear A4)))
     go_ret
     exact ⟨by first | rfl | (simp; done) | (simp [*]; done), by repeat (first | exact Drawn0.refl _ | apply Drawn0.step)⟩

/-! ### cmp_isNaN_int64: function 94 -/
def cmp_isNaN_int64.f (a0 : Int) : Option (Bool) := some (a0 != a0)
set_option maxHeartbeats 8000000 in
set_option maxRecDepth 100000 in
theorem cmp_isNaN_int64.calls (a0 : Int) (r : Bool) (w : World) (h : cmp_isNaN_int64.f a0 = some r) :
  Calls Tryz.prog 94 #[.int .i64 a0] w fun e w' => e = .returned (.bool r) ∧ Drawn0 w w' := by
 have H : (some (a0 != a0)) = some r := h
 clear h
 obtain rfl := Option.some.inj H
 go_enter Tryz.func94, Tryz.ntmps94
 go_wp2
 go_ret
 exact ⟨by first | rfl | (simp; done) | (simp [*]; done), by repeat (first | exact Drawn0.refl _ | apply Drawn0.step)⟩

/-! ### cmp_Compare_int64: function 73 -/
def cmp_Compare_int64.f (a0 : Int) (a1 : Int) : Option (Int) := (cmp_isNaN_int64.f a0).bind fun t115 => ((cmp_isNaN_int64.f a1).bind fun t116 => (if t115 = true then (if t116 = true then (some 0) else (some (-1))) else (if t116 = true then (some 1) else (if a0 < a1 then (some (-1)) else (if a0 > a1 then (some 1) else (some 0))))))
set_option maxHeartbeats 8000000 in
set_option maxRecDepth 100000 in
theorem cmp_Compare_int64.calls (a0 : Int) (a1 : Int) (r : Int) (w : World) (h : cmp_Compare_int64.f a0 a1 = some r) :
  Calls Tryz.prog 73 #[.int .i64 a0, .int .i64 a1] w fun e w' => e = .returned (.int .i64 r) ∧ Drawn0 w w' := by
 have H : ((cmp_isNaN_int64.f a0).bind fun t115 => ((cmp_isNaN_int64.f a1).bind fun t116 => (if t115 = true then (if t116 = true then (some 0) else (some (-1))) else (if t116 = true then (some 1) else (if a0 < a1 then (some (-1)) else (if a0 > a1 then (some 1) else (some 0))))))) = some r := h
 clear h
 replace H := Option.bind_eq_some_iff.mp H
 obtain ⟨t115, A30, H⟩ := H
 replace H : ((cmp_isNaN_int64.f a1).bind fun t116 => (if t115 = true then (if t116 = true then (some 0) else (some (-1))) else (if t116 = true then (some 1) else (if a0 < a1 then (some (-1)) else (if a0 > a1 then (some 1) else (some 0)))))) = some r := H
 have A3 := Aside0.mk A30
 clear A30
 replace H := Option.bind_eq_some_iff.mp H
 obtain ⟨t116, A40, H⟩ := H
 replace H : (if t115 = true then (if t116 = true then (some 0) else (some (-1))) else (if t116 = true then (some 1) else (if a0 < a1 then (some (-1)) else (if a0 > a1 then (some 1) else (some 0))))) = some r := H
 have A4 := Aside0.mk A40
 clear A40
 by_cases c5 : t115 = true
 ·subst c5
  have H1 : (if t116 = true then (some 0) else (some (-1))) = some r := by rw [if_pos rfl] at H; exact H
  clear H
  have H := H1
  clear H1
  by_cases c6 : t116 = true
  ·subst c6
   have H1 : (some 0) = some r := by rw [if_pos rfl] at H; exact H
   clear H
   have H := H1
   clear H1
   obtain rfl := Option.some.inj H
   go_enter Tryz.func73, Tryz.ntmps73
   go_wp2_with (first | ((with_reducible refine gate_callee (f := 94) rfl ?_); refine gL_ (some 8) Tryz.func94 #[.int .i64 a0] ?_; (with_reducible refine (cmp_isNaN_int64.calls a0 true _ A3.out).mono ?_); rintro e w' ⟨rfl, ⟨nd, rfl⟩⟩; refine ⟨_, rfl, ?_⟩; (try clear A3)) | ((with_reducible refine gate_callee (f := 94) rfl ?_); refine gL_ (some 10) Tryz.func94 #[.int .i64 a1] ?_; (with_reducible refine (cmp_isNaN_int64.calls a1 true _ A4.out).mono ?_); rintro e w' ⟨rfl, ⟨nd, rfl⟩⟩; refine ⟨_, rfl, ?_⟩; (try clear A4)))
   go_ret
   exact ⟨by first | rfl | (simp; done) | (simp [*]; done), by repeat (first | exact Drawn0.refl _ | apply Drawn0.step)⟩
  ·replace c6 := Bool.eq_false_iff.mpr c6
   subst c6
   have H1 : (some (-1)) = some r := by rw [if_neg (show ¬ (false = true) by decide)] at H; exact H
   clear H
   have H := H1
   clear H1
   obtain rfl := Option.some.inj H
   go_enter Tryz.func73, Tryz.ntmps73
   go_wp2_with (first | ((with_reducible refine gate_callee (f := 94) rfl ?_); refine gL_ (some 8) Tryz.func94 #[.int .i64 a0] ?_; (with_reducible refine (cmp_isNaN_int64.calls a0 true _ A3.out).mono ?_); rintro e w' ⟨rfl, ⟨nd, rfl⟩⟩; refine ⟨_, rfl, ?_⟩; (try clear A3)) | ((with_reducible refine gate_callee (f := 94) rfl ?_); refine gL_ (some 10) Tryz.func94 #[.int .i64 a1] ?_; (with_reducible refine (cmp_isNaN_int64.calls a1 false _ A4.out).mono ?_); rintro e w' ⟨rfl, ⟨nd, rfl⟩⟩; refine ⟨_, rfl, ?_⟩; (try clear A4)))
   go_ret
   exact ⟨by first | rfl | (simp; done) | (simp [*]; done), by repeat (first | exact Drawn0.refl _ | apply Drawn0.step)⟩
 ·replace c5 := Bool.eq_false_iff.mpr c5
  subst c5
  have H1 : (if t116 = true then (some 1) else (if a0 < a1 then (some (-1)) else (if a0 > a1 then (some 1) else (some 0)))) = some r := by rw [if_neg (show ¬ (false = true) by decide)] at H; exact H
  clear H
  have H := H1
  clear H1
  by_cases c7 : t116 = true
  ·subst c7
   have H1 : (some 1) = some r := by rw [if_pos rfl] at H; exact H
   clear H
   have H := H1
   clear H1
   obtain rfl := Option.some.inj H
   go_enter Tryz.func73, Tryz.ntmps73
   go_wp2_with (first | ((with_reducible refine gate_callee (f := 94) rfl ?_); refine gL_ (some 8) Tryz.func94 #[.int .i64 a0] ?_; (with_reducible refine (cmp_isNaN_int64.calls a0 false _ A3.out).mono ?_); rintro e w' ⟨rfl, ⟨nd, rfl⟩⟩; refine ⟨_, rfl, ?_⟩; (try clear A3)) | ((with_reducible refine gate_callee (f := 94) rfl ?_); refine gL_ (some 10) Tryz.func94 #[.int .i64 a1] ?_; (with_reducible refine (cmp_isNaN_int64.calls a1 true _ A4.out).mono ?_); rintro e w' ⟨rfl, ⟨nd, rfl⟩⟩; refine ⟨_, rfl, ?_⟩; (try clear A4)))
   go_ret
   exact ⟨by first | rfl | (simp; done) | (simp [*]; done), by repeat (first | exact Drawn0.refl _ | apply Drawn0.step)⟩
  ·replace c7 := Bool.eq_false_iff.mpr c7
   subst c7
   have H1 : (if a0 < a1 then (some (-1)) else (if a0 > a1 then (some 1) else (some 0))) = some r := by rw [if_neg (show ¬ (false = true) by decide)] at H; exact H
   clear H
   have H := H1
   clear H1
   by_cases c8 : a0 < a1
   ·rw [if_pos c8] at H
    have c8b0 := decide_eq_true c8
    clear c8
    obtain rfl := Option.some.inj H
    go_enter Tryz.func73, Tryz.ntmps73
    go_wp2_with (first | ((with_reducible refine gate_callee (f := 94) rfl ?_); refine gL_ (some 8) Tryz.func94 #[.int .i64 a0] ?_; (with_reducible refine (cmp_isNaN_int64.calls a0 false _ A3.out).mono ?_); rintro e w' ⟨rfl, ⟨nd, rfl⟩⟩; refine ⟨_, rfl, ?_⟩; (try clear A3)) | ((with_reducible refine gate_callee (f := 94) rfl ?_); refine gL_ (some 10) Tryz.func94 #[.int .i64 a1] ?_; (with_reducible refine (cmp_isNaN_int64.calls a1 false _ A4.out).mono ?_); rintro e w' ⟨rfl, ⟨nd, rfl⟩⟩; refine ⟨_, rfl, ?_⟩; (try clear A4)))
    go_ret
    exact ⟨by first | rfl | (simp; done) | (simp [*]; done), by repeat (first | exact Drawn0.refl _ | apply Drawn0.step)⟩
   ·rw [if_neg c8] at H
    have c8b0 := decide_eq_false c8
    clear c8
    by_cases c9 : a0 > a1
    ·rw [if_pos c9] at H
     have c9b0 : decide (a1 < a0) = true := decide_eq_true c9
     clear c9
     obtain rfl := Option.some.inj H
     go_enter Tryz.func73, Tryz.ntmps73
     go_wp2_with (first | ((with_reducible refine gate_callee (f := 94) rfl ?_); refine gL_ (some 8) Tryz.func94 #[.int .i64 a0] ?_; (with_reducible refine (cmp_isNaN_int64.calls a0 false _ A3.out).mono ?_); rintro e w' ⟨rfl, ⟨nd, rfl⟩⟩; refine ⟨_, rfl, ?_⟩; (try clear A3)) | ((with_reducible refine gate_callee (f := 94) rfl ?_); refine gL_ (some 10) Tryz.func94 #[.int .i64 a1] ?_; (with_reducible refine (cmp_isNaN_int64.calls a1 false _ A4.out).mono ?_); rintro e w' ⟨rfl, ⟨nd, rfl⟩⟩; refine ⟨_, rfl, ?_⟩; (try clear A4)))
     go_ret
     exact ⟨by first | rfl | (simp; done) | (simp [*]; done), by repeat (first | exact Drawn0.refl _ | apply Drawn0.step)⟩
    ·rw [if_neg c9] at H
     have c9b0 : decide (a1 < a0) = false := decide_eq_false c9
     clear c9
     obtain rfl := Option.some.inj H
     go_enter Tryz.func73, Tryz.ntmps73
     go_wp2_with (first | ((with_reducible refine gate_callee (f := 94) rfl ?_); refine gL_ (some 8) Tryz.func94 #[.int .i64 a0] ?_; (with_reducible refine (cmp_isNaN_int64.calls a0 false _ A3.out).mono ?_); rintro e w' ⟨rfl, ⟨nd, rfl⟩⟩; refine ⟨_, rfl, ?_⟩; (try clear A3)) | ((with_reducible refine gate_callee (f := 94) rfl ?_); refine gL_ (some 10) Tryz.func94 #[.int .i64 a1] ?_; (with_reducible refine (cmp_isNaN_int64.calls a1 false _ A4.out).mono ?_); rintro e w' ⟨rfl, ⟨nd, rfl⟩⟩; refine ⟨_, rfl, ?_⟩; (try clear A4)))
     go_ret
     exact ⟨by first | rfl | (simp; done) | (simp [*]; done), by repeat (first | exact Drawn0.refl _ | apply Drawn0.step)⟩

/-! ### fold_Sort: function 29 (given) -/
def fold_compare_g.f (k : Nat) (a0_0 : Int) (a0_1 : Int) (a0_2 : Int) (a1_0 : Int) (a1_1 : Int) (a1_2 : Int) : Option (Int) := (cmp_Compare_int.f a0_1 a1_1).bind fun t110 => ((cmp_Compare_int.f a0_0 a1_0).bind fun t111 => ((cmp_Compare_int64.f a0_2 a1_2).bind fun t112 => ((cmp_Or_int.f k (([t110, t111, t112] : List Int))).bind fun t116 => (some t116))))
section
open Go.Sort Go.Proofs.YtpndhkeoljoapaaGreat.Bridge
def fold_compare.T1g : Bool × List (List Nat × List Nat) := (true, [([], []), ([0], [0]), ([], []), ([2], [2]), ([1, 3], [1, 3]), ([], []), ([5], [5]), ([], []), ([7], [7]), ([6, 8, 4], [6, 8]), ([], []), ([10], [10]), ([], []), ([12], [12]), ([11, 13, 9], [11, 13]), ([4, 9, 14], [4, 9, 14]), ([15, 14], [15]), ([16, 16, 0, 1, 2, 3, 4, 5, 6, 7, 8, 9, 10, 11, 12, 13, 14, 15, 16], [16])])
def fold_compare.B1g : List Nat := [0, 1, 0, 4, 15, 0, 32, 0, 128, 511, 0, 1024, 0, 4096, 16383, 32767, 65535, 131071]
theorem fold_compare.tab1g : rtab .any (opsOf Tryz.f49 1) = fold_compare.T1g := by kernel_rfl
theorem fold_compare.bits1g : waitsOk fold_compare.T1g.2 fold_compare.B1g = true := by kernel_rfl
set_option maxHeartbeats 8000000 in
set_option maxRecDepth 100000 in
theorem fold_compare.grown (k : Nat) (a0_0 : Int) (a0_1 : Int) (a0_2 : Int) (a1_0 : Int) (a1_1 : Int) (a1_2 : Int) (r : Int) (w : World) (h : fold_compare_g.f k a0_0 a0_1 a0_2 a1_0 a1_1 a1_2 = some r) :
  Calls Tryz.prog 49 #[.agg #[.int .i64 a0_0, .int .i64 a0_1, .int .i64 a0_2], .agg #[.int .i64 a1_0, .int .i64 a1_1, .int .i64 a1_2]] w fun e w' => e = .returned (.int .i64 r) ∧ Grw w w' := by
 have hu := Tryz.underlying61
 have HB := Aside0.mk (Below.refl w.heap.size w)
 have H : ((cmp_Compare_int.f a0_1 a1_1).bind fun t110 => ((cmp_Compare_int.f a0_0 a1_0).bind fun t111 => ((cmp_Compare_int64.f a0_2 a1_2).bind fun t112 => ((cmp_Or_int.f k (([t110, t111, t112] : List Int))).bind fun t116 => (some t116))))) = some r := h
 clear h
 replace H := Option.bind_eq_some_iff.mp H
 obtain ⟨t110, A30, H⟩ := H
 replace H : ((cmp_Compare_int.f a0_0 a1_0).bind fun t111 => ((cmp_Compare_int64.f a0_2 a1_2).bind fun t112 => ((cmp_Or_int.f k (([t110, t111, t112] : List Int))).bind fun t116 => (some t116)))) = some r := H
 have A3 := Aside0.mk A30
 clear A30
 replace H := Option.bind_eq_some_iff.mp H
 obtain ⟨t111, A40, H⟩ := H
 replace H : ((cmp_Compare_int64.f a0_2 a1_2).bind fun t112 => ((cmp_Or_int.f k (([t110, t111, t112] : List Int))).bind fun t116 => (some t116))) = some r := H
 have A4 := Aside0.mk A40
 clear A40
 replace H := Option.bind_eq_some_iff.mp H
 obtain ⟨t112, A50, H⟩ := H
 replace H : ((cmp_Or_int.f k (([t110, t111, t112] : List Int))).bind fun t116 => (some t116)) = some r := H
 have A5 := Aside0.mk A50
 clear A50
 obtain ⟨y113, hy113⟩ : ∃ y_ : List Int, y_ = (([t110, t111, t112] : List Int)) := ⟨_, rfl⟩
 replace H : ((cmp_Or_int.f k y113).bind fun t116 => (some t116)) = some r := by first | (rw [hy113]; with_reducible exact H) | (have H2_ := (Option.bind_some _ _).symm.trans H; rw [hy113]; with_reducible exact H2_) | (have H2_ := (Option.bind_some _ _).symm.trans H; with_reducible exact H2_) | with_reducible exact H | (rw [hy113]; exact H) | exact H
 have Ny113 := Aside0.mk hy113
 clear hy113
 replace H := Option.bind_eq_some_iff.mp H
 obtain ⟨t116, A60, H⟩ := H
 replace H : (some t116) = some r := H
 have A6 := Aside0.mk A60
 clear A60
 obtain rfl := Option.some.inj H
 go_enter Tryz.func49, Tryz.ntmps49
 go_wp2_with (fail)
 refine start_ (n := 18) (S := fun w' => w'.cell? ⟨w.heap.size, 0, none⟩ = some (.int .i64 a0_0) ∧ w'.cell? ⟨w.heap.size, 1, none⟩ = some (.int .i64 a0_1) ∧ w'.cell? ⟨w.heap.size, 2, none⟩ = some (.int .i64 a0_2) ∧ w'.cell? ⟨(w.heap.size + 1), 0, none⟩ = some (.int .i64 a1_0) ∧ w'.cell? ⟨(w.heap.size + 1), 1, none⟩ = some (.int .i64 a1_1) ∧ w'.cell? ⟨(w.heap.size + 1), 2, none⟩ = some (.int .i64 a1_2)) (ds := []) #[false, false, false, false, false, false, false, false, false, false, false, false, false, false, false, false, false, false] (by kernel_rfl) rfl rfl ⟨by first | (simp; done) | (refine cell_old ?_; simp; done) | (show (World.alloc _ _).cell? _ = _; refine cell_old ?_; simp; done), by first | (simp; done) | (refine cell_old ?_; simp; done) | (show (World.alloc _ _).cell? _ = _; refine cell_old ?_; simp; done), by first | (simp; done) | (refine cell_old ?_; simp; done) | (show (World.alloc _ _).cell? _ = _; refine cell_old ?_; simp; done), by first | (simp; done) | (refine cell_old ?_; simp; done) | (show (World.alloc _ _).cell? _ = _; refine cell_old ?_; simp; done), by first | (simp; done) | (refine cell_old ?_; simp; done) | (show (World.alloc _ _).cell? _ = _; refine cell_old ?_; simp; done), by first | (simp; done) | (refine cell_old ?_; simp; done) | (show (World.alloc _ _).cell? _ = _; refine cell_old ?_; simp; done)⟩ (fun hHeld => ?_); refine with_tabW fold_compare.tab1g fold_compare.bits1g (fun HT_ HW_ => ?_)
 refine pure_ (i := 0) (N := some 5) (v := ?_) (a' := ?_) #[true, false, false, false, false, false, false, false, false, false, false, false, false, false, false, false, false, false] rfl rfl (any_of HT_.out (by kernel_rfl)) (fun _ _ _ h => h) (Or.inl ⟨by rfl, ?_⟩) ?_ ?_
 rotate_left
 ·intro w'
  go_simp
  with_reducible rfl
 rotate_left
 ·simp only [Act.put, List.setIfInBounds_toArray, List.set_cons_zero, List.set_cons_succ, i64_w, i32_w]
  rfl
 refine pure_ (i := 2) (N := some 7) (v := ?_) (a' := ?_) #[true, false, true, false, false, false, false, false, false, false, false, false, false, false, false, false, false, false] rfl rfl (any_of HT_.out (by kernel_rfl)) (fun _ _ _ h => h) (Or.inl ⟨by rfl, ?_⟩) ?_ ?_
 rotate_left
 ·intro w'
  go_simp
  with_reducible rfl
 rotate_left
 ·simp only [Act.put, List.setIfInBounds_toArray, List.set_cons_zero, List.set_cons_succ, i64_w, i32_w]
  rfl
 refine pure_ (i := 5) (N := some 10) (v := ?_) (a' := ?_) #[true, false, true, false, false, true, false, false, false, false, false, false, false, false, false, false, false, false] rfl rfl (any_of HT_.out (by kernel_rfl)) (fun _ _ _ h => h) (Or.inl ⟨by rfl, ?_⟩) ?_ ?_
 rotate_left
 ·intro w'
  go_simp
  with_reducible rfl
 rotate_left
 ·simp only [Act.put, List.setIfInBounds_toArray, List.set_cons_zero, List.set_cons_succ, i64_w, i32_w]
  rfl
 refine pure_ (i := 7) (N := some 12) (v := ?_) (a' := ?_) #[true, false, true, false, false, true, false, true, false, false, false, false, false, false, false, false, false, false] rfl rfl (any_of HT_.out (by kernel_rfl)) (fun _ _ _ h => h) (Or.inl ⟨by rfl, ?_⟩) ?_ ?_
 rotate_left
 ·intro w'
  go_simp
  with_reducible rfl
 rotate_left
 ·simp only [Act.put, List.setIfInBounds_toArray, List.set_cons_zero, List.set_cons_succ, i64_w, i32_w]
  rfl
 refine pure_ (i := 10) (N := some 15) (v := ?_) (a' := ?_) #[true, false, true, false, false, true, false, true, false, false, true, false, false, false, false, false, false, false] rfl rfl (any_of HT_.out (by kernel_rfl)) (fun _ _ _ h => h) (Or.inl ⟨by rfl, ?_⟩) ?_ ?_
 rotate_left
 ·intro w'
  go_simp
  with_reducible rfl
 rotate_left
 ·simp only [Act.put, List.setIfInBounds_toArray, List.set_cons_zero, List.set_cons_succ, i64_w, i32_w]
  rfl
 refine pure_ (i := 12) (N := some 17) (v := ?_) (a' := ?_) #[true, false, true, false, false, true, false, true, false, false, true, false, true, false, false, false, false, false] rfl rfl (any_of HT_.out (by kernel_rfl)) (fun _ _ _ h => h) (Or.inl ⟨by rfl, ?_⟩) ?_ ?_
 rotate_left
 ·intro w'
  go_simp
  with_reducible rfl
 rotate_left
 ·simp only [Act.put, List.setIfInBounds_toArray, List.set_cons_zero, List.set_cons_succ, i64_w, i32_w]
  rfl
 refine take_ (i := 1) (N := some 6) (v := ?_) (a' := ?_) #[true, true, true, false, false, true, false, true, false, false, true, false, true, false, false, false, false, false] rfl rfl (take_ofW HT_.out HW_.out (by kernel_rfl)) (fun _ _ _ h => h) (Or.inl ⟨by rfl, ?_⟩) hHeld ?_ ?_
 rotate_left
 ·rintro w' ⟨s0, s1, s2, s3, s4, s5⟩
  go_simp
  with_reducible rfl
 rotate_left
 ·simp only [Act.put, List.setIfInBounds_toArray, List.set_cons_zero, List.set_cons_succ, i64_w, i32_w]
  rfl
 refine take_ (i := 3) (N := some 8) (v := ?_) (a' := ?_) #[true, true, true, true, false, true, false, true, false, false, true, false, true, false, false, false, false, false] rfl rfl (take_ofW HT_.out HW_.out (by kernel_rfl)) (fun _ _ _ h => h) (Or.inl ⟨by rfl, ?_⟩) hHeld ?_ ?_
 rotate_left
 ·rintro w' ⟨s0, s1, s2, s3, s4, s5⟩
  go_simp
  with_reducible rfl
 rotate_left
 ·simp only [Act.put, List.setIfInBounds_toArray, List.set_cons_zero, List.set_cons_succ, i64_w, i32_w]
  rfl
 refine take_ (i := 6) (N := some 11) (v := ?_) (a' := ?_) #[true, true, true, true, false, true, true, true, false, false, true, false, true, false, false, false, false, false] rfl rfl (take_ofW HT_.out HW_.out (by kernel_rfl)) (fun _ _ _ h => h) (Or.inl ⟨by rfl, ?_⟩) hHeld ?_ ?_
 rotate_left
 ·rintro w' ⟨s0, s1, s2, s3, s4, s5⟩
  go_simp
  with_reducible rfl
 rotate_left
 ·simp only [Act.put, List.setIfInBounds_toArray, List.set_cons_zero, List.set_cons_succ, i64_w, i32_w]
  rfl
 refine take_ (i := 8) (N := some 13) (v := ?_) (a' := ?_) #[true, true, true, true, false, true, true, true, true, false, true, false, true, false, false, false, false, false] rfl rfl (take_ofW HT_.out HW_.out (by kernel_rfl)) (fun _ _ _ h => h) (Or.inl ⟨by rfl, ?_⟩) hHeld ?_ ?_
 rotate_left
 ·rintro w' ⟨s0, s1, s2, s3, s4, s5⟩
  go_simp
  with_reducible rfl
 rotate_left
 ·simp only [Act.put, List.setIfInBounds_toArray, List.set_cons_zero, List.set_cons_succ, i64_w, i32_w]
  rfl
 refine take_ (i := 11) (N := some 16) (v := ?_) (a' := ?_) #[true, true, true, true, false, true, true, true, true, false, true, true, true, false, false, false, false, false] rfl rfl (take_ofW HT_.out HW_.out (by kernel_rfl)) (fun _ _ _ h => h) (Or.inl ⟨by rfl, ?_⟩) hHeld ?_ ?_
 rotate_left
 ·rintro w' ⟨s0, s1, s2, s3, s4, s5⟩
  go_simp
  with_reducible rfl
 rotate_left
 ·simp only [Act.put, List.setIfInBounds_toArray, List.set_cons_zero, List.set_cons_succ, i64_w, i32_w]
  rfl
 refine take_ (i := 13) (N := some 18) (v := ?_) (a' := ?_) #[true, true, true, true, false, true, true, true, true, false, true, true, true, true, false, false, false, false] rfl rfl (take_ofW HT_.out HW_.out (by kernel_rfl)) (fun _ _ _ h => h) (Or.inl ⟨by rfl, ?_⟩) hHeld ?_ ?_
 rotate_left
 ·rintro w' ⟨s0, s1, s2, s3, s4, s5⟩
  go_simp
  with_reducible rfl
 rotate_left
 ·simp only [Act.put, List.setIfInBounds_toArray, List.set_cons_zero, List.set_cons_succ, i64_w, i32_w]
  rfl
 refine one_ (i := 4) (N := some 9) #[true, true, true, true, true, true, true, true, true, false, true, true, true, true, false, false, false, false] rfl rfl (one_of HT_.out (by kernel_rfl)) (by decide) (fun K hK => ?_)
 refine goes_ Tryz.func72 (by kernel_rfl) rfl #[.int .i64 a0_1, .int .i64 a1_1] (by rfl) rfl rfl (by (try simp only [List.map_toArray, List.map_cons, List.map_nil]); first | done | rfl | (simp only [List.length_drop, List.length_take]; rfl)) ?_
 with_reducible refine (cmp_Compare_int.calls a0_1 a1_1 t110 _ A3.out).mono ?_
 rintro e w' ⟨rfl, ⟨nd, rfl⟩⟩
 refine ⟨_, rfl, ?_⟩
 refine hK.out _ _ ⟨by first | (simp; done) | (refine cell_old ?_; simp; done) | (show (World.alloc _ _).cell? _ = _; refine cell_old ?_; simp; done), by first | (simp; done) | (refine cell_old ?_; simp; done) | (show (World.alloc _ _).cell? _ = _; refine cell_old ?_; simp; done), by first | (simp; done) | (refine cell_old ?_; simp; done) | (show (World.alloc _ _).cell? _ = _; refine cell_old ?_; simp; done), by first | (simp; done) | (refine cell_old ?_; simp; done) | (show (World.alloc _ _).cell? _ = _; refine cell_old ?_; simp; done), by first | (simp; done) | (refine cell_old ?_; simp; done) | (show (World.alloc _ _).cell? _ = _; refine cell_old ?_; simp; done), by first | (simp; done) | (refine cell_old ?_; simp; done) | (show (World.alloc _ _).cell? _ = _; refine cell_old ?_; simp; done)⟩ (fun hHeld => ?_)
 clear hK K
 refine norm_ (a' := ?_) ?_ ?_
 rotate_left
 ·show Act.put _ (some 9) _ = _
  simp only [Act.put, List.setIfInBounds_toArray, List.set_cons_zero, List.set_cons_succ, i64_w, i32_w]
  rfl
 refine one_ (i := 9) (N := some 14) #[true, true, true, true, true, true, true, true, true, true, true, true, true, true, false, false, false, false] rfl rfl (one_of HT_.out (by kernel_rfl)) (by decide) (fun K hK => ?_)
 refine goes_ Tryz.func72 (by kernel_rfl) rfl #[.int .i64 a0_0, .int .i64 a1_0] (by rfl) rfl rfl (by (try simp only [List.map_toArray, List.map_cons, List.map_nil]); first | done | rfl | (simp only [List.length_drop, List.length_take]; rfl)) ?_
 with_reducible refine (cmp_Compare_int.calls a0_0 a1_0 t111 _ A4.out).mono ?_
 rintro e w' ⟨rfl, ⟨nd, rfl⟩⟩
 refine ⟨_, rfl, ?_⟩
 refine hK.out _ _ ⟨by first | (simp; done) | (refine cell_old ?_; simp; done) | (show (World.alloc _ _).cell? _ = _; refine cell_old ?_; simp; done), by first | (simp; done) | (refine cell_old ?_; simp; done) | (show (World.alloc _ _).cell? _ = _; refine cell_old ?_; simp; done), by first | (simp; done) | (refine cell_old ?_; simp; done) | (show (World.alloc _ _).cell? _ = _; refine cell_old ?_; simp; done), by first | (simp; done) | (refine cell_old ?_; simp; done) | (show (World.alloc _ _).cell? _ = _; refine cell_old ?_; simp; done), by first | (simp; done) | (refine cell_old ?_; simp; done) | (show (World.alloc _ _).cell? _ = _; refine cell_old ?_; simp; done), by first | (simp; done) | (refine cell_old ?_; simp; done) | (show (World.alloc _ _).cell? _ = _; refine cell_old ?_; simp; done)⟩ (fun hHeld => ?_)
 clear hK K
 refine norm_ (a' := ?_) ?_ ?_
 rotate_left
 ·show Act.put _ (some 14) _ = _
  simp only [Act.put, List.setIfInBounds_toArray, List.set_cons_zero, List.set_cons_succ, i64_w, i32_w]
  rfl
 refine one_ (i := 14) (N := some 19) #[true, true, true, true, true, true, true, true, true, true, true, true, true, true, true, false, false, false] rfl rfl (one_of HT_.out (by kernel_rfl)) (by decide) (fun K hK => ?_)
 refine goes_ Tryz.func73 (by kernel_rfl) rfl #[.int .i64 a0_2, .int .i64 a1_2] (by rfl) rfl rfl (by (try simp only [List.map_toArray, List.map_cons, List.map_nil]); first | done | rfl | (simp only [List.length_drop, List.length_take]; rfl)) ?_
 with_reducible refine (cmp_Compare_int64.calls a0_2 a1_2 t112 _ A5.out).mono ?_
 rintro e w' ⟨rfl, ⟨nd, rfl⟩⟩
 refine ⟨_, rfl, ?_⟩
 refine hK.out _ _ ⟨by first | (simp; done) | (refine cell_old ?_; simp; done) | (show (World.alloc _ _).cell? _ = _; refine cell_old ?_; simp; done), by first | (simp; done) | (refine cell_old ?_; simp; done) | (show (World.alloc _ _).cell? _ = _; refine cell_old ?_; simp; done), by first | (simp; done) | (refine cell_old ?_; simp; done) | (show (World.alloc _ _).cell? _ = _; refine cell_old ?_; simp; done), by first | (simp; done) | (refine cell_old ?_; simp; done) | (show (World.alloc _ _).cell? _ = _; refine cell_old ?_; simp; done), by first | (simp; done) | (refine cell_old ?_; simp; done) | (show (World.alloc _ _).cell? _ = _; refine cell_old ?_; simp; done), by first | (simp; done) | (refine cell_old ?_; simp; done) | (show (World.alloc _ _).cell? _ = _; refine cell_old ?_; simp; done)⟩ (fun hHeld => ?_)
 clear hK K
 refine norm_ (a' := ?_) ?_ ?_
 rotate_left
 ·show Act.put _ (some 19) _ = _
  simp only [Act.put, List.setIfInBounds_toArray, List.set_cons_zero, List.set_cons_succ, i64_w, i32_w]
  rfl
 refine one_ (i := 15) (N := some 20) #[true, true, true, true, true, true, true, true, true, true, true, true, true, true, true, true, false, false] rfl rfl (one_of HT_.out (by kernel_rfl)) (by decide) (fun K hK => ?_)
 refine lit_exact (inner := [.int .i64 t110, .int .i64 t111, .int .i64 t112]) (e := 3) (n := 3) ?hg ?hr ?_
 case hg => rfl
 case hr => first | (go_simp; done) | (go_simp; rfl)
 refine hK.out _ _ ⟨by first | (simp; done) | (refine cell_old ?_; simp; done) | (show (World.alloc _ _).cell? _ = _; refine cell_old ?_; simp; done), by first | (simp; done) | (refine cell_old ?_; simp; done) | (show (World.alloc _ _).cell? _ = _; refine cell_old ?_; simp; done), by first | (simp; done) | (refine cell_old ?_; simp; done) | (show (World.alloc _ _).cell? _ = _; refine cell_old ?_; simp; done), by first | (simp; done) | (refine cell_old ?_; simp; done) | (show (World.alloc _ _).cell? _ = _; refine cell_old ?_; simp; done), by first | (simp; done) | (refine cell_old ?_; simp; done) | (show (World.alloc _ _).cell? _ = _; refine cell_old ?_; simp; done), by first | (simp; done) | (refine cell_old ?_; simp; done) | (show (World.alloc _ _).cell? _ = _; refine cell_old ?_; simp; done)⟩ (fun hHeld => ?_)
 clear hK K
 refine norm_ (a' := ?_) ?_ ?_
 rotate_left
 ·show Act.put _ (some 20) _ = _
  simp only [Act.put, List.setIfInBounds_toArray, List.set_cons_zero, List.set_cons_succ, i64_w, i32_w]
  rfl
 refine one_ (i := 16) (N := some 21) #[true, true, true, true, true, true, true, true, true, true, true, true, true, true, true, true, true, false] rfl rfl (one_of HT_.out (by kernel_rfl)) (by decide) (fun K hK => ?_)
 refine goes_ Tryz.func71 (by kernel_rfl) rfl #[.slice (some ⟨_, 0, none⟩) 3 3] (by rfl) rfl rfl (by (try simp only [List.map_toArray, List.map_cons, List.map_nil]); first | done | rfl | (simp only [List.length_drop, List.length_take]; rfl)) ?_
 rw [Ny113.out] at A6
 refine (cmp_Or_int.calls k (some ⟨_, 0, none⟩) 3 [t110, t111, t112] t116 _ ?side1 (by simp) A6.out).mono ?_
 case side1 =>
  refine Kd.C_of_reads (d := (0 : Int)) (h1 := fun _ => rfl) ⟨rfl, by simp, fun _ => ⟨_, rfl, fun j hj => ?_⟩⟩
  match j, hj with
  | 0, _ => refine (show World.cell? _ ⟨_, 0, none⟩ = _ from ?_); rw [World.cell?_alloc_at _ _ _ _ (by simp)]; rfl
  | 1, _ => refine (show World.cell? _ ⟨_, 1, none⟩ = _ from ?_); rw [World.cell?_alloc_at _ _ _ _ (by simp)]; rfl
  | 2, _ => refine (show World.cell? _ ⟨_, 2, none⟩ = _ from ?_); rw [World.cell?_alloc_at _ _ _ _ (by simp)]; rfl
 rintro e w' ⟨rfl, ⟨nd, rfl⟩⟩
 refine ⟨_, rfl, ?_⟩
 refine hK.out _ _ ⟨by first | (simp; done) | (refine cell_old ?_; simp; done) | (show (World.alloc _ _).cell? _ = _; refine cell_old ?_; simp; done), by first | (simp; done) | (refine cell_old ?_; simp; done) | (show (World.alloc _ _).cell? _ = _; refine cell_old ?_; simp; done), by first | (simp; done) | (refine cell_old ?_; simp; done) | (show (World.alloc _ _).cell? _ = _; refine cell_old ?_; simp; done), by first | (simp; done) | (refine cell_old ?_; simp; done) | (show (World.alloc _ _).cell? _ = _; refine cell_old ?_; simp; done), by first | (simp; done) | (refine cell_old ?_; simp; done) | (show (World.alloc _ _).cell? _ = _; refine cell_old ?_; simp; done), by first | (simp; done) | (refine cell_old ?_; simp; done) | (show (World.alloc _ _).cell? _ = _; refine cell_old ?_; simp; done)⟩ (fun hHeld => ?_)
 clear hK K
 refine norm_ (a' := ?_) ?_ ?_
 rotate_left
 ·show Act.put _ (some 21) _ = _
  simp only [Act.put, List.setIfInBounds_toArray, List.set_cons_zero, List.set_cons_succ, i64_w, i32_w]
  rfl
 refine pure_ (i := 17) (N := some 4) (v := ?_) (a' := ?_) #[true, true, true, true, true, true, true, true, true, true, true, true, true, true, true, true, true, true] rfl rfl (any_of HT_.out (by kernel_rfl)) (fun _ _ _ h => h) (Or.inl ⟨by rfl, ?_⟩) ?_ ?_
 rotate_left
 ·intro w'
  go_simp
  with_reducible rfl
 rotate_left
 ·simp only [Act.put, List.setIfInBounds_toArray, List.set_cons_zero, List.set_cons_succ, i64_w, i32_w]
  rfl
 refine done_ (done_of HT_.out (by kernel_rfl)) ?_
 try go_wp2
 go_ret
 refine ⟨by first | rfl | (simp [*]; done), ?_⟩
 repeat (first | exact Grw.refl _ | apply Grw.drewN | apply Grw.drew | apply Grw.alloc)

end
/-- Which of two messages is ahead: by To, From, Val. -/
def cfMsg (x y : S61) : Int := if x.f1 < y.f1 then -1 else if x.f1 > y.f1 then 1 else if x.f0 < y.f0 then -1 else if x.f0 > y.f0 then 1 else if x.f2 < y.f2 then -1 else if x.f2 > y.f2 then 1 else 0
def ltMsg (x y : S61) : Bool := decide (x.f1 < y.f1) || (decide (x.f1 = y.f1) && (decide (x.f0 < y.f0) || (decide (x.f0 = y.f0) && decide (x.f2 < y.f2))))
instance : Inhabited S61 := ⟨z61⟩
/-- Messages in order. -/
def sortMsg (l : List S61) : List S61 := l.mergeSort fun x y => !ltMsg y x
def fold_Sort.f (l0 : List S61) : Option (List S61) := if l0.length < 5864062014805 then some (sortMsg l0) else none
section
open Go.Sort Go.Shelf Go.Proofs.YtpndhkeoljoapaaGreat.Bridge
theorem ltOf_cfMsg : ltOf cfMsg = ltMsg := by
 funext x y
 unfold ltOf cfMsg ltMsg
 by_cases h1 : x.f1 < y.f1
 ·simp [h1]
 ·by_cases h2 : x.f1 > y.f1
  ·have h3 : ¬ x.f1 = y.f1 := by omega
   simp [h1, h2, h3]
  ·have h3 : x.f1 = y.f1 := by omega
   rw [if_neg h1, if_neg h2]
   by_cases h4 : x.f0 < y.f0
   ·simp [h3, h4]
   ·by_cases h5 : x.f0 > y.f0
    ·have h6 : ¬ x.f0 = y.f0 := by omega
     simp [h3, h4, h5, h6]
    ·have h6 : x.f0 = y.f0 := by omega
     rw [if_neg h4, if_neg h5]
     by_cases h7 : x.f2 < y.f2
     ·simp [h3, h6, h7]
     ·by_cases h8 : x.f2 > y.f2 <;> simp [h3, h6, h7, h8]
theorem ltMsg_iff (x y : S61) : ltMsg x y = true ↔ x.f1 < y.f1 ∨ (x.f1 = y.f1 ∧ (x.f0 < y.f0 ∨ (x.f0 = y.f0 ∧ x.f2 < y.f2))) := by
 unfold ltMsg
 simp only [Bool.or_eq_true, Bool.and_eq_true, decide_eq_true_eq]
theorem ltMsg_not (x y : S61) : ltMsg x y = false ↔ ¬ (x.f1 < y.f1 ∨ (x.f1 = y.f1 ∧ (x.f0 < y.f0 ∨ (x.f0 = y.f0 ∧ x.f2 < y.f2)))) := by
 rw [← ltMsg_iff]; simp
theorem swoMsg : SWO (ltOf cfMsg) where
 irrefl x := by rw [ltOf_cfMsg, ltMsg_not]; omega
 trans x y z h1 h2 := by rw [ltOf_cfMsg, ltMsg_iff] at *; omega
 ntrans x y z h1 h2 := by rw [ltOf_cfMsg, ltMsg_not] at *; omega
theorem totalMsg (x y : S61) (h1 : ltOf cfMsg x y = false) (h2 : ltOf cfMsg y x = false) : x = y := by
 rw [ltOf_cfMsg, ltMsg_not] at *
 cases x; cases y
 simp only at h1 h2
 congr 1 <;> omega
theorem compare_int_f (a b : Int) : cmp_Compare_int.f a b = some (if a < b then -1 else if a > b then 1 else 0) := by
 unfold cmp_Compare_int.f cmp_isNaN_int.f
 simp only [bne_self_eq_false, Option.bind_some, Bool.false_eq_true, if_false]
 split
 ·rfl
 ·split <;> rfl
theorem compare_int64_f (a b : Int) : cmp_Compare_int64.f a b = some (if a < b then -1 else if a > b then 1 else 0) := by
 unfold cmp_Compare_int64.f cmp_isNaN_int64.f
 simp only [bne_self_eq_false, Option.bind_some, Bool.false_eq_true, if_false]
 split
 ·rfl
 ·split <;> rfl
theorem or_int_f (a b c : Int) : cmp_Or_int.f 5 [a, b, c] = some (if a = 0 then if b = 0 then c else b else a) := by
 unfold cmp_Or_int.f
 have w0 : wrap64 (0 + 1) = 1 := by unfold wrap64; omega
 have w1 : wrap64 (1 + 1) = 2 := by unfold wrap64; omega
 have w2 : wrap64 (2 + 1) = 3 := by unfold wrap64; omega
 have r0 : rd [a, b, c] 0 = a := rfl
 have r1 : rd [a, b, c] 1 = b := rfl
 have r2 : rd [a, b, c] 2 = c := rfl
 simp only [List.length_cons, List.length_nil]
 simp only [cmp_Or_int.l0, r0, w0, r1, w1, r2, w2]
 by_cases h1 : a = 0
 ·subst h1
  by_cases h2 : b = 0
  ·subst h2
   by_cases h3 : c = 0
   ·subst h3; simp
   ·simp [h3]
  ·simp [h2]
 ·simp [h1]
theorem fold_compare_cf (x y : S61) : fold_compare_g.f 5 x.f0 x.f1 x.f2 y.f0 y.f1 y.f2 = some (cfMsg x y) := by
 unfold fold_compare_g.f cfMsg
 rw [compare_int_f, compare_int_f, compare_int64_f]
 simp only [Option.bind_some]
 rw [or_int_f]
 simp only [Option.bind_some]
 congr 1
 by_cases h1 : x.f1 < y.f1
 ·simp [h1]
 ·by_cases h2 : x.f1 > y.f1
  ·simp [h1, h2]
  ·simp only [h1, h2, if_false, if_true]
   by_cases h4 : x.f0 < y.f0
   ·simp [h4]
   ·by_cases h5 : x.f0 > y.f0
    ·simp [h4, h5]
    ·simp only [h4, h5, if_false, if_true]
def encMsg (x : S61) : List Value := [.int .i64 x.f0, .int .i64 x.f1, .int .i64 x.f2]
theorem encMsg_one (x : S61) : ∀ v ∈ encMsg x, v.oneCell' = true := by
 intro v hv
 simp only [encMsg, List.mem_cons, List.not_mem_nil, or_false] at hv
 rcases hv with rfl | rfl | rfl <;> rfl
theorem flatMsg : Flat k61 encMsg where
 K w x cs := ⟨fun h => k61_open h, fun h => h ▸ k61_mk w x⟩
 M w base ok x cs := ⟨fun h => k61_openM h, fun h => h ▸ k61_mkM w base ok x⟩
 len x := rfl
 pos := by decide
 one := encMsg_one
theorem cmpLaysMsg (blk off size : Nat) (w : World) : CmpLays Tryz.prog 49 #[] encMsg 3 cfMsg blk off size w :=
 fun _ _ _ _ x y => (fold_compare.grown 5 x.f0 x.f1 x.f2 y.f0 y.f1 y.f2 (cfMsg x y) _ (fold_compare_cf x y)).mono fun _ _ ⟨he, hg⟩ => ⟨he, hg.out⟩
/-- The sort of messages, in place: of a row of the call's own. -/
theorem sort_msgs (W : World) (base cap : Nat) (ok : Nat → Prop) (v : Value) (l : List S61) (hl : l.length < 4611686018427387904) (hbase : base ≤ W.heap.size) (h : Kd.R k61 61 W base ok v l) :
  Calls Tryz.prog 48 #[v, .func (.func 49) #[] #[]] W fun e w' => e = .returned (.tuple #[]) ∧ Kd.R k61 61 w' base ok v (sortMsg l) ∧ Below base W w' := by
 by_cases hn : l = []
 ·subst hn
  obtain ⟨A, c, rfl⟩ := Kd.R_slice h
  refine (AnyF.slices_SortFunc_none Tryz.sortMsg A c _ W).mono fun e w' ⟨he, hw⟩ => ?_
  subst hw
  exact ⟨he, by simpa [sortMsg] using h, Below.refl _ _⟩
 ·obtain ⟨g, cap, rfl, hb, hg, hok, hH⟩ := holds_of_R flatMsg h hn
  have eg : ∀ args w, (callFunc 49 args).run Tryz.prog w = .ok (.enter 49 args) w := enters_of Tryz.func49 (by kernel_rfl) rfl
  have hs := AnyQ.slices_SortFunc_total Tryz.sortMsg 3 Tryz.isAgg61 Tryz.sizeOf61 encMsg (fun _ => rfl) encMsg_one cfMsg swoMsg 49 #[] g 0 cap l.toArray W eg (cmpLaysMsg _ _ _ _) hH hg (by simpa using hl) totalMsg
  simp only [List.size_toArray] at hs
  change Calls Tryz.prog 48 _ _ _ at hs
  refine hs.mono ?_
  rintro e w' ⟨he, n, os, rfl⟩
  rw [ltOf_cfMsg]
  refine ⟨he, ?_, below_sortWorldK 3 g n _ os hb hbase⟩
  have := R_of_sorted flatMsg h n (l.mergeSort fun x y => !ltMsg y x).toArray (by simp) os
  simp only [List.toList_toArray] at this
  exact this
end
set_option maxHeartbeats 8000000 in
set_option maxRecDepth 100000 in
theorem fold_Sort.calls (A0 : Option Addr) (c0 : Nat) (l0 : List S61) (r : List S61) (w : World) (hr0 : Kd.C k61 w A0 l0.length l0) (hc0 : l0.length ≤ c0) (h : fold_Sort.f l0 = some r) :
  Calls Tryz.prog 29 #[.slice A0 l0.length c0] w fun e w' => ∃ v0_ : Value, e = .returned (v0_) ∧ Kd.R k61 61 w' w.heap.size (fun _ => True) v0_ r ∧ Below w.heap.size w w' := by
 have HR0 := Aside0.mk hr0
 have HC0 := Aside0.mk hc0
 clear hr0 hc0
 have HB := Aside0.mk (Below.refl w.heap.size w)
 unfold fold_Sort.f at h
 by_cases c2 : l0.length < 5864062014805
 ·rw [if_pos c2] at h
  obtain rfl := Option.some.inj h
  have LM := Aside0.mk c2
  clear c2 h
  have HS := fun (W : World) (v : Value) (hb : w.heap.size ≤ W.heap.size) (h : Kd.R k61 61 W w.heap.size (fun _ => True) v l0) => sort_msgs W w.heap.size 0 (fun _ => True) v l0 (by have := LM.out; omega) hb h
  go_enter Tryz.func29, Tryz.ntmps29
  go_wp2_with (first | (at_builtin; refine Kd.R_append_rows k61 (w0 := w) w.heap.size rfl (.const (.slice none 0 0)) (.tmp 4) 29 61 (.agg #[(.int .i64 0), (.int .i64 0), (.int .i64 0)]) 24 rfl Tryz.underlying29 info61 rfl (by decide) (by omega) (.slice none 0 0) [] l0 _ _ _ (fun _ => True) (fun _ => False) rfl rfl (Kd.R_nil _ _ _ _ _) HR0.out (fun _ _ h => h) (fun _ h => h.elim) (fun _ _ => trivial) HB.out (Nat.le_refl _) (by have := LM.out; simp; omega) ?_; intro v146 w5 ho hb hg hat; (simp only [List.nil_append] at ho); have HO147 := Aside0.mk (ho); replace HB := Aside0.mk (hb); clear ho hb hg hat) | (go_at_call 48; refine (HS _ _ (by have := HB.out.size; exact this) HO147.out).mono ?_; rintro e w' ⟨rfl, hr, hb⟩; have HR9 := Aside0.mk hr; have HB9 := Aside0.mk (HB.out.trans hb); clear hr hb))
  go_ret
  exact ⟨_, rfl, HR9.out, HB9.out⟩
 ·rw [if_neg c2] at h
  exact absurd h (by simp)

/-! ### modillionref08_Less: function 55 -/
def modillionref08_Less.f (a0_0 : Int) (a0_1 : Int) (a0_2 : Int) (a1_0 : Int) (a1_1 : Int) (a1_2 : Int) : Option (Bool) := if a0_1 = a1_1 then (if a0_0 = a1_0 then (some (decide (a0_2 < a1_2))) else (some (decide (a0_0 < a1_0)))) else (some (decide (a0_1 < a1_1)))
set_option maxHeartbeats 8000000 in
set_option maxRecDepth 100000 in
theorem modillionref08_Less.calls (a0_0 : Int) (a0_1 : Int) (a0_2 : Int) (a1_0 : Int) (a1_1 : Int) (a1_2 : Int) (r : Bool) (w : World) (h : modillionref08_Less.f a0_0 a0_1 a0_2 a1_0 a1_1 a1_2 = some r) :
  Calls Tryz.prog 55 #[.agg #[.int .i64 a0_0, .int .i64 a0_1, .int .i64 a0_2], .agg #[.int .i64 a1_0, .int .i64 a1_1, .int .i64 a1_2]] w fun e w' => e = .returned (.bool r) ∧ Below w.heap.size w w' := by
 have hu61 := Tryz.underlying61
 have HB := Aside0.mk (Below.refl w.heap.size w)
 have H : (if a0_1 = a1_1 then (if a0_0 = a1_0 then (some (decide (a0_2 < a1_2))) else (some (decide (a0_0 < a1_0)))) else (some (decide (a0_1 < a1_1)))) = some r := h
 clear h
 by_cases c3 : a0_1 = a1_1
 ·rw [if_pos c3] at H
  have c3b0 : (a0_1 == a1_1) = true := beq_iff_eq.mpr c3
  have c3b1 : (a0_1 != a1_1) = false := bne_eq_false_iff_eq.mpr c3
  clear c3
  by_cases c4 : a0_0 = a1_0
  ·rw [if_pos c4] at H
   have c4b0 : (a0_0 == a1_0) = true := beq_iff_eq.mpr c4
   have c4b1 : (a0_0 != a1_0) = false := bne_eq_false_iff_eq.mpr c4
   clear c4
   obtain rfl := Option.some.inj H
   go_enter Tryz.func55, Tryz.ntmps55
   go_wp2_with (first | ((with_reducible refine gate_dst (N := 2) rfl ?_); refine bE_ #[.int .i64 a0_0, .int .i64 a0_1, .int .i64 a0_2] 61 ?_; intro gb117 hg w5 hbox hb; have BK117 := Aside0.mk hbox; have GW117 := gS hg HB; have GE117 := gS hg HB; replace HB := bS HB hb; clear hb hbox hg) | ((with_reducible refine gate_dst (N := 3) rfl ?_); refine bE_ #[.int .i64 a1_0, .int .i64 a1_1, .int .i64 a1_2] 61 ?_; intro gb118 hg w6 hbox hb; have BK118 := Aside0.mk hbox; have GW118 := gS hg HB; have GE118 := gS hg HB; have NB117_118 := nL hg BK117; have NB118_117 := nG hg BK117; replace BK117 := aS BK117 hb; replace HB := bS HB hb; clear hb hbox hg; have := NB117_118.out; have := NB118_117.out; obtain ⟨_, _, _, _, _, _⟩ := q3z w6 BK117.out; obtain ⟨_, _, _, _, _, _⟩ := q3z w6 BK118.out))
   go_ret
   exact ⟨by first | rfl | (simp [errW_none, errW_some] <;> rfl) | (simp [*, errW_none, errW_some] <;> rfl), by exact kB HB.out⟩
  ·rw [if_neg c4] at H
   have c4b0 : (a0_0 == a1_0) = false := beq_eq_false_iff_ne.mpr c4
   have c4b1 : (a0_0 != a1_0) = true := bne_iff_ne.mpr c4
   obtain rfl := Option.some.inj H
   go_enter Tryz.func55, Tryz.ntmps55
   go_wp2_with (first | ((with_reducible refine gate_dst (N := 2) rfl ?_); refine bE_ #[.int .i64 a0_0, .int .i64 a0_1, .int .i64 a0_2] 61 ?_; intro gb117 hg w10 hbox hb; have BK117 := Aside0.mk hbox; have GW117 := gS hg HB; have GE117 := gS hg HB; replace HB := bS HB hb; clear hb hbox hg) | ((with_reducible refine gate_dst (N := 3) rfl ?_); refine bE_ #[.int .i64 a1_0, .int .i64 a1_1, .int .i64 a1_2] 61 ?_; intro gb118 hg w11 hbox hb; have BK118 := Aside0.mk hbox; have GW118 := gS hg HB; have GE118 := gS hg HB; have NB117_118 := nL hg BK117; have NB118_117 := nG hg BK117; replace BK117 := aS BK117 hb; replace HB := bS HB hb; clear hb hbox hg; have := NB117_118.out; have := NB118_117.out; obtain ⟨_, _, _, _, _, _⟩ := q3z w11 BK117.out; obtain ⟨_, _, _, _, _, _⟩ := q3z w11 BK118.out))
   go_ret
   exact ⟨by first | rfl | (simp [errW_none, errW_some] <;> rfl) | (simp [*, errW_none, errW_some] <;> rfl), by exact kB HB.out⟩
 ·rw [if_neg c3] at H
  have c3b0 : (a0_1 == a1_1) = false := beq_eq_false_iff_ne.mpr c3
  have c3b1 : (a0_1 != a1_1) = true := bne_iff_ne.mpr c3
  obtain rfl := Option.some.inj H
  go_enter Tryz.func55, Tryz.ntmps55
  go_wp2_with (first | ((with_reducible refine gate_dst (N := 2) rfl ?_); refine bE_ #[.int .i64 a0_0, .int .i64 a0_1, .int .i64 a0_2] 61 ?_; intro gb117 hg w15 hbox hb; have BK117 := Aside0.mk hbox; have GW117 := gS hg HB; have GE117 := gS hg HB; replace HB := bS HB hb; clear hb hbox hg) | ((with_reducible refine gate_dst (N := 3) rfl ?_); refine bE_ #[.int .i64 a1_0, .int .i64 a1_1, .int .i64 a1_2] 61 ?_; intro gb118 hg w16 hbox hb; have BK118 := Aside0.mk hbox; have GW118 := gS hg HB; have GE118 := gS hg HB; have NB117_118 := nL hg BK117; have NB118_117 := nG hg BK117; replace BK117 := aS BK117 hb; replace HB := bS HB hb; clear hb hbox hg; have := NB117_118.out; have := NB118_117.out; obtain ⟨_, _, _, _, _, _⟩ := q3z w16 BK117.out; obtain ⟨_, _, _, _, _, _⟩ := q3z w16 BK118.out))
  go_ret
  exact ⟨by first | rfl | (simp [errW_none, errW_some] <;> rfl) | (simp [*, errW_none, errW_some] <;> rfl), by exact kB HB.out⟩

/-! ### fold_pick: function 67 (given) -/
section
open Go.Sort Go.Shelf Go.Proofs.YtpndhkeoljoapaaGreat.Bridge
theorem take_snoc_filter {α : Type} (l : List α) (p : α → Bool) (i : Nat) (h : i < l.length) : (l.take (i + 1)).filter p = (l.take i).filter p ++ (if p l[i] = true then [l[i]] else []) := by
 rw [List.take_succ_eq_append_getElem h, List.filter_append]
 by_cases hp : p l[i] = true <;> simp [List.filter_cons, hp]
theorem rd_msg (l : List S61) (i : Nat) (h : i < l.length) : rd_T61 l (i : Int) = l[i] := by
 unfold rd_T61
 simp [List.getD_eq_getElem?_getD, List.getElem?_eq_getElem h]
set_option maxHeartbeats 8000000 in
set_option maxRecDepth 100000 in
theorem fold_pick.on (p : S61 → Bool) (g : Nat) (lb : Array Value) (eg : ∀ args w, (callFunc g args).run Tryz.prog w = .ok (.enter g args) w) (A0 : Option Addr) (c0 : Nat) (l0 : List S61) (w : World) (hr0 : Kd.C k61 w A0 l0.length l0) (hc0 : l0.length ≤ c0) (hlen : l0.length < 5864062014805) (hp : PredOn Tryz.prog g lb (fun x => .agg (encMsg x).toArray) p w) :
  Calls Tryz.prog 67 #[.slice A0 l0.length c0, .func (.func g) #[] lb] w fun e w' => ∃ v0_ : Value, e = .returned v0_ ∧ Kd.R k61 61 w' w.heap.size (fun _ => True) v0_ (l0.filter p) ∧ Below w.heap.size w w' := by
 have HR0 := Aside0.mk hr0
 have HL := Aside0.mk hlen
 have HP := Aside0.mk hp
 clear hr0 hc0 hlen hp
 go_enter Tryz.func67, Tryz.ntmps67
 go_wp2
 go_loopg [5, 10] (l0.length) (fun kq v5 v10 w' => ∃ (i : Nat), v10 = .int .i64 (i : Int) ∧ Aside0 (i + kq = l0.length) ∧ Aside0 (Kd.R k61 61 w' w.heap.size (fun _ => True) v5 ((l0.take i).filter p)) ∧ Aside0 (Below w.heap.size w w'))
 case atStart => exact ⟨0, rfl, ⟨by omega⟩, ⟨by simpa using Kd.R_nil _ _ _ _ _⟩, ⟨Below.refl _ _⟩⟩
 case round =>
  obtain ⟨i, rfl, HI, HO, HB⟩ := hrel
  by_cases hlt : i < l0.length
  ·have c1 : decide ((i : Int) < (l0.length : Int)) = true := decide_eq_true (by omega)
   have p1 : 0 ≤ (i : Int) := by omega
   have q1 : (i : Int) < (l0.length : Int) := by omega
   obtain ⟨ad, e1, hx0, hx1, hx2⟩ := at_T61 (Kd.C_below HR0.out HB.out) (i : Int) p1 q1
   cases e1
   rw [rd_msg l0 i hlt, Int.toNat_natCast] at hx0 hx1 hx2
   have hts := take_snoc_filter l0 p i hlt
   have HLT := Aside0.mk hlt
   generalize hy : l0[i] = y at hx0 hx1 hx2 hts
   clear hy
   have HTS := Aside0.mk hts
   clear hts hlt
   replace p1 := eq_true p1
   replace q1 := eq_true q1
   have hcall := fun (W : World) (hb : Below w.heap.size w W) => HP.out W y hb
   obtain ⟨gk1, rfl⟩ : ∃ m, gk = m + 1 := ⟨gk - 1, by have := HI.out; have := HLT.out; omega⟩
   have hw1 : wrap64 ((i : Int) + 1) = (i : Int) + 1 := by have h1 := HL.out; have h2 := HLT.out; unfold wrap64; omega
   cases hq : p y with
   | true =>
    rw [hq] at hcall HTS
    have HLE : Aside0 (((l0.take i).filter p).length < 5864062014805) := ⟨by have h1 := List.length_filter_le p (l0.take i); have h2 := HL.out; simp only [List.length_take] at h1; omega⟩
    go_wp2_with (first | (go_at_fn g; refine (hcall _ (below_alloc HB.out _)).mono ?_; rintro e w' ⟨rfl, hb⟩; have k0 := (hb.cell (p := ⟨wr.heap.size, 0, none⟩) (by simp)).trans (show _ = some (.int .i64 y.f0) by simp); have k1 := (hb.cell (p := ⟨wr.heap.size, 1, none⟩) (by simp)).trans (show _ = some (.int .i64 y.f1) by simp); have k2 := (hb.cell (p := ⟨wr.heap.size, 2, none⟩) (by simp)).trans (show _ = some (.int .i64 y.f2) by simp); have HB2 := Aside0.mk ((below_alloc HB.out (.cells #[.int .i64 y.f0, .int .i64 y.f1, .int .i64 y.f2] 61)).trans (hb.mono (by have := HB.out.size; simp; omega))); have HO2 := Aside0.mk (Kd.R_below (Kd.R_alloc HO.out (.cells #[.int .i64 y.f0, .int .i64 y.f1, .int .i64 y.f2] 61)) hb); clear hb HO) | (at_builtin; refine Kd.R_append k61 (w0 := w) w.heap.size rfl (.tmp 17) (.tmp 19) 29 61 (.agg #[(.int .i64 0), (.int .i64 0), (.int .i64 0)]) 24 rfl Tryz.underlying29 info61 rfl (by decide) (by omega) u5 ((l0.take i).filter p) y [.int .i64 y.f0, .int .i64 y.f1, .int .i64 y.f2] (fun _ => True) (fun _ => False) rfl rfl ?aP (fun _ hk => hk.elim) ?aF ?aO ?aB ?aS ?aL ?_; (case aP => exact k61_mkM _ _ _ y); (case aB => exact (by repeat (first | (with_reducible first | exact HB2.out | apply below_alloc | apply pw_below_drewN | apply below_drew1) | exact HB2.out))); (case aF => exact (fun _ _ => trivial)); (case aO => exact (kR HO2.out)); (case aS => exact (below_size (by repeat (first | (with_reducible first | exact HB2.out | apply below_alloc | apply pw_below_drewN | apply below_drew1) | exact HB2.out)))); (case aL => have := HLE.out; omega); intro v113 w10 ho hb hg hat; have n0_ := Aside0.mk (hb); have n1_ := Aside0.mk (ho); clear HB2; clear HO2; have HB2 := n0_; have HO114 := n1_; clear n0_ n1_; clear ho hb hg hat))
    go_roundg gk1
    case measure => omega
    case rel => exact ⟨i + 1, by go_num, ⟨by have := HI.out; omega⟩, ⟨by rw [HTS.out]; exact HO114.out⟩, HB2⟩
   | false =>
    rw [hq] at hcall HTS
    go_wp2_with (first | (go_at_fn g; refine (hcall _ (below_alloc HB.out _)).mono ?_; rintro e w' ⟨rfl, hb⟩; have k0 := (hb.cell (p := ⟨wr.heap.size, 0, none⟩) (by simp)).trans (show _ = some (.int .i64 y.f0) by simp); have k1 := (hb.cell (p := ⟨wr.heap.size, 1, none⟩) (by simp)).trans (show _ = some (.int .i64 y.f1) by simp); have k2 := (hb.cell (p := ⟨wr.heap.size, 2, none⟩) (by simp)).trans (show _ = some (.int .i64 y.f2) by simp); have HB2 := Aside0.mk ((below_alloc HB.out (.cells #[.int .i64 y.f0, .int .i64 y.f1, .int .i64 y.f2] 61)).trans (hb.mono (by have := HB.out.size; simp; omega))); have HO2 := Aside0.mk (Kd.R_below (Kd.R_alloc HO.out (.cells #[.int .i64 y.f0, .int .i64 y.f1, .int .i64 y.f2] 61)) hb); clear hb HO))
    go_roundg gk1
    case measure => omega
    case rel => exact ⟨i + 1, by go_num, ⟨by have := HI.out; omega⟩, ⟨by rw [HTS.out]; simpa using HO2.out⟩, HB2⟩
  ·have c1 : decide ((i : Int) < (l0.length : Int)) = false := decide_eq_false (by omega)
   have c1n : decide (i < l0.length) = false := decide_eq_false (by omega)
   have hi : i = l0.length := by have := HI.out; omega
   have HO3 : Aside0 (Kd.R k61 61 wr w.heap.size (fun _ => True) u5 (l0.filter p)) := ⟨by have := HO.out; rwa [hi, List.take_length] at this⟩
   clear hi HO HI hlt
   go_wp2
   go_ret
   exact ⟨_, rfl, HO3.out, HB.out⟩
end

end Go.Proofs.YtpndhkeoljoapaaGreat.P
