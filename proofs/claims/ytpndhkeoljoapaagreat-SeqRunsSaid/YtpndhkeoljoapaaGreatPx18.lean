/- What these Go functions compute, as Lean functions, and that they do. No condition. -/
import Derived.Test.YtpndhkeoljoapaaGreatPx0
import Derived.Test.YtpndhkeoljoapaaGreatPx14
import Derived.Test.YtpndhkeoljoapaaGreatPx17
namespace Go.Proofs.YtpndhkeoljoapaaGreat.P
open Go.RowKit Go.Proofs.YtpndhkeoljoapaaGreatW.PrintWords Go.Proofs.YtpndhkeoljoapaaGreatW.PrintLast Go.Proofs.YtpndhkeoljoapaaGreatW.PrintMore
attribute [local go_sem] max2_int min2_int max_two min_two max_three min_three max_four min_four   -- for this text's walks alone
set_option linter.unusedVariables false
set_option linter.unusedSimpArgs false
set_option linter.unnecessarySimpa false
theorem iteS18 {α : Type} {c : Prop} [Decidable c] {a : Option α} {r : α} (h : (if c then a else none) = some r) : c ∧ a = some r := by
 by_cases hc : c
 ·rw [if_pos hc] at h; exact ⟨hc, h⟩
 ·rw [if_neg hc] at h; cases h

/-! ### modillionref07_Fold: function 54 -/
mutual
def modillionref07_Fold.j0 : Nat → ByteArray → Int → Int → Bool → Option (Int × Int)
 | 0, _, _, _, _ => none
 | k + 1, x0, x1, x2, x17 => if x17 = true then (some (0, 71)) else (if x0.toList = ([109, 97, 120] : List UInt8) then (if x1 ≥ x2 then (modillionref07_Fold.j1 k x0 x1 x2 (wrap64 (x1 + x2)) true) else (if x0.toList = ([108, 97, 98, 101, 108] : List UInt8) then (modillionref07_Fold.j1 k x0 x1 x2 (wrap64 (x1 + x2)) (decide (x1 ≤ x2))) else (if x0.toList = ([115, 115, 115, 112] : List UInt8) then (modillionref07_Fold.j1 k x0 x1 x2 (wrap64 (x1 + x2)) (decide (x1 ≤ x2))) else (if x0.toList = ([98, 102, 115] : List UInt8) then (modillionref07_Fold.j1 k x0 x1 x2 (wrap64 (x1 + x2)) (decide (x1 ≤ x2))) else (modillionref07_Fold.j1 k x0 x1 x2 (wrap64 (x1 + x2)) false))))) else (if x0.toList = ([108, 97, 98, 101, 108] : List UInt8) then (modillionref07_Fold.j1 k x0 x1 x2 (wrap64 (x1 + x2)) (decide (x1 ≤ x2))) else (if x0.toList = ([115, 115, 115, 112] : List UInt8) then (modillionref07_Fold.j1 k x0 x1 x2 (wrap64 (x1 + x2)) (decide (x1 ≤ x2))) else (if x0.toList = ([98, 102, 115] : List UInt8) then (modillionref07_Fold.j1 k x0 x1 x2 (wrap64 (x1 + x2)) (decide (x1 ≤ x2))) else (modillionref07_Fold.j1 k x0 x1 x2 (wrap64 (x1 + x2)) false)))))
def modillionref07_Fold.j1 : Nat → ByteArray → Int → Int → Int → Bool → Option (Int × Int)
 | 0, _, _, _, _, _ => none
 | k + 1, x0, x1, x2, x8, x44 => if x44 = true then ((modillionref07_Great.f x1).bind fun t216 => (if t216 = true then (some (0, 71)) else (some (x1, 0)))) else (if x0.toList = ([109, 97, 120] : List UInt8) then (modillionref07_Fold.j2 k x2 x8 true) else (if x0.toList = ([108, 97, 98, 101, 108] : List UInt8) then (modillionref07_Fold.j2 k x2 x8 true) else (if x0.toList = ([115, 115, 115, 112] : List UInt8) then (modillionref07_Fold.j2 k x2 x8 true) else (modillionref07_Fold.j2 k x2 x8 (x0.toList == ([98, 102, 115] : List UInt8))))))
def modillionref07_Fold.j2 : Nat → Int → Int → Bool → Option (Int × Int)
 | 0, _, _, _ => none
 | k + 1, x2, x8, x59 => if x59 = true then ((modillionref07_Great.f x2).bind fun t217 => (if t217 = true then (some (0, 71)) else (some (x2, 0)))) else ((modillionref07_Great.f x8).bind fun t218 => (if t218 = true then (some (0, 71)) else (some (x8, 0))))
end
def modillionref07_Fold.f (k : Nat) (a0 : ByteArray) (a1 : Int) (a2 : Int) : Option (Int × Int) := (modillionref07_Known.f a0).bind fun t213 => (if t213 = true then ((modillionref07_Great.f a1).bind fun t214 => (if t214 = true then (modillionref07_Fold.j0 k a0 a1 a2 true) else ((modillionref07_Great.f a2).bind fun t215 => (modillionref07_Fold.j0 k a0 a1 a2 t215)))) else (some (0, 70)))
theorem modillionref07_Fold.mono_l : ∀ k, (∀ y0 y1 y2 y3, LeO (modillionref07_Fold.j0 k y0 y1 y2 y3) (modillionref07_Fold.j0 (k + 1) y0 y1 y2 y3)) ∧ (∀ y0 y1 y2 y3 y4, LeO (modillionref07_Fold.j1 k y0 y1 y2 y3 y4) (modillionref07_Fold.j1 (k + 1) y0 y1 y2 y3 y4)) ∧ (∀ y0 y1 y2, LeO (modillionref07_Fold.j2 k y0 y1 y2) (modillionref07_Fold.j2 (k + 1) y0 y1 y2))
 | 0 => ⟨fun _ _ _ _ r h => by simp [modillionref07_Fold.j0] at h, fun _ _ _ _ _ r h => by simp [modillionref07_Fold.j1] at h, fun _ _ _ r h => by simp [modillionref07_Fold.j2] at h⟩
 | k + 1 => by
  obtain ⟨ih0, ih1, ih2⟩ := modillionref07_Fold.mono_l k
  refine ⟨?_, ?_, ?_⟩
  all_goals
   intros
   (first | unfold modillionref07_Fold.j0 | unfold modillionref07_Fold.j1 | unfold modillionref07_Fold.j2)
   repeat' first
   | (with_reducible exact ih0 _ _ _ _)
   | (with_reducible exact ih1 _ _ _ _ _)
   | (with_reducible exact ih2 _ _ _)
   | (with_reducible exact LeO.refl _)
   | (with_reducible exact LeO.none _)
   | (with_reducible refine LeO.ite ?_ ?_)
   | (with_reducible refine LeO.bind ?_ (fun _ => ?_))
   | exact ih0 _ _ _ _
   | exact ih1 _ _ _ _ _
   | exact ih2 _ _ _
   | exact LeO.none _
   | refine LeO.ite ?_ ?_
   | refine LeO.bind ?_ (fun _ => ?_)
theorem modillionref07_Fold.mono : ∀ a0 a1 a2 k, LeO (modillionref07_Fold.f k a0 a1 a2) (modillionref07_Fold.f (k + 1) a0 a1 a2) := by
 intro a0 a1 a2 k
 obtain ⟨ih0, ih1, ih2⟩ := modillionref07_Fold.mono_l k
 unfold modillionref07_Fold.f
 repeat' first
   | (with_reducible exact ih0 _ _ _ _)
   | (with_reducible exact ih1 _ _ _ _ _)
   | (with_reducible exact ih2 _ _ _)
   | (with_reducible exact LeO.refl _)
   | (with_reducible exact LeO.none _)
   | (with_reducible refine LeO.ite ?_ ?_)
   | (with_reducible refine LeO.bind ?_ (fun _ => ?_))
   | exact ih0 _ _ _ _
   | exact ih1 _ _ _ _ _
   | exact ih2 _ _ _
   | exact LeO.none _
   | refine LeO.ite ?_ ?_
   | refine LeO.bind ?_ (fun _ => ?_)
set_option maxHeartbeats 8000000 in
set_option maxRecDepth 100000 in
theorem modillionref07_Fold.calls (k : Nat) (a0 : ByteArray) (a1 : Int) (a2 : Int) (r1 : Int) (r2 : Int) (w : World) (h : modillionref07_Fold.f k a0 a1 a2 = some (r1, r2)) :
  Calls Tryz.prog 54 #[.string a0, .int .i64 a1, .int .i64 a2] w fun e w' => e = .returned (.tuple #[.int .i64 r1, .int .i64 r2]) ∧ Drawn0 w w' := by
 have H : ((modillionref07_Known.f a0).bind fun t213 => (if t213 = true then ((modillionref07_Great.f a1).bind fun t214 => (if t214 = true then (modillionref07_Fold.j0 k a0 a1 a2 true) else ((modillionref07_Great.f a2).bind fun t215 => (modillionref07_Fold.j0 k a0 a1 a2 t215)))) else (some (0, 70)))) = some (r1, r2) := h
 clear h
 replace H := Option.bind_eq_some_iff.mp H
 obtain ⟨t213, A40, H⟩ := H
 replace H : (if t213 = true then ((modillionref07_Great.f a1).bind fun t214 => (if t214 = true then (modillionref07_Fold.j0 k a0 a1 a2 true) else ((modillionref07_Great.f a2).bind fun t215 => (modillionref07_Fold.j0 k a0 a1 a2 t215)))) else (some (0, 70))) = some (r1, r2) := H
 have A4 := Aside0.mk A40
 clear A40
 by_cases c5 : t213 = true
 ·subst c5
  have H1 : ((modillionref07_Great.f a1).bind fun t214 => (if t214 = true then (modillionref07_Fold.j0 k a0 a1 a2 true) else ((modillionref07_Great.f a2).bind fun t215 => (modillionref07_Fold.j0 k a0 a1 a2 t215)))) = some (r1, r2) := by rw [if_pos rfl] at H; exact H
  clear H
  have H := H1
  clear H1
  have HC6 := Aside0.mk H
  clear H
  go_enter Tryz.func54, Tryz.ntmps54
  go_upto_region 3 with (first | ((with_reducible refine gate_callee (f := 37) rfl ?_); refine gL_ (some 10) Tryz.func37 #[.string a0] ?_; (with_reducible refine (modillionref07_Known.calls a0 true _ A4.out).mono ?_); rintro e w' ⟨rfl, ⟨nd, rfl⟩⟩; refine ⟨_, rfl, ?_⟩))
  (try simp only [Act.put, List.setIfInBounds_toArray, List.set_cons_zero, List.set_cons_succ])
  go_cut [17] (fun v17 wc => ∃ (kq : Nat) (x17_5 : Bool), v17 = .bool x17_5 ∧ Aside0 (modillionref07_Fold.j0 kq a0 a1 a2 x17_5 = some (r1, r2)) ∧ Aside0 (kq ≤ k) ∧ Drawn0 w wc)
  case first =>
   have H := HC6.out
   clear HC6
   replace H := Option.bind_eq_some_iff.mp H
   obtain ⟨t214, A70, H⟩ := H
   replace H : (if t214 = true then (modillionref07_Fold.j0 k a0 a1 a2 true) else ((modillionref07_Great.f a2).bind fun t215 => (modillionref07_Fold.j0 k a0 a1 a2 t215))) = some (r1, r2) := H
   have A7 := Aside0.mk A70
   clear A70
   by_cases c8 : t214 = true
   ·subst c8
    have H1 : (modillionref07_Fold.j0 k a0 a1 a2 true) = some (r1, r2) := by rw [if_pos rfl] at H; exact H
    clear H
    have H := H1
    clear H1
    have H' := Aside0.mk H
    clear H
    go_wp2_with (first | ((with_reducible refine gate_callee (f := 50) rfl ?_); refine gL_ (some 13) Tryz.func50 #[.int .i64 a1] ?_; (with_reducible refine (modillionref07_Great.calls a1 true _ A7.out).mono ?_); rintro e w' ⟨rfl, ⟨nd, rfl⟩⟩; refine ⟨_, rfl, ?_⟩))
    go_meet
    case rel => exact ⟨_, (true), (by first | rfl | (simp; done) | (simp [*]; done)), H', ⟨by first | omega | exact Nat.le_refl _⟩, by repeat (first | exact Drawn0.refl _ | apply Drawn0.step)⟩
   ·replace c8 := Bool.eq_false_iff.mpr c8
    subst c8
    have H1 : ((modillionref07_Great.f a2).bind fun t215 => (modillionref07_Fold.j0 k a0 a1 a2 t215)) = some (r1, r2) := by rw [if_neg (show ¬ (false = true) by decide)] at H; exact H
    clear H
    have H := H1
    clear H1
    replace H := Option.bind_eq_some_iff.mp H
    obtain ⟨t215, A90, H⟩ := H
    replace H : (modillionref07_Fold.j0 k a0 a1 a2 t215) = some (r1, r2) := H
    have A9 := Aside0.mk A90
    clear A90
    have H' := Aside0.mk H
    clear H
    go_wp2_with (first | ((with_reducible refine gate_callee (f := 50) rfl ?_); refine gL_ (some 13) Tryz.func50 #[.int .i64 a1] ?_; (with_reducible refine (modillionref07_Great.calls a1 false _ A7.out).mono ?_); rintro e w' ⟨rfl, ⟨nd, rfl⟩⟩; refine ⟨_, rfl, ?_⟩; (try clear A7)) | (go_at_call 50; (with_reducible refine (modillionref07_Great.calls a2 t215 _ A9.out).mono ?_); rintro e w' ⟨rfl, ⟨nd, rfl⟩⟩; (try clear A9)))
    go_meet
    case rel => exact ⟨_, (t215), (by first | rfl | (simp; done) | (simp [*]; done)), H', ⟨by first | omega | exact Nat.le_refl _⟩, by repeat (first | exact Drawn0.refl _ | apply Drawn0.step)⟩
  case rest =>
   clear HC6
   try clear p2
   try clear c3
   try clear c5
   try clear c8
   obtain ⟨kq, x17_5, rfl, HA, HJ5, ⟨mc5, rfl⟩⟩ := hcut
   cases kq with
   | zero => exact absurd HA.out (by simp [modillionref07_Fold.j0])
   | succ kj5 =>
    have H := HA.out
    clear HA
    simp only [modillionref07_Fold.j0] at H
    by_cases c10 : x17_5 = true
    ·subst c10
     have H1 : (some (0, 71)) = some (r1, r2) := by rw [if_pos rfl] at H; exact H
     clear H
     have H := H1
     clear H1
     simp only [Option.some.injEq, Prod.mk.injEq] at H
     obtain ⟨rfl, rfl⟩ := H
     go_wp2
     go_ret2
     exact ⟨by first | rfl | (simp; done) | (simp [*]; done), by repeat (first | exact Drawn0.refl _ | apply Drawn0.step)⟩
    ·replace c10 := Bool.eq_false_iff.mpr c10
     subst c10
     have H1 : (if a0.toList = ([109, 97, 120] : List UInt8) then (if a1 ≥ a2 then (modillionref07_Fold.j1 kj5 a0 a1 a2 (wrap64 (a1 + a2)) true) else (if a0.toList = ([108, 97, 98, 101, 108] : List UInt8) then (modillionref07_Fold.j1 kj5 a0 a1 a2 (wrap64 (a1 + a2)) (decide (a1 ≤ a2))) else (if a0.toList = ([115, 115, 115, 112] : List UInt8) then (modillionref07_Fold.j1 kj5 a0 a1 a2 (wrap64 (a1 + a2)) (decide (a1 ≤ a2))) else (if a0.toList = ([98, 102, 115] : List UInt8) then (modillionref07_Fold.j1 kj5 a0 a1 a2 (wrap64 (a1 + a2)) (decide (a1 ≤ a2))) else (modillionref07_Fold.j1 kj5 a0 a1 a2 (wrap64 (a1 + a2)) false))))) else (if a0.toList = ([108, 97, 98, 101, 108] : List UInt8) then (modillionref07_Fold.j1 kj5 a0 a1 a2 (wrap64 (a1 + a2)) (decide (a1 ≤ a2))) else (if a0.toList = ([115, 115, 115, 112] : List UInt8) then (modillionref07_Fold.j1 kj5 a0 a1 a2 (wrap64 (a1 + a2)) (decide (a1 ≤ a2))) else (if a0.toList = ([98, 102, 115] : List UInt8) then (modillionref07_Fold.j1 kj5 a0 a1 a2 (wrap64 (a1 + a2)) (decide (a1 ≤ a2))) else (modillionref07_Fold.j1 kj5 a0 a1 a2 (wrap64 (a1 + a2)) false))))) = some (r1, r2) := by rw [if_neg (show ¬ (false = true) by decide)] at H; exact H
     clear H
     have H := H1
     clear H1
     have HC11 := Aside0.mk H
     clear H
     go_upto_region 6 with (fail)
     go_cut [44] (fun v44 wc => ∃ (kq : Nat) (x44_10 : Bool), v44 = .bool x44_10 ∧ Aside0 (modillionref07_Fold.j1 kq a0 a1 a2 (wrap64 (a1 + a2)) x44_10 = some (r1, r2)) ∧ Aside0 (kq ≤ kj5) ∧ Drawn0 w wc)
     case first =>
      have H := HC11.out
      clear HC11
      by_cases c12 : a0.toList = ([109, 97, 120] : List UInt8)
      ·rw [if_pos c12] at H
       have c12b0 : (a0.toList == ([109, 97, 120] : List UInt8)) = true := beq_iff_eq.mpr c12
       have c12b1 : (a0.toList != ([109, 97, 120] : List UInt8)) = false := bne_eq_false_iff_eq.mpr c12
       clear c12
       (first | rw [c12b0] | (simp only [i64_w, i32_w]; rw [c12b0]) | skip)
       by_cases c13 : a1 ≥ a2
       ·rw [if_pos c13] at H
        have c13b0 : decide (a2 ≤ a1) = true := decide_eq_true c13
        clear c13
        have H' := Aside0.mk H
        clear H
        go_wp2
        go_meet
        case rel => exact ⟨_, (true), (by first | rfl | (simp; done) | (simp [*]; done)), H', ⟨by have := HJ5.out; first | omega | exact Nat.le_refl _⟩, by repeat (first | exact Drawn0.refl _ | apply Drawn0.step)⟩
       ·rw [if_neg c13] at H
        have c13b0 : decide (a2 ≤ a1) = false := decide_eq_false c13
        clear c13
        by_cases c14 : a0.toList = ([108, 97, 98, 101, 108] : List UInt8)
        ·rw [if_pos c14] at H
         have c14b0 : (a0.toList == ([108, 97, 98, 101, 108] : List UInt8)) = true := beq_iff_eq.mpr c14
         have c14b1 : (a0.toList != ([108, 97, 98, 101, 108] : List UInt8)) = false := bne_eq_false_iff_eq.mpr c14
         clear c14
         have H' := Aside0.mk H
         clear H
         go_wp2
         go_meet
         case rel => exact ⟨_, (decide (a1 ≤ a2)), (by first | rfl | (simp; done) | (simp [*]; done)), H', ⟨by have := HJ5.out; first | omega | exact Nat.le_refl _⟩, by repeat (first | exact Drawn0.refl _ | apply Drawn0.step)⟩
        ·rw [if_neg c14] at H
         have c14b0 : (a0.toList == ([108, 97, 98, 101, 108] : List UInt8)) = false := beq_eq_false_iff_ne.mpr c14
         have c14b1 : (a0.toList != ([108, 97, 98, 101, 108] : List UInt8)) = true := bne_iff_ne.mpr c14
         by_cases c15 : a0.toList = ([115, 115, 115, 112] : List UInt8)
         ·rw [if_pos c15] at H
          have c15b0 : (a0.toList == ([115, 115, 115, 112] : List UInt8)) = true := beq_iff_eq.mpr c15
          have c15b1 : (a0.toList != ([115, 115, 115, 112] : List UInt8)) = false := bne_eq_false_iff_eq.mpr c15
          clear c15
          have H' := Aside0.mk H
          clear H
          go_wp2
          go_meet
          case rel => exact ⟨_, (decide (a1 ≤ a2)), (by first | rfl | (simp; done) | (simp [*]; done)), H', ⟨by have := HJ5.out; first | omega | exact Nat.le_refl _⟩, by repeat (first | exact Drawn0.refl _ | apply Drawn0.step)⟩
         ·rw [if_neg c15] at H
          have c15b0 : (a0.toList == ([115, 115, 115, 112] : List UInt8)) = false := beq_eq_false_iff_ne.mpr c15
          have c15b1 : (a0.toList != ([115, 115, 115, 112] : List UInt8)) = true := bne_iff_ne.mpr c15
          by_cases c16 : a0.toList = ([98, 102, 115] : List UInt8)
          ·rw [if_pos c16] at H
           have c16b0 : (a0.toList == ([98, 102, 115] : List UInt8)) = true := beq_iff_eq.mpr c16
           have c16b1 : (a0.toList != ([98, 102, 115] : List UInt8)) = false := bne_eq_false_iff_eq.mpr c16
           clear c16
           have H' := Aside0.mk H
           clear H
           go_wp2
           go_meet
           case rel => exact ⟨_, (decide (a1 ≤ a2)), (by first | rfl | (simp; done) | (simp [*]; done)), H', ⟨by have := HJ5.out; first | omega | exact Nat.le_refl _⟩, by repeat (first | exact Drawn0.refl _ | apply Drawn0.step)⟩
          ·rw [if_neg c16] at H
           have c16b0 : (a0.toList == ([98, 102, 115] : List UInt8)) = false := beq_eq_false_iff_ne.mpr c16
           have c16b1 : (a0.toList != ([98, 102, 115] : List UInt8)) = true := bne_iff_ne.mpr c16
           have H' := Aside0.mk H
           clear H
           go_wp2
           go_meet
           case rel => exact ⟨_, (false), (by first | rfl | (simp; done) | (simp [*]; done)), H', ⟨by have := HJ5.out; first | omega | exact Nat.le_refl _⟩, by repeat (first | exact Drawn0.refl _ | apply Drawn0.step)⟩
      ·rw [if_neg c12] at H
       have c12b0 : (a0.toList == ([109, 97, 120] : List UInt8)) = false := beq_eq_false_iff_ne.mpr c12
       have c12b1 : (a0.toList != ([109, 97, 120] : List UInt8)) = true := bne_iff_ne.mpr c12
       (first | rw [c12b0] | (simp only [i64_w, i32_w]; rw [c12b0]) | skip)
       by_cases c17 : a0.toList = ([108, 97, 98, 101, 108] : List UInt8)
       ·rw [if_pos c17] at H
        have c17b0 : (a0.toList == ([108, 97, 98, 101, 108] : List UInt8)) = true := beq_iff_eq.mpr c17
        have c17b1 : (a0.toList != ([108, 97, 98, 101, 108] : List UInt8)) = false := bne_eq_false_iff_eq.mpr c17
        clear c17
        have H' := Aside0.mk H
        clear H
        go_wp2
        go_meet
        case rel => exact ⟨_, (decide (a1 ≤ a2)), (by first | rfl | (simp; done) | (simp [*]; done)), H', ⟨by have := HJ5.out; first | omega | exact Nat.le_refl _⟩, by repeat (first | exact Drawn0.refl _ | apply Drawn0.step)⟩
       ·rw [if_neg c17] at H
        have c17b0 : (a0.toList == ([108, 97, 98, 101, 108] : List UInt8)) = false := beq_eq_false_iff_ne.mpr c17
        have c17b1 : (a0.toList != ([108, 97, 98, 101, 108] : List UInt8)) = true := bne_iff_ne.mpr c17
        by_cases c18 : a0.toList = ([115, 115, 115, 112] : List UInt8)
        ·rw [if_pos c18] at H
         have c18b0 : (a0.toList == ([115, 115, 115, 112] : List UInt8)) = true := beq_iff_eq.mpr c18
         have c18b1 : (a0.toList != ([115, 115, 115, 112] : List UInt8)) = false := bne_eq_false_iff_eq.mpr c18
         clear c18
         have H' := Aside0.mk H
         clear H
         go_wp2
         go_meet
         case rel => exact ⟨_, (decide (a1 ≤ a2)), (by first | rfl | (simp; done) | (simp [*]; done)), H', ⟨by have := HJ5.out; first | omega | exact Nat.le_refl _⟩, by repeat (first | exact Drawn0.refl _ | apply Drawn0.step)⟩
        ·rw [if_neg c18] at H
         have c18b0 : (a0.toList == ([115, 115, 115, 112] : List UInt8)) = false := beq_eq_false_iff_ne.mpr c18
         have c18b1 : (a0.toList != ([115, 115, 115, 112] : List UInt8)) = true := bne_iff_ne.mpr c18
         by_cases c19 : a0.toList = ([98, 102, 115] : List UInt8)
         ·rw [if_pos c19] at H
          have c19b0 : (a0.toList == ([98, 102, 115] : List UInt8)) = true := beq_iff_eq.mpr c19
          have c19b1 : (a0.toList != ([98, 102, 115] : List UInt8)) = false := bne_eq_false_iff_eq.mpr c19
          clear c19
          have H' := Aside0.mk H
          clear H
          go_wp2
          go_meet
          case rel => exact ⟨_, (decide (a1 ≤ a2)), (by first | rfl | (simp; done) | (simp [*]; done)), H', ⟨by have := HJ5.out; first | omega | exact Nat.le_refl _⟩, by repeat (first | exact Drawn0.refl _ | apply Drawn0.step)⟩
         ·rw [if_neg c19] at H
          have c19b0 : (a0.toList == ([98, 102, 115] : List UInt8)) = false := beq_eq_false_iff_ne.mpr c19
          have c19b1 : (a0.toList != ([98, 102, 115] : List UInt8)) = true := bne_iff_ne.mpr c19
          have H' := Aside0.mk H
          clear H
          go_wp2
          go_meet
          case rel => exact ⟨_, (false), (by first | rfl | (simp; done) | (simp [*]; done)), H', ⟨by have := HJ5.out; first | omega | exact Nat.le_refl _⟩, by repeat (first | exact Drawn0.refl _ | apply Drawn0.step)⟩
     case rest =>
      clear HC11
      try clear c1
      try clear p2
      try clear c3
      try clear c5
      try clear p6
      try clear c8
      try clear c10
      try clear c12
      try clear c12b0
      try clear c12b1
      try clear c13
      try clear c13b0
      try clear c14
      try clear c14b0
      try clear c14b1
      try clear c15
      try clear c15b0
      try clear c15b1
      try clear c16
      try clear c16b0
      try clear c16b1
      try clear c17
      try clear c17b0
      try clear c17b1
      try clear c18
      try clear c18b0
      try clear c18b1
      try clear c19
      try clear c19b0
      try clear c19b1
      try clear p2
      obtain ⟨kq, x44_10, rfl, HA, HJ10, ⟨mc10, rfl⟩⟩ := hcut
      cases kq with
      | zero => exact absurd HA.out (by simp [modillionref07_Fold.j1])
      | succ kj10 =>
       have H := HA.out
       clear HA
       simp only [modillionref07_Fold.j1] at H
       by_cases c20 : x44_10 = true
       ·subst c20
        have H1 : ((modillionref07_Great.f a1).bind fun t216 => (if t216 = true then (some (0, 71)) else (some (a1, 0)))) = some (r1, r2) := by rw [if_pos rfl] at H; exact H
        clear H
        have H := H1
        clear H1
        replace H := Option.bind_eq_some_iff.mp H
        obtain ⟨t216, A210, H⟩ := H
        replace H : (if t216 = true then (some (0, 71)) else (some (a1, 0))) = some (r1, r2) := H
        have A21 := Aside0.mk A210
        clear A210
        by_cases c22 : t216 = true
        ·subst c22
         have H1 : (some (0, 71)) = some (r1, r2) := by rw [if_pos rfl] at H; exact H
         clear H
         have H := H1
         clear H1
         simp only [Option.some.injEq, Prod.mk.injEq] at H
         obtain ⟨rfl, rfl⟩ := H
         go_wp2_with (first | ((with_reducible refine gate_callee (f := 50) rfl ?_); refine gL_ (some 62) Tryz.func50 #[.int .i64 a1] ?_; (with_reducible refine (modillionref07_Great.calls a1 true _ A21.out).mono ?_); rintro e w' ⟨rfl, ⟨nd, rfl⟩⟩; refine ⟨_, rfl, ?_⟩))
         go_ret2
         exact ⟨by first | rfl | (simp; done) | (simp [*]; done), by repeat (first | exact Drawn0.refl _ | apply Drawn0.step)⟩
        ·replace c22 := Bool.eq_false_iff.mpr c22
         subst c22
         have H1 : (some (a1, 0)) = some (r1, r2) := by rw [if_neg (show ¬ (false = true) by decide)] at H; exact H
         clear H
         have H := H1
         clear H1
         simp only [Option.some.injEq, Prod.mk.injEq] at H
         obtain ⟨rfl, rfl⟩ := H
         go_wp2_with (first | ((with_reducible refine gate_callee (f := 50) rfl ?_); refine gL_ (some 62) Tryz.func50 #[.int .i64 a1] ?_; (with_reducible refine (modillionref07_Great.calls a1 false _ A21.out).mono ?_); rintro e w' ⟨rfl, ⟨nd, rfl⟩⟩; refine ⟨_, rfl, ?_⟩))
         go_ret2
         exact ⟨by first | rfl | (simp; done) | (simp [*]; done), by repeat (first | exact Drawn0.refl _ | apply Drawn0.step)⟩
       ·replace c20 := Bool.eq_false_iff.mpr c20
        subst c20
        have H1 : (if a0.toList = ([109, 97, 120] : List UInt8) then (modillionref07_Fold.j2 kj10 a2 (wrap64 (a1 + a2)) true) else (if a0.toList = ([108, 97, 98, 101, 108] : List UInt8) then (modillionref07_Fold.j2 kj10 a2 (wrap64 (a1 + a2)) true) else (if a0.toList = ([115, 115, 115, 112] : List UInt8) then (modillionref07_Fold.j2 kj10 a2 (wrap64 (a1 + a2)) true) else (modillionref07_Fold.j2 kj10 a2 (wrap64 (a1 + a2)) (a0.toList == ([98, 102, 115] : List UInt8)))))) = some (r1, r2) := by rw [if_neg (show ¬ (false = true) by decide)] at H; exact H
        clear H
        have H := H1
        clear H1
        have HC23 := Aside0.mk H
        clear H
        go_upto_region 8 with (fail)
        go_cut [59] (fun v59 wc => ∃ (kq : Nat) (x59_22 : Bool), v59 = .bool x59_22 ∧ Aside0 (modillionref07_Fold.j2 kq a2 (wrap64 (a1 + a2)) x59_22 = some (r1, r2)) ∧ Aside0 (kq ≤ kj10) ∧ Drawn0 w wc)
        case first =>
         have H := HC23.out
         clear HC23
         by_cases c24 : a0.toList = ([109, 97, 120] : List UInt8)
         ·rw [if_pos c24] at H
          have c24b0 : (a0.toList == ([109, 97, 120] : List UInt8)) = true := beq_iff_eq.mpr c24
          have c24b1 : (a0.toList != ([109, 97, 120] : List UInt8)) = false := bne_eq_false_iff_eq.mpr c24
          clear c24
          (first | rw [c24b0] | (simp only [i64_w, i32_w]; rw [c24b0]) | skip)
          have H' := Aside0.mk H
          clear H
          go_wp2
          go_meet
          case rel => exact ⟨_, (true), (by first | rfl | (simp; done) | (simp [*]; done)), H', ⟨by have := HJ5.out; have := HJ10.out; first | omega | exact Nat.le_refl _⟩, by repeat (first | exact Drawn0.refl _ | apply Drawn0.step)⟩
         ·rw [if_neg c24] at H
          have c24b0 : (a0.toList == ([109, 97, 120] : List UInt8)) = false := beq_eq_false_iff_ne.mpr c24
          have c24b1 : (a0.toList != ([109, 97, 120] : List UInt8)) = true := bne_iff_ne.mpr c24
          (first | rw [c24b0] | (simp only [i64_w, i32_w]; rw [c24b0]) | skip)
          by_cases c25 : a0.toList = ([108, 97, 98, 101, 108] : List UInt8)
          ·rw [if_pos c25] at H
           have c25b0 : (a0.toList == ([108, 97, 98, 101, 108] : List UInt8)) = true := beq_iff_eq.mpr c25
           have c25b1 : (a0.toList != ([108, 97, 98, 101, 108] : List UInt8)) = false := bne_eq_false_iff_eq.mpr c25
           clear c25
           have H' := Aside0.mk H
           clear H
           go_wp2
           go_meet
           case rel => exact ⟨_, (true), (by first | rfl | (simp; done) | (simp [*]; done)), H', ⟨by have := HJ5.out; have := HJ10.out; first | omega | exact Nat.le_refl _⟩, by repeat (first | exact Drawn0.refl _ | apply Drawn0.step)⟩
          ·rw [if_neg c25] at H
           have c25b0 : (a0.toList == ([108, 97, 98, 101, 108] : List UInt8)) = false := beq_eq_false_iff_ne.mpr c25
           have c25b1 : (a0.toList != ([108, 97, 98, 101, 108] : List UInt8)) = true := bne_iff_ne.mpr c25
           by_cases c26 : a0.toList = ([115, 115, 115, 112] : List UInt8)
           ·rw [if_pos c26] at H
            have c26b0 : (a0.toList == ([115, 115, 115, 112] : List UInt8)) = true := beq_iff_eq.mpr c26
            have c26b1 : (a0.toList != ([115, 115, 115, 112] : List UInt8)) = false := bne_eq_false_iff_eq.mpr c26
            clear c26
            have H' := Aside0.mk H
            clear H
            go_wp2
            go_meet
            case rel => exact ⟨_, (true), (by first | rfl | (simp; done) | (simp [*]; done)), H', ⟨by have := HJ5.out; have := HJ10.out; first | omega | exact Nat.le_refl _⟩, by repeat (first | exact Drawn0.refl _ | apply Drawn0.step)⟩
           ·rw [if_neg c26] at H
            have c26b0 : (a0.toList == ([115, 115, 115, 112] : List UInt8)) = false := beq_eq_false_iff_ne.mpr c26
            have c26b1 : (a0.toList != ([115, 115, 115, 112] : List UInt8)) = true := bne_iff_ne.mpr c26
            have H' := Aside0.mk H
            clear H
            go_wp2
            go_meet
            case rel => exact ⟨_, ((a0.toList == ([98, 102, 115] : List UInt8))), (by first | rfl | (simp; done) | (simp [*]; done)), H', ⟨by have := HJ5.out; have := HJ10.out; first | omega | exact Nat.le_refl _⟩, by repeat (first | exact Drawn0.refl _ | apply Drawn0.step)⟩
        case rest =>
         clear HC23
         try clear c1
         try clear c2
         try clear p2
         try clear c3
         try clear c5
         try clear p6
         try clear c8
         try clear c10
         try clear c12
         try clear c12b0
         try clear c12b1
         try clear c13
         try clear c13b0
         try clear c14
         try clear c14b0
         try clear c14b1
         try clear c15
         try clear c15b0
         try clear c15b1
         try clear c16
         try clear c16b0
         try clear c16b1
         try clear c17
         try clear c17b0
         try clear c17b1
         try clear c18
         try clear c18b0
         try clear c18b1
         try clear c19
         try clear c19b0
         try clear c19b1
         try clear c20
         try clear c22
         try clear c24
         try clear c24b0
         try clear c24b1
         try clear c25
         try clear c25b0
         try clear c25b1
         try clear c26
         try clear c26b0
         try clear c26b1
         try clear p2
         try clear p6
         obtain ⟨kq, x59_22, rfl, HA, HJ22, ⟨mc22, rfl⟩⟩ := hcut
         cases kq with
         | zero => exact absurd HA.out (by simp [modillionref07_Fold.j2])
         | succ kj22 =>
          have H := HA.out
          clear HA
          simp only [modillionref07_Fold.j2] at H
          by_cases c27 : x59_22 = true
          ·subst c27
           have H1 : ((modillionref07_Great.f a2).bind fun t217 => (if t217 = true then (some (0, 71)) else (some (a2, 0)))) = some (r1, r2) := by rw [if_pos rfl] at H; exact H
           clear H
           have H := H1
           clear H1
           replace H := Option.bind_eq_some_iff.mp H
           obtain ⟨t217, A280, H⟩ := H
           replace H : (if t217 = true then (some (0, 71)) else (some (a2, 0))) = some (r1, r2) := H
           have A28 := Aside0.mk A280
           clear A280
           by_cases c29 : t217 = true
           ·subst c29
            have H1 : (some (0, 71)) = some (r1, r2) := by rw [if_pos rfl] at H; exact H
            clear H
            have H := H1
            clear H1
            simp only [Option.some.injEq, Prod.mk.injEq] at H
            obtain ⟨rfl, rfl⟩ := H
            go_wp2_with (first | ((with_reducible refine gate_callee (f := 50) rfl ?_); refine gL_ (some 62) Tryz.func50 #[.int .i64 a2] ?_; (with_reducible refine (modillionref07_Great.calls a2 true _ A28.out).mono ?_); rintro e w' ⟨rfl, ⟨nd, rfl⟩⟩; refine ⟨_, rfl, ?_⟩))
            go_ret2
            exact ⟨by first | rfl | (simp; done) | (simp [*]; done), by repeat (first | exact Drawn0.refl _ | apply Drawn0.step)⟩
           ·replace c29 := Bool.eq_false_iff.mpr c29
            subst c29
            have H1 : (some (a2, 0)) = some (r1, r2) := by rw [if_neg (show ¬ (false = true) by decide)] at H; exact H
            clear H
            have H := H1
            clear H1
            simp only [Option.some.injEq, Prod.mk.injEq] at H
            obtain ⟨rfl, rfl⟩ := H
            go_wp2_with (first | ((with_reducible refine gate_callee (f := 50) rfl ?_); refine gL_ (some 62) Tryz.func50 #[.int .i64 a2] ?_; (with_reducible refine (modillionref07_Great.calls a2 false _ A28.out).mono ?_); rintro e w' ⟨rfl, ⟨nd, rfl⟩⟩; refine ⟨_, rfl, ?_⟩))
            go_ret2
            exact ⟨by first | rfl | (simp; done) | (simp [*]; done), by repeat (first | exact Drawn0.refl _ | apply Drawn0.step)⟩
          ·replace c27 := Bool.eq_false_iff.mpr c27
           subst c27
           have H1 : ((modillionref07_Great.f (wrap64 (a1 + a2))).bind fun t218 => (if t218 = true then (some (0, 71)) else (some ((wrap64 (a1 + a2)), 0)))) = some (r1, r2) := by rw [if_neg (show ¬ (false = true) by decide)] at H; exact H
           clear H
           have H := H1
           clear H1
           replace H := Option.bind_eq_some_iff.mp H
           obtain ⟨t218, A300, H⟩ := H
           replace H : (if t218 = true then (some (0, 71)) else (some ((wrap64 (a1 + a2)), 0))) = some (r1, r2) := H
           have A30 := Aside0.mk A300
           clear A300
           by_cases c31 : t218 = true
           ·subst c31
            have H1 : (some (0, 71)) = some (r1, r2) := by rw [if_pos rfl] at H; exact H
            clear H
            have H := H1
            clear H1
            simp only [Option.some.injEq, Prod.mk.injEq] at H
            obtain ⟨rfl, rfl⟩ := H
            go_wp2_with (first | ((with_reducible refine gate_callee (f := 50) rfl ?_); refine gL_ (some 62) Tryz.func50 #[.int .i64 (wrap64 (a1 + a2))] ?_; (with_reducible refine (modillionref07_Great.calls (wrap64 (a1 + a2)) true _ A30.out).mono ?_); rintro e w' ⟨rfl, ⟨nd, rfl⟩⟩; refine ⟨_, rfl, ?_⟩))
            go_ret2
            exact ⟨by first | rfl | (simp; done) | (simp [*]; done), by repeat (first | exact Drawn0.refl _ | apply Drawn0.step)⟩
           ·replace c31 := Bool.eq_false_iff.mpr c31
            subst c31
            have H1 : (some ((wrap64 (a1 + a2)), 0)) = some (r1, r2) := by rw [if_neg (show ¬ (false = true) by decide)] at H; exact H
            clear H
            have H := H1
            clear H1
            simp only [Option.some.injEq, Prod.mk.injEq] at H
            obtain ⟨rfl, rfl⟩ := H
            go_wp2_with (first | ((with_reducible refine gate_callee (f := 50) rfl ?_); refine gL_ (some 62) Tryz.func50 #[.int .i64 (wrap64 (a1 + a2))] ?_; (with_reducible refine (modillionref07_Great.calls (wrap64 (a1 + a2)) false _ A30.out).mono ?_); rintro e w' ⟨rfl, ⟨nd, rfl⟩⟩; refine ⟨_, rfl, ?_⟩))
            go_ret2
            exact ⟨by first | rfl | (simp; done) | (simp [*]; done), by repeat (first | exact Drawn0.refl _ | apply Drawn0.step)⟩
 ·replace c5 := Bool.eq_false_iff.mpr c5
  subst c5
  have H1 : (some (0, 70)) = some (r1, r2) := by rw [if_neg (show ¬ (false = true) by decide)] at H; exact H
  clear H
  have H := H1
  clear H1
  simp only [Option.some.injEq, Prod.mk.injEq] at H
  obtain ⟨rfl, rfl⟩ := H
  go_enter Tryz.func54, Tryz.ntmps54
  go_wp2_with (first | ((with_reducible refine gate_callee (f := 37) rfl ?_); refine gL_ (some 10) Tryz.func37 #[.string a0] ?_; (with_reducible refine (modillionref07_Known.calls a0 false _ A4.out).mono ?_); rintro e w' ⟨rfl, ⟨nd, rfl⟩⟩; refine ⟨_, rfl, ?_⟩))
  go_ret2
  exact ⟨by first | rfl | (simp; done) | (simp [*]; done), by repeat (first | exact Drawn0.refl _ | apply Drawn0.step)⟩

/-! ### modillionref08_Came: function 31 -/
def modillionref08_Came.l0 : Nat → ByteArray → List (S61) → Int → Int → Option (Int × Bool × Int)
 | 0, _, _, _, _ => none
 | k + 1, x0, x9, x10, x11 => if x11 < (x9.length : Int) then (if 0 ≤ x11 then ((modillionref07_Fold.f k x0 x10 ((rd_T61 x9 x11).f2)).bind fun bt226 => (if bt226.2 = 0 then (modillionref08_Came.l0 k x0 x9 bt226.1 (wrap64 (x11 + 1))) else (some (0, false, bt226.2)))) else (none)) else (some (x10, true, 0))
def modillionref08_Came.f (k : Nat) (a0 : ByteArray) (l1 : List (S61)) (a2 : Int) : Option (Int × Bool × Int) := (modillionref07_Known.f a0).bind fun t219 => (if t219 = true then ((modillionref08_To.f k l1 a2).bind fun t220 => (if (t220.length : Int) = 0 then (some (0, false, 0)) else (if 0 < (t220.length : Int) then ((modillionref07_Great.f ((rd_T61 t220 0).f2)).bind fun t224 => (if t224 = true then (some (0, false, 71)) else (modillionref08_Came.l0 k a0 t220 ((rd_T61 t220 0).f2) 1))) else (none)))) else (some (0, false, 70)))
theorem modillionref08_Came.mono_l : ∀ k, (∀ y0 y1 y2 y3, LeO (modillionref08_Came.l0 k y0 y1 y2 y3) (modillionref08_Came.l0 (k + 1) y0 y1 y2 y3))
 | 0 => fun _ _ _ _ r h => by simp [modillionref08_Came.l0] at h
 | k + 1 => by
  have ih0 := modillionref08_Came.mono_l k
  ·intro y0 y1 y2 y3
   unfold modillionref08_Came.l0
   repeat' first
   | (with_reducible exact ih0 _ _ _ _)
   | (with_reducible exact modillionref07_Fold.mono _ _ _ _)
   | (with_reducible exact modillionref08_To.mono _ _ _)
   | (with_reducible exact LeO.refl _)
   | (with_reducible exact LeO.none _)
   | (with_reducible refine LeO.ite ?_ ?_)
   | (with_reducible refine LeO.bind ?_ (fun _ => ?_))
   | exact ih0 _ _ _ _
   | exact modillionref07_Fold.mono _ _ _ _
   | exact modillionref08_To.mono _ _ _
   | exact LeO.none _
   | refine LeO.ite ?_ ?_
   | refine LeO.bind ?_ (fun _ => ?_)
theorem modillionref08_Came.mono : ∀ a0 a1 a2 k, LeO (modillionref08_Came.f k a0 a1 a2) (modillionref08_Came.f (k + 1) a0 a1 a2) := by
 intro a0 a1 a2 k
 have ih0 := modillionref08_Came.mono_l k
 unfold modillionref08_Came.f
 repeat' first
   | (with_reducible exact ih0 _ _ _ _)
   | (with_reducible exact modillionref07_Fold.mono _ _ _ _)
   | (with_reducible exact modillionref08_To.mono _ _ _)
   | (with_reducible exact LeO.refl _)
   | (with_reducible exact LeO.none _)
   | (with_reducible refine LeO.ite ?_ ?_)
   | (with_reducible refine LeO.bind ?_ (fun _ => ?_))
   | exact ih0 _ _ _ _
   | exact modillionref07_Fold.mono _ _ _ _
   | exact modillionref08_To.mono _ _ _
   | exact LeO.none _
   | refine LeO.ite ?_ ?_
   | refine LeO.bind ?_ (fun _ => ?_)
set_option maxHeartbeats 8000000 in
set_option maxRecDepth 100000 in
theorem modillionref08_Came.calls (k : Nat) (a0 : ByteArray) (A1 : Option Addr) (c1 : Nat) (l1 : List (S61)) (a2 : Int) (r1 : Int) (r2 : Bool) (r3 : Int) (w : World) (hr1 : Kd.C k61 w A1 l1.length l1) (hc1 : l1.length ≤ c1) (h : modillionref08_Came.f k a0 l1 a2 = some (r1, r2, r3)) :
  Calls Tryz.prog 31 #[.string a0, .slice A1 l1.length c1, .int .i64 a2] w fun e w' => e = .returned (.tuple #[.int .i64 r1, .bool r2, .int .i64 r3]) ∧ Below w.heap.size w w' := by
 have HR1 := Aside0.mk hr1
 have HC1 := Aside0.mk hc1
 clear hr1 hc1
 have HB := Aside0.mk (Below.refl w.heap.size w)
 have H : ((modillionref07_Known.f a0).bind fun t219 => (if t219 = true then ((modillionref08_To.f k l1 a2).bind fun t220 => (if (t220.length : Int) = 0 then (some (0, false, 0)) else (if 0 < (t220.length : Int) then ((modillionref07_Great.f ((rd_T61 t220 0).f2)).bind fun t224 => (if t224 = true then (some (0, false, 71)) else (modillionref08_Came.l0 k a0 t220 ((rd_T61 t220 0).f2) 1))) else (none)))) else (some (0, false, 70)))) = some (r1, r2, r3) := h
 clear h
 replace H := Option.bind_eq_some_iff.mp H
 obtain ⟨t219, A40, H⟩ := H
 replace H : (if t219 = true then ((modillionref08_To.f k l1 a2).bind fun t220 => (if (t220.length : Int) = 0 then (some (0, false, 0)) else (if 0 < (t220.length : Int) then ((modillionref07_Great.f ((rd_T61 t220 0).f2)).bind fun t224 => (if t224 = true then (some (0, false, 71)) else (modillionref08_Came.l0 k a0 t220 ((rd_T61 t220 0).f2) 1))) else (none)))) else (some (0, false, 70))) = some (r1, r2, r3) := H
 have A4 := Aside0.mk A40
 clear A40
 by_cases c5 : t219 = true
 ·subst c5
  have H1 : ((modillionref08_To.f k l1 a2).bind fun t220 => (if (t220.length : Int) = 0 then (some (0, false, 0)) else (if 0 < (t220.length : Int) then ((modillionref07_Great.f ((rd_T61 t220 0).f2)).bind fun t224 => (if t224 = true then (some (0, false, 71)) else (modillionref08_Came.l0 k a0 t220 ((rd_T61 t220 0).f2) 1))) else (none)))) = some (r1, r2, r3) := by rw [if_pos rfl] at H; exact H
  clear H
  have H := H1
  clear H1
  replace H := Option.bind_eq_some_iff.mp H
  obtain ⟨t220, A60, H⟩ := H
  replace H : (if (t220.length : Int) = 0 then (some (0, false, 0)) else (if 0 < (t220.length : Int) then ((modillionref07_Great.f ((rd_T61 t220 0).f2)).bind fun t224 => (if t224 = true then (some (0, false, 71)) else (modillionref08_Came.l0 k a0 t220 ((rd_T61 t220 0).f2) 1))) else (none))) = some (r1, r2, r3) := H
  have A6 := Aside0.mk A60
  clear A60
  by_cases c7 : (t220.length : Int) = 0
  ·rw [if_pos c7] at H
   have c7b0 : ((t220.length : Int) == 0) = true := beq_iff_eq.mpr c7
   have c7b1 : ((t220.length : Int) != 0) = false := bne_eq_false_iff_eq.mpr c7
   clear c7
   simp only [Option.some.injEq, Prod.mk.injEq] at H
   obtain ⟨rfl, rfl, rfl⟩ := H
   go_enter Tryz.func31, Tryz.ntmps31
   go_wp2_with (first | ((with_reducible refine gate_callee (f := 37) rfl ?_); refine gL_ (some 15) Tryz.func37 #[.string a0] ?_; (with_reducible refine (modillionref07_Known.calls a0 true _ A4.out).mono ?_); rintro e w' ⟨rfl, ⟨nd, rfl⟩⟩; refine ⟨_, rfl, ?_⟩) | ((with_reducible refine gate_callee (f := 53) rfl ?_); refine gL_ (some 19) Tryz.func53 #[.slice A1 l1.length c1, .int .i64 a2] ?_; (with_reducible refine (modillionref08_To.calls k _ _ l1 a2 t220 _ ?z1 ?z2 A6.out).mono ?_); (case z1 => repeat (first | exact HR1.out | (with_reducible refine Kd.C_alloc ?_ _) | (with_reducible refine Kd.C_drewN ?_ _) | (with_reducible refine Kd.C_drew ?_))); (case z2 => exact HC1.out); rintro e w8 ⟨v221, rfl, ho0, hb⟩; refine ⟨_, rfl, ?_⟩; have HO222 := lS ho0 HB; replace HB := bS HB hb; clear hb ho0; obtain ⟨Ao9, co9, eo9⟩ := Kd.R_slice HO222.out; subst eo9))
   go_ret3
   exact ⟨by first | rfl | (simp [errW_none, errW_some] <;> rfl) | (simp [*, errW_none, errW_some] <;> rfl), by exact kB HB.out⟩
  ·rw [if_neg c7] at H
   have c7b0 : ((t220.length : Int) == 0) = false := beq_eq_false_iff_ne.mpr c7
   have c7b1 : ((t220.length : Int) != 0) = true := bne_iff_ne.mpr c7
   have c7b2 : ¬ (t220 = []) := fun h_ => c7 (by rw [h_]; rfl)
   obtain ⟨c10, H⟩ := iteS18 H
   have c10b0 : decide (0 < (t220.length : Int)) = true := decide_eq_true c10
   have c10b1 : decide (0 < t220.length) = true := decide_eq_true (by omega)
   clear c10
   replace H := Option.bind_eq_some_iff.mp H
   obtain ⟨t224, A110, H⟩ := H
   replace H : (if t224 = true then (some (0, false, 71)) else (modillionref08_Came.l0 k a0 t220 ((rd_T61 t220 0).f2) 1)) = some (r1, r2, r3) := H
   have A11 := Aside0.mk A110
   clear A110
   by_cases c12 : t224 = true
   ·subst c12
    have H1 : (some (0, false, 71)) = some (r1, r2, r3) := by rw [if_pos rfl] at H; exact H
    clear H
    have H := H1
    clear H1
    simp only [Option.some.injEq, Prod.mk.injEq] at H
    obtain ⟨rfl, rfl, rfl⟩ := H
    go_enter Tryz.func31, Tryz.ntmps31
    go_wp2_with (first | ((with_reducible refine gate_callee (f := 37) rfl ?_); refine gL_ (some 15) Tryz.func37 #[.string a0] ?_; (with_reducible refine (modillionref07_Known.calls a0 true _ A4.out).mono ?_); rintro e w' ⟨rfl, ⟨nd, rfl⟩⟩; refine ⟨_, rfl, ?_⟩) | ((with_reducible refine gate_callee (f := 53) rfl ?_); refine gL_ (some 19) Tryz.func53 #[.slice A1 l1.length c1, .int .i64 a2] ?_; (with_reducible refine (modillionref08_To.calls k _ _ l1 a2 t220 _ ?z1 ?z2 A6.out).mono ?_); (case z1 => repeat (first | exact HR1.out | (with_reducible refine Kd.C_alloc ?_ _) | (with_reducible refine Kd.C_drewN ?_ _) | (with_reducible refine Kd.C_drew ?_))); (case z2 => exact HC1.out); rintro e w13 ⟨v221, rfl, ho0, hb⟩; refine ⟨_, rfl, ?_⟩; have HO222 := lS ho0 HB; replace HB := bS HB hb; clear hb ho0; obtain ⟨Ao14, co14, eo14⟩ := Kd.R_slice HO222.out; subst eo14; have p223 : 0 ≤ (0 : Int) := (by omega); have q223 : 0 < (t220.length : Int) := of_decide_eq_true (by first | (with_reducible assumption) | assumption); obtain ⟨ad223, e223, hx223_0, hx223_1, hx223_2⟩ := at_T61 (Kd.R_reads' HO222.out).2.2 0 p223 q223; cases e223; have qi223 : (0 < t220.length) = True := eq_true (by omega); (try rw [show ((0 : Int)).toNat = 0 from rfl] at hx223_0); (try rw [show 0 * 3 = 0 from rfl] at hx223_0); (try rw [Addr.add_zero'] at hx223_0); (try rw [show ((0 : Int)).toNat = 0 from rfl] at hx223_1); (try rw [show 0 * 3 = 0 from rfl] at hx223_1); (try rw [Addr.add_zero'] at hx223_1); (try rw [show ((0 : Int)).toNat = 0 from rfl] at hx223_2); (try rw [show 0 * 3 = 0 from rfl] at hx223_2); (try rw [Addr.add_zero'] at hx223_2); replace p223 := eq_true p223; replace q223 := eq_true q223) | ((with_reducible refine gate_callee (f := 50) rfl ?_); refine gL_ (some 28) Tryz.func50 #[.int .i64 ((rd_T61 t220 0).f2)] ?_; (with_reducible refine (modillionref07_Great.calls ((rd_T61 t220 0).f2) true _ A11.out).mono ?_); rintro e w' ⟨rfl, ⟨nd, rfl⟩⟩; refine ⟨_, rfl, ?_⟩))
    go_ret3
    exact ⟨by first | rfl | (simp [errW_none, errW_some] <;> rfl) | (simp [*, errW_none, errW_some] <;> rfl), by exact kB HB.out⟩
   ·replace c12 := Bool.eq_false_iff.mpr c12
    subst c12
    have H1 : (modillionref08_Came.l0 k a0 t220 ((rd_T61 t220 0).f2) 1) = some (r1, r2, r3) := by rw [if_neg (show ¬ (false = true) by decide)] at H; exact H
    clear H
    have H := H1
    clear H1
    have H' := Aside0.mk H
    clear H
    go_enter Tryz.func31, Tryz.ntmps31
    go_wp2_with (first | ((with_reducible refine gate_callee (f := 37) rfl ?_); refine gL_ (some 15) Tryz.func37 #[.string a0] ?_; (with_reducible refine (modillionref07_Known.calls a0 true _ A4.out).mono ?_); rintro e w' ⟨rfl, ⟨nd, rfl⟩⟩; refine ⟨_, rfl, ?_⟩) | ((with_reducible refine gate_callee (f := 53) rfl ?_); refine gL_ (some 19) Tryz.func53 #[.slice A1 l1.length c1, .int .i64 a2] ?_; (with_reducible refine (modillionref08_To.calls k _ _ l1 a2 t220 _ ?z1 ?z2 A6.out).mono ?_); (case z1 => repeat (first | exact HR1.out | (with_reducible refine Kd.C_alloc ?_ _) | (with_reducible refine Kd.C_drewN ?_ _) | (with_reducible refine Kd.C_drew ?_))); (case z2 => exact HC1.out); rintro e w15 ⟨v221, rfl, ho0, hb⟩; refine ⟨_, rfl, ?_⟩; have HO222 := lS ho0 HB; replace HB := bS HB hb; clear hb ho0; obtain ⟨Ao16, co16, eo16⟩ := Kd.R_slice HO222.out; subst eo16; have p223 : 0 ≤ (0 : Int) := (by omega); have q223 : 0 < (t220.length : Int) := of_decide_eq_true (by first | (with_reducible assumption) | assumption); obtain ⟨ad223, e223, hx223_0, hx223_1, hx223_2⟩ := at_T61 (Kd.R_reads' HO222.out).2.2 0 p223 q223; cases e223; have qi223 : (0 < t220.length) = True := eq_true (by omega); (try rw [show ((0 : Int)).toNat = 0 from rfl] at hx223_0); (try rw [show 0 * 3 = 0 from rfl] at hx223_0); (try rw [Addr.add_zero'] at hx223_0); (try rw [show ((0 : Int)).toNat = 0 from rfl] at hx223_1); (try rw [show 0 * 3 = 0 from rfl] at hx223_1); (try rw [Addr.add_zero'] at hx223_1); (try rw [show ((0 : Int)).toNat = 0 from rfl] at hx223_2); (try rw [show 0 * 3 = 0 from rfl] at hx223_2); (try rw [Addr.add_zero'] at hx223_2); replace p223 := eq_true p223; replace q223 := eq_true q223) | ((with_reducible refine gate_callee (f := 50) rfl ?_); refine gL_ (some 28) Tryz.func50 #[.int .i64 ((rd_T61 t220 0).f2)] ?_; (with_reducible refine (modillionref07_Great.calls ((rd_T61 t220 0).f2) false _ A11.out).mono ?_); rintro e w' ⟨rfl, ⟨nd, rfl⟩⟩; refine ⟨_, rfl, ?_⟩))
    go_loopg [10, 11] k (fun kq v10 v11 w' => ∃ (x10_1 : Int) (x11_1 : Int), v10 = .int .i64 x10_1 ∧ v11 = .int .i64 x11_1 ∧ Aside0 (modillionref08_Came.l0 kq a0 t220 x10_1 x11_1 = some (r1, r2, r3)) ∧ Aside0 (kq ≤ k) ∧ Aside0 (Kd.R k61 61 w' w.heap.size (fun _ => True) (.slice (some ad223) t220.length co16) t220) ∧ Aside0 (Below w.heap.size w w'))
    case atStart => exact ⟨((rd_T61 t220 0).f2), (1), (by first | rfl | (simp; done) | (simp [*]; done)), (by first | rfl | (simp; done) | (simp [*]; done)), H', ⟨Nat.le_refl _⟩, ⟨kR HO222.out⟩, ⟨kB HB.out⟩⟩
    case round =>
     clear H'
     try clear c1
     try clear p2
     try clear q2
     try clear hx2
     try clear qi2
     try clear c3
     try clear c5
     try clear c7
     try clear c7b0
     try clear c7b1
     try clear c7b2
     try clear c10
     try clear c10b0
     try clear c10b1
     try clear c12
     try clear hx223_0
     try clear hx223_1
     try clear hx223_2
     try clear p223
     try clear q223
     obtain ⟨x10_1, x11_1, rfl, rfl, HA, HK1, HO_9, HB⟩ := hrel
     cases gk with
     | zero => exact absurd HA.out (by simp [modillionref08_Came.l0])
     | succ k1 =>
      have H := HA.out
      clear HA
      simp only [modillionref08_Came.l0] at H
      by_cases c17 : x11_1 < (t220.length : Int)
      ·rw [if_pos c17] at H
       have c17b0 : decide (x11_1 < (t220.length : Int)) = true := decide_eq_true c17
       clear c17
       obtain ⟨c18, H⟩ := iteS18 H
       have c18b0 : decide (0 ≤ x11_1) = true := decide_eq_true c18
       clear c18
       replace H := Option.bind_eq_some_iff.mp H
       obtain ⟨⟨t226, t227⟩, A190, H⟩ := H
       replace H : (if t227 = 0 then (modillionref08_Came.l0 k1 a0 t220 t226 (wrap64 (x11_1 + 1))) else (some (0, false, t227))) = some (r1, r2, r3) := H
       have A19 := Aside0.mk A190
       clear A190
       by_cases c20 : t227 = 0
       ·rw [if_pos c20] at H
        have c20b0 : (t227 == 0) = true := beq_iff_eq.mpr c20
        have c20b1 : (t227 != 0) = false := bne_eq_false_iff_eq.mpr c20
        clear c20
        have H' := Aside0.mk H
        clear H
        have p225 : 0 ≤ (x11_1 : Int) := of_decide_eq_true (by first | (with_reducible assumption) | assumption)
        have q225 : x11_1 < (t220.length : Int) := of_decide_eq_true (by first | (with_reducible assumption) | assumption)
        obtain ⟨ad225, e225, hx225_0, hx225_1, hx225_2⟩ := at_T61 (Kd.R_reads' HO_9.out).2.2 x11_1 p225 q225
        obtain rfl : ad223 = ad225 := (by injection e225)
        replace p225 := eq_true p225
        replace q225 := eq_true q225
        go_wp2_with (first | ((with_reducible refine gate_callee (f := 54) rfl ?_); refine gL_ (some 43) Tryz.func54 #[.string a0, .int .i64 x10_1, .int .i64 ((rd_T61 t220 x11_1).f2)] ?_; (with_reducible refine (modillionref07_Fold.calls k1 a0 x10_1 ((rd_T61 t220 x11_1).f2) t226 t227 _ A19.out).mono ?_); rintro e w' ⟨rfl, ⟨nd, rfl⟩⟩; refine ⟨_, rfl, ?_⟩))
        go_roundg k1
        case measure => have := HK1.out; omega
        case rel => exact ⟨(t226), (wrap64 (x11_1 + 1)), (by first | rfl | (simp; done) | (simp [*]; done)), (by first | rfl | (simp; done) | (simp [*]; done)), H', ⟨by have := HK1.out; omega⟩, ⟨kR HO_9.out⟩, ⟨kB HB.out⟩⟩
       ·rw [if_neg c20] at H
        have c20b0 : (t227 == 0) = false := beq_eq_false_iff_ne.mpr c20
        have c20b1 : (t227 != 0) = true := bne_iff_ne.mpr c20
        simp only [Option.some.injEq, Prod.mk.injEq] at H
        obtain ⟨rfl, rfl, rfl⟩ := H
        have p225 : 0 ≤ (x11_1 : Int) := of_decide_eq_true (by first | (with_reducible assumption) | assumption)
        have q225 : x11_1 < (t220.length : Int) := of_decide_eq_true (by first | (with_reducible assumption) | assumption)
        obtain ⟨ad225, e225, hx225_0, hx225_1, hx225_2⟩ := at_T61 (Kd.R_reads' HO_9.out).2.2 x11_1 p225 q225
        obtain rfl : ad223 = ad225 := (by injection e225)
        replace p225 := eq_true p225
        replace q225 := eq_true q225
        go_wp2_with (first | ((with_reducible refine gate_callee (f := 54) rfl ?_); refine gL_ (some 43) Tryz.func54 #[.string a0, .int .i64 x10_1, .int .i64 ((rd_T61 t220 x11_1).f2)] ?_; (with_reducible refine (modillionref07_Fold.calls k1 a0 x10_1 ((rd_T61 t220 x11_1).f2) t226 t227 _ A19.out).mono ?_); rintro e w' ⟨rfl, ⟨nd, rfl⟩⟩; refine ⟨_, rfl, ?_⟩))
        go_ret3
        exact ⟨by first | rfl | (simp [errW_none, errW_some] <;> rfl) | (simp [*, errW_none, errW_some] <;> rfl), by exact kB HB.out⟩
      ·rw [if_neg c17] at H
       have c17b0 : decide (x11_1 < (t220.length : Int)) = false := decide_eq_false c17
       clear c17
       simp only [Option.some.injEq, Prod.mk.injEq] at H
       obtain ⟨rfl, rfl, rfl⟩ := H
       go_wp2
       go_ret3
       exact ⟨by first | rfl | (simp [errW_none, errW_some] <;> rfl) | (simp [*, errW_none, errW_some] <;> rfl), by exact kB HB.out⟩
 ·replace c5 := Bool.eq_false_iff.mpr c5
  subst c5
  have H1 : (some (0, false, 70)) = some (r1, r2, r3) := by rw [if_neg (show ¬ (false = true) by decide)] at H; exact H
  clear H
  have H := H1
  clear H1
  simp only [Option.some.injEq, Prod.mk.injEq] at H
  obtain ⟨rfl, rfl, rfl⟩ := H
  go_enter Tryz.func31, Tryz.ntmps31
  go_wp2_with (first | ((with_reducible refine gate_callee (f := 37) rfl ?_); refine gL_ (some 15) Tryz.func37 #[.string a0] ?_; (with_reducible refine (modillionref07_Known.calls a0 false _ A4.out).mono ?_); rintro e w' ⟨rfl, ⟨nd, rfl⟩⟩; refine ⟨_, rfl, ?_⟩))
  go_ret3
  exact ⟨by first | rfl | (simp [errW_none, errW_some] <;> rfl) | (simp [*, errW_none, errW_some] <;> rfl), by exact kB HB.out⟩

end Go.Proofs.YtpndhkeoljoapaaGreat.P
