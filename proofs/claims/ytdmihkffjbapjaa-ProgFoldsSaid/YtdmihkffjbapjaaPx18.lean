/- Printed by a program of this session (wip/myprint.py) over the print of the kit: what the Go functions of this seat compute, as Lean functions, and that they do; for the functions that take or make function values the contracts are by hand. No condition. -/
import Derived.Test.YtdmihkffjbapjaaPx0
import Derived.Test.YtdmihkffjbapjaaPx8
import Derived.Test.YtdmihkffjbapjaaPx9
import Derived.Test.YtdmihkffjbapjaaPx11
namespace Go.Proofs.Ytdmihkffjbapjaa.P
open Go.RowKit Go.Proofs.YtdmihkffjbapjaaW.PrintWords Go.Proofs.YtdmihkffjbapjaaW.PrintLast Go.Proofs.YtdmihkffjbapjaaW.PrintMore
attribute [local go_sem] max2_int min2_int max_two min_two max_three min_three max_four min_four   -- for this text's walks alone
set_option linter.unusedVariables false
set_option linter.unusedSimpArgs false
set_option linter.unnecessarySimpa false

/-! ### modillionref07_Fold: function 22 -/
mutual
def modillionref07_Fold.j0 : Nat → ByteArray → Int → Int → Bool → Option (Int × Int)
  | 0, _, _, _, _ => none
  | k + 1, x0, x1, x2, x17 => if x17 = true then (some (0, 71)) else (if x0.toList = ([109, 97, 120] : List UInt8) then (if x1 ≥ x2 then (modillionref07_Fold.j1 k x0 x1 x2 (wrap64 (x1 + x2)) true) else (if x0.toList = ([108, 97, 98, 101, 108] : List UInt8) then (modillionref07_Fold.j1 k x0 x1 x2 (wrap64 (x1 + x2)) (decide (x1 ≤ x2))) else (if x0.toList = ([115, 115, 115, 112] : List UInt8) then (modillionref07_Fold.j1 k x0 x1 x2 (wrap64 (x1 + x2)) (decide (x1 ≤ x2))) else (if x0.toList = ([98, 102, 115] : List UInt8) then (modillionref07_Fold.j1 k x0 x1 x2 (wrap64 (x1 + x2)) (decide (x1 ≤ x2))) else (modillionref07_Fold.j1 k x0 x1 x2 (wrap64 (x1 + x2)) false))))) else (if x0.toList = ([108, 97, 98, 101, 108] : List UInt8) then (modillionref07_Fold.j1 k x0 x1 x2 (wrap64 (x1 + x2)) (decide (x1 ≤ x2))) else (if x0.toList = ([115, 115, 115, 112] : List UInt8) then (modillionref07_Fold.j1 k x0 x1 x2 (wrap64 (x1 + x2)) (decide (x1 ≤ x2))) else (if x0.toList = ([98, 102, 115] : List UInt8) then (modillionref07_Fold.j1 k x0 x1 x2 (wrap64 (x1 + x2)) (decide (x1 ≤ x2))) else (modillionref07_Fold.j1 k x0 x1 x2 (wrap64 (x1 + x2)) false)))))
def modillionref07_Fold.j1 : Nat → ByteArray → Int → Int → Int → Bool → Option (Int × Int)
  | 0, _, _, _, _, _ => none
  | k + 1, x0, x1, x2, x8, x44 => if x44 = true then ((modillionref07_Great.f x1).bind fun t240 => (if t240 = true then (some (0, 71)) else (some (x1, 0)))) else (if x0.toList = ([109, 97, 120] : List UInt8) then (modillionref07_Fold.j2 k x2 x8 true) else (if x0.toList = ([108, 97, 98, 101, 108] : List UInt8) then (modillionref07_Fold.j2 k x2 x8 true) else (if x0.toList = ([115, 115, 115, 112] : List UInt8) then (modillionref07_Fold.j2 k x2 x8 true) else (modillionref07_Fold.j2 k x2 x8 (x0.toList == ([98, 102, 115] : List UInt8))))))
def modillionref07_Fold.j2 : Nat → Int → Int → Bool → Option (Int × Int)
  | 0, _, _, _ => none
  | k + 1, x2, x8, x59 => if x59 = true then ((modillionref07_Great.f x2).bind fun t241 => (if t241 = true then (some (0, 71)) else (some (x2, 0)))) else ((modillionref07_Great.f x8).bind fun t242 => (if t242 = true then (some (0, 71)) else (some (x8, 0))))
end
def modillionref07_Fold.f (k : Nat) (a0 : ByteArray) (a1 : Int) (a2 : Int) : Option (Int × Int) := (modillionref07_Known.f a0).bind fun t237 => (if t237 = true then ((modillionref07_Great.f a1).bind fun t238 => (if t238 = true then (modillionref07_Fold.j0 k a0 a1 a2 true) else ((modillionref07_Great.f a2).bind fun t239 => (modillionref07_Fold.j0 k a0 a1 a2 t239)))) else (some (0, 70)))
theorem modillionref07_Fold.mono_l : ∀ k, (∀ y0 y1 y2 y3, LeO (modillionref07_Fold.j0 k y0 y1 y2 y3) (modillionref07_Fold.j0 (k + 1) y0 y1 y2 y3)) ∧ (∀ y0 y1 y2 y3 y4, LeO (modillionref07_Fold.j1 k y0 y1 y2 y3 y4) (modillionref07_Fold.j1 (k + 1) y0 y1 y2 y3 y4)) ∧ (∀ y0 y1 y2, LeO (modillionref07_Fold.j2 k y0 y1 y2) (modillionref07_Fold.j2 (k + 1) y0 y1 y2))
  | 0 => ⟨fun _ _ _ _ r h => by simp [modillionref07_Fold.j0] at h, fun _ _ _ _ _ r h => by simp [modillionref07_Fold.j1] at h, fun _ _ _ r h => by simp [modillionref07_Fold.j2] at h⟩
  | k + 1 => by
    obtain ⟨ih0, ih1, ih2⟩ := modillionref07_Fold.mono_l k
    refine ⟨?_, ?_, ?_⟩
    · intro y0 y1 y2 y3
      unfold modillionref07_Fold.j0
      repeat' first
      | (with_reducible exact ih0 _ _ _ _)
      | (with_reducible exact ih1 _ _ _ _ _)
      | (with_reducible exact ih2 _ _ _)
      | (with_reducible exact LeO.refl _)
      | (with_reducible exact LeO.none _)
      | (with_reducible refine LeO.ite ?_ ?_)
      | (with_reducible refine LeO.bind ?_ (fun _ => ?_))
      | exact ih0 _ _ _ _
      | exact ih1 _ _ _ _ _
      | exact ih2 _ _ _
      | exact LeO.none _
      | refine LeO.ite ?_ ?_
      | refine LeO.bind ?_ (fun _ => ?_)
    · intro y0 y1 y2 y3 y4
      unfold modillionref07_Fold.j1
      repeat' first
      | (with_reducible exact ih0 _ _ _ _)
      | (with_reducible exact ih1 _ _ _ _ _)
      | (with_reducible exact ih2 _ _ _)
      | (with_reducible exact LeO.refl _)
      | (with_reducible exact LeO.none _)
      | (with_reducible refine LeO.ite ?_ ?_)
      | (with_reducible refine LeO.bind ?_ (fun _ => ?_))
      | exact ih0 _ _ _ _
      | exact ih1 _ _ _ _ _
      | exact ih2 _ _ _
      | exact LeO.none _
      | refine LeO.ite ?_ ?_
      | refine LeO.bind ?_ (fun _ => ?_)
    · intro y0 y1 y2
      unfold modillionref07_Fold.j2
      repeat' first
      | (with_reducible exact ih0 _ _ _ _)
      | (with_reducible exact ih1 _ _ _ _ _)
      | (with_reducible exact ih2 _ _ _)
      | (with_reducible exact LeO.refl _)
      | (with_reducible exact LeO.none _)
      | (with_reducible refine LeO.ite ?_ ?_)
      | (with_reducible refine LeO.bind ?_ (fun _ => ?_))
      | exact ih0 _ _ _ _
      | exact ih1 _ _ _ _ _
      | exact ih2 _ _ _
      | exact LeO.none _
      | refine LeO.ite ?_ ?_
      | refine LeO.bind ?_ (fun _ => ?_)
theorem modillionref07_Fold.mono : ∀ a0 a1 a2 k, LeO (modillionref07_Fold.f k a0 a1 a2) (modillionref07_Fold.f (k + 1) a0 a1 a2) := by
  intro a0 a1 a2 k
  obtain ⟨ih0, ih1, ih2⟩ := modillionref07_Fold.mono_l k
  unfold modillionref07_Fold.f
  repeat' first
      | (with_reducible exact ih0 _ _ _ _)
      | (with_reducible exact ih1 _ _ _ _ _)
      | (with_reducible exact ih2 _ _ _)
      | (with_reducible exact LeO.refl _)
      | (with_reducible exact LeO.none _)
      | (with_reducible refine LeO.ite ?_ ?_)
      | (with_reducible refine LeO.bind ?_ (fun _ => ?_))
      | exact ih0 _ _ _ _
      | exact ih1 _ _ _ _ _
      | exact ih2 _ _ _
      | exact LeO.none _
      | refine LeO.ite ?_ ?_
      | refine LeO.bind ?_ (fun _ => ?_)
set_option maxHeartbeats 8000000 in
set_option maxRecDepth 100000 in
theorem modillionref07_Fold.calls (k : Nat) (a0 : ByteArray) (a1 : Int) (a2 : Int) (r1 : Int) (r2 : Int) (w : World) (h : modillionref07_Fold.f k a0 a1 a2 = some (r1, r2)) :
    Calls Try.prog 22 #[.string a0, .int .i64 a1, .int .i64 a2] w fun e w' => e = .returned (.tuple #[.int .i64 r1, .int .i64 r2]) ∧ Drawn0 w w' := by
  have H : ((modillionref07_Known.f a0).bind fun t237 => (if t237 = true then ((modillionref07_Great.f a1).bind fun t238 => (if t238 = true then (modillionref07_Fold.j0 k a0 a1 a2 true) else ((modillionref07_Great.f a2).bind fun t239 => (modillionref07_Fold.j0 k a0 a1 a2 t239)))) else (some (0, 70)))) = some (r1, r2) := h
  clear h
  replace H := Option.bind_eq_some_iff.mp H
  obtain ⟨t237, A40, H⟩ := H
  replace H : (if t237 = true then ((modillionref07_Great.f a1).bind fun t238 => (if t238 = true then (modillionref07_Fold.j0 k a0 a1 a2 true) else ((modillionref07_Great.f a2).bind fun t239 => (modillionref07_Fold.j0 k a0 a1 a2 t239)))) else (some (0, 70))) = some (r1, r2) := H
  have A4 := Aside0.mk A40
  clear A40
  by_cases c5 : t237 = true
  · subst c5
    have H1 : ((modillionref07_Great.f a1).bind fun t238 => (if t238 = true then (modillionref07_Fold.j0 k a0 a1 a2 true) else ((modillionref07_Great.f a2).bind fun t239 => (modillionref07_Fold.j0 k a0 a1 a2 t239)))) = some (r1, r2) := by rw [if_pos rfl] at H; exact H
    clear H
    have H := H1
    clear H1
    have HC6 := Aside0.mk H
    clear H
    go_enter Try.func22, Try.ntmps22
    go_upto_region 3 with (first | ((with_reducible refine gate_callee (f := 20) rfl ?_); refine goesL_ (some 10) rfl rfl Try.func20 (by kernel_rfl) rfl #[.string a0] rfl (by (try simp only [List.map_toArray, List.map_cons, List.map_nil]); first | done | rfl | (simp only [List.length_drop, List.length_take]; rfl)) ?_; (with_reducible refine (modillionref07_Known.calls a0 true _ A4.out).mono ?_); rintro e w' ⟨rfl, ⟨nd, rfl⟩⟩; refine ⟨_, rfl, ?_⟩))
    (try simp only [Act.put, List.setIfInBounds_toArray, List.set_cons_zero, List.set_cons_succ])
    go_cut [17] (fun v17 wc => ∃ (kq : Nat) (x17_5 : Bool), v17 = .bool x17_5 ∧ Aside0 (modillionref07_Fold.j0 kq a0 a1 a2 x17_5 = some (r1, r2)) ∧ Aside0 (kq ≤ k) ∧ Drawn0 w wc)
    case first =>
      have H := HC6.out
      clear HC6
      replace H := Option.bind_eq_some_iff.mp H
      obtain ⟨t238, A70, H⟩ := H
      replace H : (if t238 = true then (modillionref07_Fold.j0 k a0 a1 a2 true) else ((modillionref07_Great.f a2).bind fun t239 => (modillionref07_Fold.j0 k a0 a1 a2 t239))) = some (r1, r2) := H
      have A7 := Aside0.mk A70
      clear A70
      by_cases c8 : t238 = true
      · subst c8
        have H1 : (modillionref07_Fold.j0 k a0 a1 a2 true) = some (r1, r2) := by rw [if_pos rfl] at H; exact H
        clear H
        have H := H1
        clear H1
        have H' := Aside0.mk H
        clear H
        go_wp2_with (first | ((with_reducible refine gate_callee (f := 29) rfl ?_); refine goesL_ (some 13) rfl rfl Try.func29 (by kernel_rfl) rfl #[.int .i64 a1] rfl (by (try simp only [List.map_toArray, List.map_cons, List.map_nil]); first | done | rfl | (simp only [List.length_drop, List.length_take]; rfl)) ?_; (with_reducible refine (modillionref07_Great.calls a1 true _ A7.out).mono ?_); rintro e w' ⟨rfl, ⟨nd, rfl⟩⟩; refine ⟨_, rfl, ?_⟩))
        go_meet
        case rel => exact ⟨_, (true), (by first | rfl | (simp; done) | (simp [*]; done)), H', ⟨by first | omega | exact Nat.le_refl _⟩, by repeat (first | exact Drawn0.refl _ | apply Drawn0.step)⟩
      · replace c8 := Bool.eq_false_iff.mpr c8
        subst c8
        have H1 : ((modillionref07_Great.f a2).bind fun t239 => (modillionref07_Fold.j0 k a0 a1 a2 t239)) = some (r1, r2) := by rw [if_neg (show ¬ (false = true) by decide)] at H; exact H
        clear H
        have H := H1
        clear H1
        replace H := Option.bind_eq_some_iff.mp H
        obtain ⟨t239, A90, H⟩ := H
        replace H : (modillionref07_Fold.j0 k a0 a1 a2 t239) = some (r1, r2) := H
        have A9 := Aside0.mk A90
        clear A90
        have H' := Aside0.mk H
        clear H
        go_wp2_with (first | ((with_reducible refine gate_callee (f := 29) rfl ?_); refine goesL_ (some 13) rfl rfl Try.func29 (by kernel_rfl) rfl #[.int .i64 a1] rfl (by (try simp only [List.map_toArray, List.map_cons, List.map_nil]); first | done | rfl | (simp only [List.length_drop, List.length_take]; rfl)) ?_; (with_reducible refine (modillionref07_Great.calls a1 false _ A7.out).mono ?_); rintro e w' ⟨rfl, ⟨nd, rfl⟩⟩; refine ⟨_, rfl, ?_⟩; (try clear A7)) | (go_at_call 29; (with_reducible refine (modillionref07_Great.calls a2 t239 _ A9.out).mono ?_); rintro e w' ⟨rfl, ⟨nd, rfl⟩⟩; (try clear A9)))
        go_meet
        case rel => exact ⟨_, (t239), (by first | rfl | (simp; done) | (simp [*]; done)), H', ⟨by first | omega | exact Nat.le_refl _⟩, by repeat (first | exact Drawn0.refl _ | apply Drawn0.step)⟩
    case rest =>
      clear HC6
      try clear c2
      try clear p2
      try clear c5
      try clear c8
      obtain ⟨kq, x17_5, rfl, HA, HJ5, ⟨mc5, rfl⟩⟩ := hcut
      cases kq with
      | zero => exact absurd HA.out (by simp [modillionref07_Fold.j0])
      | succ kj5 =>
        have H := HA.out
        clear HA
        simp only [modillionref07_Fold.j0] at H
        by_cases c10 : x17_5 = true
        · subst c10
          have H1 : (some (0, 71)) = some (r1, r2) := by rw [if_pos rfl] at H; exact H
          clear H
          have H := H1
          clear H1
          simp only [Option.some.injEq, Prod.mk.injEq] at H
          obtain ⟨rfl, rfl⟩ := H
          go_wp2
          go_ret2
          exact ⟨by first | rfl | (simp; done) | (simp [*]; done), by repeat (first | exact Drawn0.refl _ | apply Drawn0.step)⟩
        · replace c10 := Bool.eq_false_iff.mpr c10
          subst c10
          have H1 : (if a0.toList = ([109, 97, 120] : List UInt8) then (if a1 ≥ a2 then (modillionref07_Fold.j1 kj5 a0 a1 a2 (wrap64 (a1 + a2)) true) else (if a0.toList = ([108, 97, 98, 101, 108] : List UInt8) then (modillionref07_Fold.j1 kj5 a0 a1 a2 (wrap64 (a1 + a2)) (decide (a1 ≤ a2))) else (if a0.toList = ([115, 115, 115, 112] : List UInt8) then (modillionref07_Fold.j1 kj5 a0 a1 a2 (wrap64 (a1 + a2)) (decide (a1 ≤ a2))) else (if a0.toList = ([98, 102, 115] : List UInt8) then (modillionref07_Fold.j1 kj5 a0 a1 a2 (wrap64 (a1 + a2)) (decide (a1 ≤ a2))) else (modillionref07_Fold.j1 kj5 a0 a1 a2 (wrap64 (a1 + a2)) false))))) else (if a0.toList = ([108, 97, 98, 101, 108] : List UInt8) then (modillionref07_Fold.j1 kj5 a0 a1 a2 (wrap64 (a1 + a2)) (decide (a1 ≤ a2))) else (if a0.toList = ([115, 115, 115, 112] : List UInt8) then (modillionref07_Fold.j1 kj5 a0 a1 a2 (wrap64 (a1 + a2)) (decide (a1 ≤ a2))) else (if a0.toList = ([98, 102, 115] : List UInt8) then (modillionref07_Fold.j1 kj5 a0 a1 a2 (wrap64 (a1 + a2)) (decide (a1 ≤ a2))) else (modillionref07_Fold.j1 kj5 a0 a1 a2 (wrap64 (a1 + a2)) false))))) = some (r1, r2) := by rw [if_neg (show ¬ (false = true) by decide)] at H; exact H
          clear H
          have H := H1
          clear H1
          have HC11 := Aside0.mk H
          clear H
          go_upto_region 6 with (fail)
          go_cut [44] (fun v44 wc => ∃ (kq : Nat) (x44_10 : Bool), v44 = .bool x44_10 ∧ Aside0 (modillionref07_Fold.j1 kq a0 a1 a2 (wrap64 (a1 + a2)) x44_10 = some (r1, r2)) ∧ Aside0 (kq ≤ kj5) ∧ Drawn0 w wc)
          case first =>
            have H := HC11.out
            clear HC11
            by_cases c12 : a0.toList = ([109, 97, 120] : List UInt8)
            · rw [if_pos c12] at H
              have c12b0 : (a0.toList == ([109, 97, 120] : List UInt8)) = true := beq_iff_eq.mpr c12
              have c12b1 : (a0.toList != ([109, 97, 120] : List UInt8)) = false := bne_eq_false_iff_eq.mpr c12
              clear c12
              (first | rw [c12b0] | (simp only [i64_w, i32_w]; rw [c12b0]) | skip)
              by_cases c13 : a1 ≥ a2
              · rw [if_pos c13] at H
                have c13b0 : decide (a2 ≤ a1) = true := decide_eq_true c13
                clear c13
                have H' := Aside0.mk H
                clear H
                go_wp2
                go_meet
                case rel => exact ⟨_, (true), (by first | rfl | (simp; done) | (simp [*]; done)), H', ⟨by have := HJ5.out; first | omega | exact Nat.le_refl _⟩, by repeat (first | exact Drawn0.refl _ | apply Drawn0.step)⟩
              · rw [if_neg c13] at H
                have c13b0 : decide (a2 ≤ a1) = false := decide_eq_false c13
                clear c13
                by_cases c14 : a0.toList = ([108, 97, 98, 101, 108] : List UInt8)
                · rw [if_pos c14] at H
                  have c14b0 : (a0.toList == ([108, 97, 98, 101, 108] : List UInt8)) = true := beq_iff_eq.mpr c14
                  have c14b1 : (a0.toList != ([108, 97, 98, 101, 108] : List UInt8)) = false := bne_eq_false_iff_eq.mpr c14
                  clear c14
                  have H' := Aside0.mk H
                  clear H
                  go_wp2
                  go_meet
                  case rel => exact ⟨_, (decide (a1 ≤ a2)), (by first | rfl | (simp; done) | (simp [*]; done)), H', ⟨by have := HJ5.out; first | omega | exact Nat.le_refl _⟩, by repeat (first | exact Drawn0.refl _ | apply Drawn0.step)⟩
                · rw [if_neg c14] at H
                  have c14b0 : (a0.toList == ([108, 97, 98, 101, 108] : List UInt8)) = false := beq_eq_false_iff_ne.mpr c14
                  have c14b1 : (a0.toList != ([108, 97, 98, 101, 108] : List UInt8)) = true := bne_iff_ne.mpr c14
                  by_cases c15 : a0.toList = ([115, 115, 115, 112] : List UInt8)
                  · rw [if_pos c15] at H
                    have c15b0 : (a0.toList == ([115, 115, 115, 112] : List UInt8)) = true := beq_iff_eq.mpr c15
                    have c15b1 : (a0.toList != ([115, 115, 115, 112] : List UInt8)) = false := bne_eq_false_iff_eq.mpr c15
                    clear c15
                    have H' := Aside0.mk H
                    clear H
                    go_wp2
                    go_meet
                    case rel => exact ⟨_, (decide (a1 ≤ a2)), (by first | rfl | (simp; done) | (simp [*]; done)), H', ⟨by have := HJ5.out; first | omega | exact Nat.le_refl _⟩, by repeat (first | exact Drawn0.refl _ | apply Drawn0.step)⟩
                  · rw [if_neg c15] at H
                    have c15b0 : (a0.toList == ([115, 115, 115, 112] : List UInt8)) = false := beq_eq_false_iff_ne.mpr c15
                    have c15b1 : (a0.toList != ([115, 115, 115, 112] : List UInt8)) = true := bne_iff_ne.mpr c15
                    by_cases c16 : a0.toList = ([98, 102, 115] : List UInt8)
                    · rw [if_pos c16] at H
                      have c16b0 : (a0.toList == ([98, 102, 115] : List UInt8)) = true := beq_iff_eq.mpr c16
                      have c16b1 : (a0.toList != ([98, 102, 115] : List UInt8)) = false := bne_eq_false_iff_eq.mpr c16
                      clear c16
                      have H' := Aside0.mk H
                      clear H
                      go_wp2
                      go_meet
                      case rel => exact ⟨_, (decide (a1 ≤ a2)), (by first | rfl | (simp; done) | (simp [*]; done)), H', ⟨by have := HJ5.out; first | omega | exact Nat.le_refl _⟩, by repeat (first | exact Drawn0.refl _ | apply Drawn0.step)⟩
                    · rw [if_neg c16] at H
                      have c16b0 : (a0.toList == ([98, 102, 115] : List UInt8)) = false := beq_eq_false_iff_ne.mpr c16
                      have c16b1 : (a0.toList != ([98, 102, 115] : List UInt8)) = true := bne_iff_ne.mpr c16
                      have H' := Aside0.mk H
                      clear H
                      go_wp2
                      go_meet
                      case rel => exact ⟨_, (false), (by first | rfl | (simp; done) | (simp [*]; done)), H', ⟨by have := HJ5.out; first | omega | exact Nat.le_refl _⟩, by repeat (first | exact Drawn0.refl _ | apply Drawn0.step)⟩
            · rw [if_neg c12] at H
              have c12b0 : (a0.toList == ([109, 97, 120] : List UInt8)) = false := beq_eq_false_iff_ne.mpr c12
              have c12b1 : (a0.toList != ([109, 97, 120] : List UInt8)) = true := bne_iff_ne.mpr c12
              (first | rw [c12b0] | (simp only [i64_w, i32_w]; rw [c12b0]) | skip)
              by_cases c17 : a0.toList = ([108, 97, 98, 101, 108] : List UInt8)
              · rw [if_pos c17] at H
                have c17b0 : (a0.toList == ([108, 97, 98, 101, 108] : List UInt8)) = true := beq_iff_eq.mpr c17
                have c17b1 : (a0.toList != ([108, 97, 98, 101, 108] : List UInt8)) = false := bne_eq_false_iff_eq.mpr c17
                clear c17
                have H' := Aside0.mk H
                clear H
                go_wp2
                go_meet
                case rel => exact ⟨_, (decide (a1 ≤ a2)), (by first | rfl | (simp; done) | (simp [*]; done)), H', ⟨by have := HJ5.out; first | omega | exact Nat.le_refl _⟩, by repeat (first | exact Drawn0.refl _ | apply Drawn0.step)⟩
              · rw [if_neg c17] at H
                have c17b0 : (a0.toList == ([108, 97, 98, 101, 108] : List UInt8)) = false := beq_eq_false_iff_ne.mpr c17
                have c17b1 : (a0.toList != ([108, 97, 98, 101, 108] : List UInt8)) = true := bne_iff_ne.mpr c17
                by_cases c18 : a0.toList = ([115, 115, 115, 112] : List UInt8)
                · rw [if_pos c18] at H
                  have c18b0 : (a0.toList == ([115, 115, 115, 112] : List UInt8)) = true := beq_iff_eq.mpr c18
                  have c18b1 : (a0.toList != ([115, 115, 115, 112] : List UInt8)) = false := bne_eq_false_iff_eq.mpr c18
                  clear c18
                  have H' := Aside0.mk H
                  clear H
                  go_wp2
                  go_meet
                  case rel => exact ⟨_, (decide (a1 ≤ a2)), (by first | rfl | (simp; done) | (simp [*]; done)), H', ⟨by have := HJ5.out; first | omega | exact Nat.le_refl _⟩, by repeat (first | exact Drawn0.refl _ | apply Drawn0.step)⟩
                · rw [if_neg c18] at H
                  have c18b0 : (a0.toList == ([115, 115, 115, 112] : List UInt8)) = false := beq_eq_false_iff_ne.mpr c18
                  have c18b1 : (a0.toList != ([115, 115, 115, 112] : List UInt8)) = true := bne_iff_ne.mpr c18
                  by_cases c19 : a0.toList = ([98, 102, 115] : List UInt8)
                  · rw [if_pos c19] at H
                    have c19b0 : (a0.toList == ([98, 102, 115] : List UInt8)) = true := beq_iff_eq.mpr c19
                    have c19b1 : (a0.toList != ([98, 102, 115] : List UInt8)) = false := bne_eq_false_iff_eq.mpr c19
                    clear c19
                    have H' := Aside0.mk H
                    clear H
                    go_wp2
                    go_meet
                    case rel => exact ⟨_, (decide (a1 ≤ a2)), (by first | rfl | (simp; done) | (simp [*]; done)), H', ⟨by have := HJ5.out; first | omega | exact Nat.le_refl _⟩, by repeat (first | exact Drawn0.refl _ | apply Drawn0.step)⟩
                  · rw [if_neg c19] at H
                    have c19b0 : (a0.toList == ([98, 102, 115] : List UInt8)) = false := beq_eq_false_iff_ne.mpr c19
                    have c19b1 : (a0.toList != ([98, 102, 115] : List UInt8)) = true := bne_iff_ne.mpr c19
                    have H' := Aside0.mk H
                    clear H
                    go_wp2
                    go_meet
                    case rel => exact ⟨_, (false), (by first | rfl | (simp; done) | (simp [*]; done)), H', ⟨by have := HJ5.out; first | omega | exact Nat.le_refl _⟩, by repeat (first | exact Drawn0.refl _ | apply Drawn0.step)⟩
          case rest =>
            clear HC11
            try clear c1
            try clear c2
            try clear p2
            try clear c5
            try clear p6
            try clear c8
            try clear c10
            try clear c12
            try clear c12b0
            try clear c12b1
            try clear c13
            try clear c13b0
            try clear c14
            try clear c14b0
            try clear c14b1
            try clear c15
            try clear c15b0
            try clear c15b1
            try clear c16
            try clear c16b0
            try clear c16b1
            try clear c17
            try clear c17b0
            try clear c17b1
            try clear c18
            try clear c18b0
            try clear c18b1
            try clear c19
            try clear c19b0
            try clear c19b1
            try clear p2
            obtain ⟨kq, x44_10, rfl, HA, HJ10, ⟨mc10, rfl⟩⟩ := hcut
            cases kq with
            | zero => exact absurd HA.out (by simp [modillionref07_Fold.j1])
            | succ kj10 =>
              have H := HA.out
              clear HA
              simp only [modillionref07_Fold.j1] at H
              by_cases c20 : x44_10 = true
              · subst c20
                have H1 : ((modillionref07_Great.f a1).bind fun t240 => (if t240 = true then (some (0, 71)) else (some (a1, 0)))) = some (r1, r2) := by rw [if_pos rfl] at H; exact H
                clear H
                have H := H1
                clear H1
                replace H := Option.bind_eq_some_iff.mp H
                obtain ⟨t240, A210, H⟩ := H
                replace H : (if t240 = true then (some (0, 71)) else (some (a1, 0))) = some (r1, r2) := H
                have A21 := Aside0.mk A210
                clear A210
                by_cases c22 : t240 = true
                · subst c22
                  have H1 : (some (0, 71)) = some (r1, r2) := by rw [if_pos rfl] at H; exact H
                  clear H
                  have H := H1
                  clear H1
                  simp only [Option.some.injEq, Prod.mk.injEq] at H
                  obtain ⟨rfl, rfl⟩ := H
                  go_wp2_with (first | ((with_reducible refine gate_callee (f := 29) rfl ?_); refine goesL_ (some 62) rfl rfl Try.func29 (by kernel_rfl) rfl #[.int .i64 a1] rfl (by (try simp only [List.map_toArray, List.map_cons, List.map_nil]); first | done | rfl | (simp only [List.length_drop, List.length_take]; rfl)) ?_; (with_reducible refine (modillionref07_Great.calls a1 true _ A21.out).mono ?_); rintro e w' ⟨rfl, ⟨nd, rfl⟩⟩; refine ⟨_, rfl, ?_⟩))
                  go_ret2
                  exact ⟨by first | rfl | (simp; done) | (simp [*]; done), by repeat (first | exact Drawn0.refl _ | apply Drawn0.step)⟩
                · replace c22 := Bool.eq_false_iff.mpr c22
                  subst c22
                  have H1 : (some (a1, 0)) = some (r1, r2) := by rw [if_neg (show ¬ (false = true) by decide)] at H; exact H
                  clear H
                  have H := H1
                  clear H1
                  simp only [Option.some.injEq, Prod.mk.injEq] at H
                  obtain ⟨rfl, rfl⟩ := H
                  go_wp2_with (first | ((with_reducible refine gate_callee (f := 29) rfl ?_); refine goesL_ (some 62) rfl rfl Try.func29 (by kernel_rfl) rfl #[.int .i64 a1] rfl (by (try simp only [List.map_toArray, List.map_cons, List.map_nil]); first | done | rfl | (simp only [List.length_drop, List.length_take]; rfl)) ?_; (with_reducible refine (modillionref07_Great.calls a1 false _ A21.out).mono ?_); rintro e w' ⟨rfl, ⟨nd, rfl⟩⟩; refine ⟨_, rfl, ?_⟩))
                  go_ret2
                  exact ⟨by first | rfl | (simp; done) | (simp [*]; done), by repeat (first | exact Drawn0.refl _ | apply Drawn0.step)⟩
              · replace c20 := Bool.eq_false_iff.mpr c20
                subst c20
                have H1 : (if a0.toList = ([109, 97, 120] : List UInt8) then (modillionref07_Fold.j2 kj10 a2 (wrap64 (a1 + a2)) true) else (if a0.toList = ([108, 97, 98, 101, 108] : List UInt8) then (modillionref07_Fold.j2 kj10 a2 (wrap64 (a1 + a2)) true) else (if a0.toList = ([115, 115, 115, 112] : List UInt8) then (modillionref07_Fold.j2 kj10 a2 (wrap64 (a1 + a2)) true) else (modillionref07_Fold.j2 kj10 a2 (wrap64 (a1 + a2)) (a0.toList == ([98, 102, 115] : List UInt8)))))) = some (r1, r2) := by rw [if_neg (show ¬ (false = true) by decide)] at H; exact H
                clear H
                have H := H1
                clear H1
                have HC23 := Aside0.mk H
                clear H
                go_upto_region 8 with (fail)
                go_cut [59] (fun v59 wc => ∃ (kq : Nat) (x59_22 : Bool), v59 = .bool x59_22 ∧ Aside0 (modillionref07_Fold.j2 kq a2 (wrap64 (a1 + a2)) x59_22 = some (r1, r2)) ∧ Aside0 (kq ≤ kj10) ∧ Drawn0 w wc)
                case first =>
                  have H := HC23.out
                  clear HC23
                  by_cases c24 : a0.toList = ([109, 97, 120] : List UInt8)
                  · rw [if_pos c24] at H
                    have c24b0 : (a0.toList == ([109, 97, 120] : List UInt8)) = true := beq_iff_eq.mpr c24
                    have c24b1 : (a0.toList != ([109, 97, 120] : List UInt8)) = false := bne_eq_false_iff_eq.mpr c24
                    clear c24
                    (first | rw [c24b0] | (simp only [i64_w, i32_w]; rw [c24b0]) | skip)
                    have H' := Aside0.mk H
                    clear H
                    go_wp2
                    go_meet
                    case rel => exact ⟨_, (true), (by first | rfl | (simp; done) | (simp [*]; done)), H', ⟨by have := HJ5.out; have := HJ10.out; first | omega | exact Nat.le_refl _⟩, by repeat (first | exact Drawn0.refl _ | apply Drawn0.step)⟩
                  · rw [if_neg c24] at H
                    have c24b0 : (a0.toList == ([109, 97, 120] : List UInt8)) = false := beq_eq_false_iff_ne.mpr c24
                    have c24b1 : (a0.toList != ([109, 97, 120] : List UInt8)) = true := bne_iff_ne.mpr c24
                    (first | rw [c24b0] | (simp only [i64_w, i32_w]; rw [c24b0]) | skip)
                    by_cases c25 : a0.toList = ([108, 97, 98, 101, 108] : List UInt8)
                    · rw [if_pos c25] at H
                      have c25b0 : (a0.toList == ([108, 97, 98, 101, 108] : List UInt8)) = true := beq_iff_eq.mpr c25
                      have c25b1 : (a0.toList != ([108, 97, 98, 101, 108] : List UInt8)) = false := bne_eq_false_iff_eq.mpr c25
                      clear c25
                      have H' := Aside0.mk H
                      clear H
                      go_wp2
                      go_meet
                      case rel => exact ⟨_, (true), (by first | rfl | (simp; done) | (simp [*]; done)), H', ⟨by have := HJ5.out; have := HJ10.out; first | omega | exact Nat.le_refl _⟩, by repeat (first | exact Drawn0.refl _ | apply Drawn0.step)⟩
                    · rw [if_neg c25] at H
                      have c25b0 : (a0.toList == ([108, 97, 98, 101, 108] : List UInt8)) = false := beq_eq_false_iff_ne.mpr c25
                      have c25b1 : (a0.toList != ([108, 97, 98, 101, 108] : List UInt8)) = true := bne_iff_ne.mpr c25
                      by_cases c26 : a0.toList = ([115, 115, 115, 112] : List UInt8)
                      · rw [if_pos c26] at H
                        have c26b0 : (a0.toList == ([115, 115, 115, 112] : List UInt8)) = true := beq_iff_eq.mpr c26
                        have c26b1 : (a0.toList != ([115, 115, 115, 112] : List UInt8)) = false := bne_eq_false_iff_eq.mpr c26
                        clear c26
                        have H' := Aside0.mk H
                        clear H
                        go_wp2
                        go_meet
                        case rel => exact ⟨_, (true), (by first | rfl | (simp; done) | (simp [*]; done)), H', ⟨by have := HJ5.out; have := HJ10.out; first | omega | exact Nat.le_refl _⟩, by repeat (first | exact Drawn0.refl _ | apply Drawn0.step)⟩
                      · rw [if_neg c26] at H
                        have c26b0 : (a0.toList == ([115, 115, 115, 112] : List UInt8)) = false := beq_eq_false_iff_ne.mpr c26
                        have c26b1 : (a0.toList != ([115, 115, 115, 112] : List UInt8)) = true := bne_iff_ne.mpr c26
                        have H' := Aside0.mk H
                        clear H
                        go_wp2
                        go_meet
                        case rel => exact ⟨_, ((a0.toList == ([98, 102, 115] : List UInt8))), (by first | rfl | (simp; done) | (simp [*]; done)), H', ⟨by have := HJ5.out; have := HJ10.out; first | omega | exact Nat.le_refl _⟩, by repeat (first | exact Drawn0.refl _ | apply Drawn0.step)⟩
                case rest =>
                  clear HC23
                  try clear c1
                  try clear c2
                  try clear p2
                  try clear c5
                  try clear p6
                  try clear c8
                  try clear c10
                  try clear c12
                  try clear c12b0
                  try clear c12b1
                  try clear c13
                  try clear c13b0
                  try clear c14
                  try clear c14b0
                  try clear c14b1
                  try clear c15
                  try clear c15b0
                  try clear c15b1
                  try clear c16
                  try clear c16b0
                  try clear c16b1
                  try clear c17
                  try clear c17b0
                  try clear c17b1
                  try clear c18
                  try clear c18b0
                  try clear c18b1
                  try clear c19
                  try clear c19b0
                  try clear c19b1
                  try clear c20
                  try clear c22
                  try clear c24
                  try clear c24b0
                  try clear c24b1
                  try clear c25
                  try clear c25b0
                  try clear c25b1
                  try clear c26
                  try clear c26b0
                  try clear c26b1
                  try clear p2
                  try clear p6
                  obtain ⟨kq, x59_22, rfl, HA, HJ22, ⟨mc22, rfl⟩⟩ := hcut
                  cases kq with
                  | zero => exact absurd HA.out (by simp [modillionref07_Fold.j2])
                  | succ kj22 =>
                    have H := HA.out
                    clear HA
                    simp only [modillionref07_Fold.j2] at H
                    by_cases c27 : x59_22 = true
                    · subst c27
                      have H1 : ((modillionref07_Great.f a2).bind fun t241 => (if t241 = true then (some (0, 71)) else (some (a2, 0)))) = some (r1, r2) := by rw [if_pos rfl] at H; exact H
                      clear H
                      have H := H1
                      clear H1
                      replace H := Option.bind_eq_some_iff.mp H
                      obtain ⟨t241, A280, H⟩ := H
                      replace H : (if t241 = true then (some (0, 71)) else (some (a2, 0))) = some (r1, r2) := H
                      have A28 := Aside0.mk A280
                      clear A280
                      by_cases c29 : t241 = true
                      · subst c29
                        have H1 : (some (0, 71)) = some (r1, r2) := by rw [if_pos rfl] at H; exact H
                        clear H
                        have H := H1
                        clear H1
                        simp only [Option.some.injEq, Prod.mk.injEq] at H
                        obtain ⟨rfl, rfl⟩ := H
                        go_wp2_with (first | ((with_reducible refine gate_callee (f := 29) rfl ?_); refine goesL_ (some 62) rfl rfl Try.func29 (by kernel_rfl) rfl #[.int .i64 a2] rfl (by (try simp only [List.map_toArray, List.map_cons, List.map_nil]); first | done | rfl | (simp only [List.length_drop, List.length_take]; rfl)) ?_; (with_reducible refine (modillionref07_Great.calls a2 true _ A28.out).mono ?_); rintro e w' ⟨rfl, ⟨nd, rfl⟩⟩; refine ⟨_, rfl, ?_⟩))
                        go_ret2
                        exact ⟨by first | rfl | (simp; done) | (simp [*]; done), by repeat (first | exact Drawn0.refl _ | apply Drawn0.step)⟩
                      · replace c29 := Bool.eq_false_iff.mpr c29
                        subst c29
                        have H1 : (some (a2, 0)) = some (r1, r2) := by rw [if_neg (show ¬ (false = true) by decide)] at H; exact H
                        clear H
                        have H := H1
                        clear H1
                        simp only [Option.some.injEq, Prod.mk.injEq] at H
                        obtain ⟨rfl, rfl⟩ := H
                        go_wp2_with (first | ((with_reducible refine gate_callee (f := 29) rfl ?_); refine goesL_ (some 62) rfl rfl Try.func29 (by kernel_rfl) rfl #[.int .i64 a2] rfl (by (try simp only [List.map_toArray, List.map_cons, List.map_nil]); first | done | rfl | (simp only [List.length_drop, List.length_take]; rfl)) ?_; (with_reducible refine (modillionref07_Great.calls a2 false _ A28.out).mono ?_); rintro e w' ⟨rfl, ⟨nd, rfl⟩⟩; refine ⟨_, rfl, ?_⟩))
                        go_ret2
                        exact ⟨by first | rfl | (simp; done) | (simp [*]; done), by repeat (first | exact Drawn0.refl _ | apply Drawn0.step)⟩
                    · replace c27 := Bool.eq_false_iff.mpr c27
                      subst c27
                      have H1 : ((modillionref07_Great.f (wrap64 (a1 + a2))).bind fun t242 => (if t242 = true then (some (0, 71)) else (some ((wrap64 (a1 + a2)), 0)))) = some (r1, r2) := by rw [if_neg (show ¬ (false = true) by decide)] at H; exact H
                      clear H
                      have H := H1
                      clear H1
                      replace H := Option.bind_eq_some_iff.mp H
                      obtain ⟨t242, A300, H⟩ := H
                      replace H : (if t242 = true then (some (0, 71)) else (some ((wrap64 (a1 + a2)), 0))) = some (r1, r2) := H
                      have A30 := Aside0.mk A300
                      clear A300
                      by_cases c31 : t242 = true
                      · subst c31
                        have H1 : (some (0, 71)) = some (r1, r2) := by rw [if_pos rfl] at H; exact H
                        clear H
                        have H := H1
                        clear H1
                        simp only [Option.some.injEq, Prod.mk.injEq] at H
                        obtain ⟨rfl, rfl⟩ := H
                        go_wp2_with (first | ((with_reducible refine gate_callee (f := 29) rfl ?_); refine goesL_ (some 62) rfl rfl Try.func29 (by kernel_rfl) rfl #[.int .i64 (wrap64 (a1 + a2))] rfl (by (try simp only [List.map_toArray, List.map_cons, List.map_nil]); first | done | rfl | (simp only [List.length_drop, List.length_take]; rfl)) ?_; (with_reducible refine (modillionref07_Great.calls (wrap64 (a1 + a2)) true _ A30.out).mono ?_); rintro e w' ⟨rfl, ⟨nd, rfl⟩⟩; refine ⟨_, rfl, ?_⟩))
                        go_ret2
                        exact ⟨by first | rfl | (simp; done) | (simp [*]; done), by repeat (first | exact Drawn0.refl _ | apply Drawn0.step)⟩
                      · replace c31 := Bool.eq_false_iff.mpr c31
                        subst c31
                        have H1 : (some ((wrap64 (a1 + a2)), 0)) = some (r1, r2) := by rw [if_neg (show ¬ (false = true) by decide)] at H; exact H
                        clear H
                        have H := H1
                        clear H1
                        simp only [Option.some.injEq, Prod.mk.injEq] at H
                        obtain ⟨rfl, rfl⟩ := H
                        go_wp2_with (first | ((with_reducible refine gate_callee (f := 29) rfl ?_); refine goesL_ (some 62) rfl rfl Try.func29 (by kernel_rfl) rfl #[.int .i64 (wrap64 (a1 + a2))] rfl (by (try simp only [List.map_toArray, List.map_cons, List.map_nil]); first | done | rfl | (simp only [List.length_drop, List.length_take]; rfl)) ?_; (with_reducible refine (modillionref07_Great.calls (wrap64 (a1 + a2)) false _ A30.out).mono ?_); rintro e w' ⟨rfl, ⟨nd, rfl⟩⟩; refine ⟨_, rfl, ?_⟩))
                        go_ret2
                        exact ⟨by first | rfl | (simp; done) | (simp [*]; done), by repeat (first | exact Drawn0.refl _ | apply Drawn0.step)⟩
  · replace c5 := Bool.eq_false_iff.mpr c5
    subst c5
    have H1 : (some (0, 70)) = some (r1, r2) := by rw [if_neg (show ¬ (false = true) by decide)] at H; exact H
    clear H
    have H := H1
    clear H1
    simp only [Option.some.injEq, Prod.mk.injEq] at H
    obtain ⟨rfl, rfl⟩ := H
    go_enter Try.func22, Try.ntmps22
    go_wp2_with (first | ((with_reducible refine gate_callee (f := 20) rfl ?_); refine goesL_ (some 10) rfl rfl Try.func20 (by kernel_rfl) rfl #[.string a0] rfl (by (try simp only [List.map_toArray, List.map_cons, List.map_nil]); first | done | rfl | (simp only [List.length_drop, List.length_take]; rfl)) ?_; (with_reducible refine (modillionref07_Known.calls a0 false _ A4.out).mono ?_); rintro e w' ⟨rfl, ⟨nd, rfl⟩⟩; refine ⟨_, rfl, ?_⟩))
    go_ret2
    exact ⟨by first | rfl | (simp; done) | (simp [*]; done), by repeat (first | exact Drawn0.refl _ | apply Drawn0.step)⟩

/-! ### modillionlaw07_ProgFolds: function 5 -/
def modillionlaw07_ProgFolds.j0 : Nat → ByteArray → Int → Int → Int → Int → Int → Bool → Option (Bool)
  | 0, _, _, _, _, _, _, _ => none
  | k + 1, x0, x1, x2, x3, x9, x10, x63 => if x63 = true then (some false) else ((prog_Fold.f k x0 x2 x3).bind fun bt250 => ((prog_Fold.f k x0 x9 x3).bind fun bt252 => ((prog_Fold.f k x0 x1 bt250.1).bind fun bt254 => (if x10 = 0 then (if bt250.2 = 0 then (if bt252.2 = 0 then (if bt254.2 = 0 then (some (bt252.1 == bt254.1)) else (some true)) else (some true)) else (some true)) else (some true)))))
def modillionlaw07_ProgFolds.f (k : Nat) (a0 : ByteArray) (a1 : Int) (a2 : Int) (a3 : Int) : Option (Bool) := (prog_Fold.f k a0 a1 a2).bind fun bt243 => ((modillionref07_Fold.f k a0 a1 a2).bind fun bt245 => ((prog_Fold.f k a0 a2 a1).bind fun bt247 => ((modillionlaw07_awake.f k).bind fun t249 => (if t249 = true then (if bt243.1 = bt245.1 then (if bt243.2 = bt245.2 then (if bt247.1 = bt243.1 then (modillionlaw07_ProgFolds.j0 k a0 a1 a2 a3 bt243.1 bt243.2 (bt247.2 != bt243.2)) else (modillionlaw07_ProgFolds.j0 k a0 a1 a2 a3 bt243.1 bt243.2 true)) else (modillionlaw07_ProgFolds.j0 k a0 a1 a2 a3 bt243.1 bt243.2 true)) else (modillionlaw07_ProgFolds.j0 k a0 a1 a2 a3 bt243.1 bt243.2 true)) else (modillionlaw07_ProgFolds.j0 k a0 a1 a2 a3 bt243.1 bt243.2 true)))))
theorem modillionlaw07_ProgFolds.mono_l : ∀ k, (∀ y0 y1 y2 y3 y4 y5 y6, LeO (modillionlaw07_ProgFolds.j0 k y0 y1 y2 y3 y4 y5 y6) (modillionlaw07_ProgFolds.j0 (k + 1) y0 y1 y2 y3 y4 y5 y6))
  | 0 => fun _ _ _ _ _ _ _ r h => by simp [modillionlaw07_ProgFolds.j0] at h
  | k + 1 => by
    have ih0 := modillionlaw07_ProgFolds.mono_l k
    · intro y0 y1 y2 y3 y4 y5 y6
      unfold modillionlaw07_ProgFolds.j0
      repeat' first
      | (with_reducible exact ih0 _ _ _ _ _ _ _)
      | (with_reducible exact modillionlaw07_awake.mono _)
      | (with_reducible exact modillionref07_Fold.mono _ _ _ _)
      | (with_reducible exact prog_Fold.mono _ _ _ _)
      | (with_reducible exact LeO.refl _)
      | (with_reducible exact LeO.none _)
      | (with_reducible refine LeO.ite ?_ ?_)
      | (with_reducible refine LeO.bind ?_ (fun _ => ?_))
      | exact ih0 _ _ _ _ _ _ _
      | exact modillionlaw07_awake.mono _
      | exact modillionref07_Fold.mono _ _ _ _
      | exact prog_Fold.mono _ _ _ _
      | exact LeO.none _
      | refine LeO.ite ?_ ?_
      | refine LeO.bind ?_ (fun _ => ?_)
theorem modillionlaw07_ProgFolds.mono : ∀ a0 a1 a2 a3 k, LeO (modillionlaw07_ProgFolds.f k a0 a1 a2 a3) (modillionlaw07_ProgFolds.f (k + 1) a0 a1 a2 a3) := by
  intro a0 a1 a2 a3 k
  have ih0 := modillionlaw07_ProgFolds.mono_l k
  unfold modillionlaw07_ProgFolds.f
  repeat' first
      | (with_reducible exact ih0 _ _ _ _ _ _ _)
      | (with_reducible exact modillionlaw07_awake.mono _)
      | (with_reducible exact modillionref07_Fold.mono _ _ _ _)
      | (with_reducible exact prog_Fold.mono _ _ _ _)
      | (with_reducible exact LeO.refl _)
      | (with_reducible exact LeO.none _)
      | (with_reducible refine LeO.ite ?_ ?_)
      | (with_reducible refine LeO.bind ?_ (fun _ => ?_))
      | exact ih0 _ _ _ _ _ _ _
      | exact modillionlaw07_awake.mono _
      | exact modillionref07_Fold.mono _ _ _ _
      | exact prog_Fold.mono _ _ _ _
      | exact LeO.none _
      | refine LeO.ite ?_ ?_
      | refine LeO.bind ?_ (fun _ => ?_)
set_option maxHeartbeats 8000000 in
set_option maxRecDepth 100000 in
theorem modillionlaw07_ProgFolds.calls (k : Nat) (a0 : ByteArray) (a1 : Int) (a2 : Int) (a3 : Int) (r : Bool) (w : World) (h : modillionlaw07_ProgFolds.f k a0 a1 a2 a3 = some r) :
    Calls Try.prog 5 #[.string a0, .int .i64 a1, .int .i64 a2, .int .i64 a3] w fun e w' => e = .returned (.bool r) ∧ Below w.heap.size w w' := by
  have HB := Aside0.mk (Below.refl w.heap.size w)
  have H : ((prog_Fold.f k a0 a1 a2).bind fun bt243 => ((modillionref07_Fold.f k a0 a1 a2).bind fun bt245 => ((prog_Fold.f k a0 a2 a1).bind fun bt247 => ((modillionlaw07_awake.f k).bind fun t249 => (if t249 = true then (if bt243.1 = bt245.1 then (if bt243.2 = bt245.2 then (if bt247.1 = bt243.1 then (modillionlaw07_ProgFolds.j0 k a0 a1 a2 a3 bt243.1 bt243.2 (bt247.2 != bt243.2)) else (modillionlaw07_ProgFolds.j0 k a0 a1 a2 a3 bt243.1 bt243.2 true)) else (modillionlaw07_ProgFolds.j0 k a0 a1 a2 a3 bt243.1 bt243.2 true)) else (modillionlaw07_ProgFolds.j0 k a0 a1 a2 a3 bt243.1 bt243.2 true)) else (modillionlaw07_ProgFolds.j0 k a0 a1 a2 a3 bt243.1 bt243.2 true)))))) = some r := h
  clear h
  replace H := Option.bind_eq_some_iff.mp H
  obtain ⟨⟨t243, t244⟩, A50, H⟩ := H
  replace H : ((modillionref07_Fold.f k a0 a1 a2).bind fun bt245 => ((prog_Fold.f k a0 a2 a1).bind fun bt247 => ((modillionlaw07_awake.f k).bind fun t249 => (if t249 = true then (if t243 = bt245.1 then (if t244 = bt245.2 then (if bt247.1 = t243 then (modillionlaw07_ProgFolds.j0 k a0 a1 a2 a3 t243 t244 (bt247.2 != t244)) else (modillionlaw07_ProgFolds.j0 k a0 a1 a2 a3 t243 t244 true)) else (modillionlaw07_ProgFolds.j0 k a0 a1 a2 a3 t243 t244 true)) else (modillionlaw07_ProgFolds.j0 k a0 a1 a2 a3 t243 t244 true)) else (modillionlaw07_ProgFolds.j0 k a0 a1 a2 a3 t243 t244 true))))) = some r := H
  have A5 := Aside0.mk A50
  clear A50
  replace H := Option.bind_eq_some_iff.mp H
  obtain ⟨⟨t245, t246⟩, A60, H⟩ := H
  replace H : ((prog_Fold.f k a0 a2 a1).bind fun bt247 => ((modillionlaw07_awake.f k).bind fun t249 => (if t249 = true then (if t243 = t245 then (if t244 = t246 then (if bt247.1 = t243 then (modillionlaw07_ProgFolds.j0 k a0 a1 a2 a3 t243 t244 (bt247.2 != t244)) else (modillionlaw07_ProgFolds.j0 k a0 a1 a2 a3 t243 t244 true)) else (modillionlaw07_ProgFolds.j0 k a0 a1 a2 a3 t243 t244 true)) else (modillionlaw07_ProgFolds.j0 k a0 a1 a2 a3 t243 t244 true)) else (modillionlaw07_ProgFolds.j0 k a0 a1 a2 a3 t243 t244 true)))) = some r := H
  have A6 := Aside0.mk A60
  clear A60
  replace H := Option.bind_eq_some_iff.mp H
  obtain ⟨⟨t247, t248⟩, A70, H⟩ := H
  replace H : ((modillionlaw07_awake.f k).bind fun t249 => (if t249 = true then (if t243 = t245 then (if t244 = t246 then (if t247 = t243 then (modillionlaw07_ProgFolds.j0 k a0 a1 a2 a3 t243 t244 (t248 != t244)) else (modillionlaw07_ProgFolds.j0 k a0 a1 a2 a3 t243 t244 true)) else (modillionlaw07_ProgFolds.j0 k a0 a1 a2 a3 t243 t244 true)) else (modillionlaw07_ProgFolds.j0 k a0 a1 a2 a3 t243 t244 true)) else (modillionlaw07_ProgFolds.j0 k a0 a1 a2 a3 t243 t244 true))) = some r := H
  have A7 := Aside0.mk A70
  clear A70
  have HC8 := Aside0.mk H
  clear H
  go_enter Try.func5, Try.ntmps5
  go_upto_region 4 with (first | ((with_reducible refine gate_callee (f := 21) rfl ?_); refine goesL_ (some 25) rfl rfl Try.func21 (by kernel_rfl) rfl #[.string a0, .int .i64 a1, .int .i64 a2] rfl (by (try simp only [List.map_toArray, List.map_cons, List.map_nil]); first | done | rfl | (simp only [List.length_drop, List.length_take]; rfl)) ?_; (with_reducible refine (prog_Fold.calls k a0 a1 a2 t243 t244 _ A5.out).mono ?_); rintro e w9 ⟨rfl, hb⟩; refine ⟨_, rfl, ?_⟩; have n0_ := Aside0.mk (below_step (by repeat (first | (with_reducible first | exact HB.out | apply below_alloc | apply pw_below_drewN | apply below_drew1) | exact HB.out)) hb); clear HB; have HB := n0_; clear n0_; (try clear hb); (try clear hb2); (try clear hk); (try clear hi)) | ((with_reducible refine gate_callee (f := 22) rfl ?_); refine goesL_ (some 32) rfl rfl Try.func22 (by kernel_rfl) rfl #[.string a0, .int .i64 a1, .int .i64 a2] rfl (by (try simp only [List.map_toArray, List.map_cons, List.map_nil]); first | done | rfl | (simp only [List.length_drop, List.length_take]; rfl)) ?_; (with_reducible refine (modillionref07_Fold.calls k a0 a1 a2 t245 t246 _ A6.out).mono ?_); rintro e w' ⟨rfl, ⟨nd, rfl⟩⟩; refine ⟨_, rfl, ?_⟩) | ((with_reducible refine gate_callee (f := 21) rfl ?_); refine goesL_ (some 39) rfl rfl Try.func21 (by kernel_rfl) rfl #[.string a0, .int .i64 a2, .int .i64 a1] rfl (by (try simp only [List.map_toArray, List.map_cons, List.map_nil]); first | done | rfl | (simp only [List.length_drop, List.length_take]; rfl)) ?_; (with_reducible refine (prog_Fold.calls k a0 a2 a1 t247 t248 _ A7.out).mono ?_); rintro e w10 ⟨rfl, hb⟩; refine ⟨_, rfl, ?_⟩; have n0_ := Aside0.mk (below_step (by repeat (first | (with_reducible first | exact HB.out | apply below_alloc | apply pw_below_drewN | apply below_drew1) | exact HB.out)) hb); clear HB; have HB := n0_; clear n0_; (try clear hb); (try clear hb2); (try clear hk); (try clear hi)))
  (try simp only [Act.put, List.setIfInBounds_toArray, List.set_cons_zero, List.set_cons_succ])
  go_cut [63] (fun v63 wc => ∃ (kq : Nat) (x63_7 : Bool), v63 = .bool x63_7 ∧ Aside0 (modillionlaw07_ProgFolds.j0 kq a0 a1 a2 a3 t243 t244 x63_7 = some r) ∧ Aside0 (kq ≤ k) ∧ Aside0 (Below w.heap.size w wc))
  case first =>
    have H := HC8.out
    clear HC8
    replace H := Option.bind_eq_some_iff.mp H
    obtain ⟨t249, A110, H⟩ := H
    replace H : (if t249 = true then (if t243 = t245 then (if t244 = t246 then (if t247 = t243 then (modillionlaw07_ProgFolds.j0 k a0 a1 a2 a3 t243 t244 (t248 != t244)) else (modillionlaw07_ProgFolds.j0 k a0 a1 a2 a3 t243 t244 true)) else (modillionlaw07_ProgFolds.j0 k a0 a1 a2 a3 t243 t244 true)) else (modillionlaw07_ProgFolds.j0 k a0 a1 a2 a3 t243 t244 true)) else (modillionlaw07_ProgFolds.j0 k a0 a1 a2 a3 t243 t244 true)) = some r := H
    have A11 := Aside0.mk A110
    clear A110
    by_cases c12 : t249 = true
    · subst c12
      have H1 : (if t243 = t245 then (if t244 = t246 then (if t247 = t243 then (modillionlaw07_ProgFolds.j0 k a0 a1 a2 a3 t243 t244 (t248 != t244)) else (modillionlaw07_ProgFolds.j0 k a0 a1 a2 a3 t243 t244 true)) else (modillionlaw07_ProgFolds.j0 k a0 a1 a2 a3 t243 t244 true)) else (modillionlaw07_ProgFolds.j0 k a0 a1 a2 a3 t243 t244 true)) = some r := by rw [if_pos rfl] at H; exact H
      clear H
      have H := H1
      clear H1
      by_cases c13 : t243 = t245
      · rw [if_pos c13] at H
        have c13b0 : (t243 == t245) = true := beq_iff_eq.mpr c13
        have c13b1 : (t243 != t245) = false := bne_eq_false_iff_eq.mpr c13
        clear c13
        (first | rw [c13b0] | (simp only [i64_w, i32_w]; rw [c13b0]) | skip)
        by_cases c14 : t244 = t246
        · rw [if_pos c14] at H
          have c14b0 : (t244 == t246) = true := beq_iff_eq.mpr c14
          have c14b1 : (t244 != t246) = false := bne_eq_false_iff_eq.mpr c14
          clear c14
          by_cases c15 : t247 = t243
          · rw [if_pos c15] at H
            have c15b0 : (t247 == t243) = true := beq_iff_eq.mpr c15
            have c15b1 : (t247 != t243) = false := bne_eq_false_iff_eq.mpr c15
            clear c15
            have H' := Aside0.mk H
            clear H
            go_wp2_with (first | ((with_reducible refine gate_callee (f := 10) rfl ?_); refine goesL_ (some 42) rfl rfl Try.func10 (by kernel_rfl) rfl #[] rfl (by (try simp only [List.map_toArray, List.map_cons, List.map_nil]); first | done | rfl | (simp only [List.length_drop, List.length_take]; rfl)) ?_; (with_reducible refine (modillionlaw07_awake.calls k  true _ A11.out).mono ?_); rintro e w16 ⟨rfl, hb⟩; refine ⟨_, rfl, ?_⟩; have n0_ := Aside0.mk (below_step (by repeat (first | (with_reducible first | exact HB.out | apply below_alloc | apply pw_below_drewN | apply below_drew1) | exact HB.out)) hb); clear HB; have HB := n0_; clear n0_; (try clear hb); (try clear hb2); (try clear hk); (try clear hi)))
            go_meet
            case rel => exact ⟨_, ((t248 != t244)), (by first | rfl | (simp; done) | (simp [*]; done)), H', ⟨by first | omega | exact Nat.le_refl _⟩, ⟨by repeat (first | (with_reducible first | exact HB.out | apply below_alloc | apply pw_below_drewN | apply below_drew1) | exact HB.out)⟩⟩
          · rw [if_neg c15] at H
            have c15b0 : (t247 == t243) = false := beq_eq_false_iff_ne.mpr c15
            have c15b1 : (t247 != t243) = true := bne_iff_ne.mpr c15
            have H' := Aside0.mk H
            clear H
            go_wp2_with (first | ((with_reducible refine gate_callee (f := 10) rfl ?_); refine goesL_ (some 42) rfl rfl Try.func10 (by kernel_rfl) rfl #[] rfl (by (try simp only [List.map_toArray, List.map_cons, List.map_nil]); first | done | rfl | (simp only [List.length_drop, List.length_take]; rfl)) ?_; (with_reducible refine (modillionlaw07_awake.calls k  true _ A11.out).mono ?_); rintro e w17 ⟨rfl, hb⟩; refine ⟨_, rfl, ?_⟩; have n0_ := Aside0.mk (below_step (by repeat (first | (with_reducible first | exact HB.out | apply below_alloc | apply pw_below_drewN | apply below_drew1) | exact HB.out)) hb); clear HB; have HB := n0_; clear n0_; (try clear hb); (try clear hb2); (try clear hk); (try clear hi)))
            go_meet
            case rel => exact ⟨_, (true), (by first | rfl | (simp; done) | (simp [*]; done)), H', ⟨by first | omega | exact Nat.le_refl _⟩, ⟨by repeat (first | (with_reducible first | exact HB.out | apply below_alloc | apply pw_below_drewN | apply below_drew1) | exact HB.out)⟩⟩
        · rw [if_neg c14] at H
          have c14b0 : (t244 == t246) = false := beq_eq_false_iff_ne.mpr c14
          have c14b1 : (t244 != t246) = true := bne_iff_ne.mpr c14
          have H' := Aside0.mk H
          clear H
          go_wp2_with (first | ((with_reducible refine gate_callee (f := 10) rfl ?_); refine goesL_ (some 42) rfl rfl Try.func10 (by kernel_rfl) rfl #[] rfl (by (try simp only [List.map_toArray, List.map_cons, List.map_nil]); first | done | rfl | (simp only [List.length_drop, List.length_take]; rfl)) ?_; (with_reducible refine (modillionlaw07_awake.calls k  true _ A11.out).mono ?_); rintro e w18 ⟨rfl, hb⟩; refine ⟨_, rfl, ?_⟩; have n0_ := Aside0.mk (below_step (by repeat (first | (with_reducible first | exact HB.out | apply below_alloc | apply pw_below_drewN | apply below_drew1) | exact HB.out)) hb); clear HB; have HB := n0_; clear n0_; (try clear hb); (try clear hb2); (try clear hk); (try clear hi)))
          go_meet
          case rel => exact ⟨_, (true), (by first | rfl | (simp; done) | (simp [*]; done)), H', ⟨by first | omega | exact Nat.le_refl _⟩, ⟨by repeat (first | (with_reducible first | exact HB.out | apply below_alloc | apply pw_below_drewN | apply below_drew1) | exact HB.out)⟩⟩
      · rw [if_neg c13] at H
        have c13b0 : (t243 == t245) = false := beq_eq_false_iff_ne.mpr c13
        have c13b1 : (t243 != t245) = true := bne_iff_ne.mpr c13
        (first | rw [c13b0] | (simp only [i64_w, i32_w]; rw [c13b0]) | skip)
        have H' := Aside0.mk H
        clear H
        go_wp2_with (first | ((with_reducible refine gate_callee (f := 10) rfl ?_); refine goesL_ (some 42) rfl rfl Try.func10 (by kernel_rfl) rfl #[] rfl (by (try simp only [List.map_toArray, List.map_cons, List.map_nil]); first | done | rfl | (simp only [List.length_drop, List.length_take]; rfl)) ?_; (with_reducible refine (modillionlaw07_awake.calls k  true _ A11.out).mono ?_); rintro e w19 ⟨rfl, hb⟩; refine ⟨_, rfl, ?_⟩; have n0_ := Aside0.mk (below_step (by repeat (first | (with_reducible first | exact HB.out | apply below_alloc | apply pw_below_drewN | apply below_drew1) | exact HB.out)) hb); clear HB; have HB := n0_; clear n0_; (try clear hb); (try clear hb2); (try clear hk); (try clear hi)))
        go_meet
        case rel => exact ⟨_, (true), (by first | rfl | (simp; done) | (simp [*]; done)), H', ⟨by first | omega | exact Nat.le_refl _⟩, ⟨by repeat (first | (with_reducible first | exact HB.out | apply below_alloc | apply pw_below_drewN | apply below_drew1) | exact HB.out)⟩⟩
    · replace c12 := Bool.eq_false_iff.mpr c12
      subst c12
      have H1 : (modillionlaw07_ProgFolds.j0 k a0 a1 a2 a3 t243 t244 true) = some r := by rw [if_neg (show ¬ (false = true) by decide)] at H; exact H
      clear H
      have H := H1
      clear H1
      have H' := Aside0.mk H
      clear H
      go_wp2_with (first | ((with_reducible refine gate_callee (f := 10) rfl ?_); refine goesL_ (some 42) rfl rfl Try.func10 (by kernel_rfl) rfl #[] rfl (by (try simp only [List.map_toArray, List.map_cons, List.map_nil]); first | done | rfl | (simp only [List.length_drop, List.length_take]; rfl)) ?_; (with_reducible refine (modillionlaw07_awake.calls k  false _ A11.out).mono ?_); rintro e w20 ⟨rfl, hb⟩; refine ⟨_, rfl, ?_⟩; have n0_ := Aside0.mk (below_step (by repeat (first | (with_reducible first | exact HB.out | apply below_alloc | apply pw_below_drewN | apply below_drew1) | exact HB.out)) hb); clear HB; have HB := n0_; clear n0_; (try clear hb); (try clear hb2); (try clear hk); (try clear hi)))
      go_meet
      case rel => exact ⟨_, (true), (by first | rfl | (simp; done) | (simp [*]; done)), H', ⟨by first | omega | exact Nat.le_refl _⟩, ⟨by repeat (first | (with_reducible first | exact HB.out | apply below_alloc | apply pw_below_drewN | apply below_drew1) | exact HB.out)⟩⟩
  case rest =>
    clear HC8
    try clear c1
    try clear c2
    try clear p2
    try clear c5
    try clear c10
    try clear c12
    try clear c13
    try clear c13b0
    try clear c13b1
    try clear c14
    try clear c14b0
    try clear c14b1
    try clear c15
    try clear c15b0
    try clear c15b1
    obtain ⟨kq, x63_7, rfl, HA, HJ7, HB⟩ := hcut
    cases kq with
    | zero => exact absurd HA.out (by simp [modillionlaw07_ProgFolds.j0])
    | succ kj7 =>
      have H := HA.out
      clear HA
      simp only [modillionlaw07_ProgFolds.j0] at H
      by_cases c21 : x63_7 = true
      · subst c21
        have H1 : (some false) = some r := by rw [if_pos rfl] at H; exact H
        clear H
        have H := H1
        clear H1
        obtain rfl := Option.some.inj H
        go_wp2
        go_ret
        exact ⟨by first | rfl | (simp [errW_none, errW_some] <;> rfl) | (simp [*, errW_none, errW_some] <;> rfl), by repeat (first | (with_reducible first | exact HB.out | apply below_alloc | apply pw_below_drewN | apply below_drew1) | exact HB.out)⟩
      · replace c21 := Bool.eq_false_iff.mpr c21
        subst c21
        have H1 : ((prog_Fold.f kj7 a0 a2 a3).bind fun bt250 => ((prog_Fold.f kj7 a0 t243 a3).bind fun bt252 => ((prog_Fold.f kj7 a0 a1 bt250.1).bind fun bt254 => (if t244 = 0 then (if bt250.2 = 0 then (if bt252.2 = 0 then (if bt254.2 = 0 then (some (bt252.1 == bt254.1)) else (some true)) else (some true)) else (some true)) else (some true))))) = some r := by rw [if_neg (show ¬ (false = true) by decide)] at H; exact H
        clear H
        have H := H1
        clear H1
        replace H := Option.bind_eq_some_iff.mp H
        obtain ⟨⟨t250, t251⟩, A220, H⟩ := H
        replace H : ((prog_Fold.f kj7 a0 t243 a3).bind fun bt252 => ((prog_Fold.f kj7 a0 a1 t250).bind fun bt254 => (if t244 = 0 then (if t251 = 0 then (if bt252.2 = 0 then (if bt254.2 = 0 then (some (bt252.1 == bt254.1)) else (some true)) else (some true)) else (some true)) else (some true)))) = some r := H
        have A22 := Aside0.mk A220
        clear A220
        replace H := Option.bind_eq_some_iff.mp H
        obtain ⟨⟨t252, t253⟩, A230, H⟩ := H
        replace H : ((prog_Fold.f kj7 a0 a1 t250).bind fun bt254 => (if t244 = 0 then (if t251 = 0 then (if t253 = 0 then (if bt254.2 = 0 then (some (t252 == bt254.1)) else (some true)) else (some true)) else (some true)) else (some true))) = some r := H
        have A23 := Aside0.mk A230
        clear A230
        replace H := Option.bind_eq_some_iff.mp H
        obtain ⟨⟨t254, t255⟩, A240, H⟩ := H
        replace H : (if t244 = 0 then (if t251 = 0 then (if t253 = 0 then (if t255 = 0 then (some (t252 == t254)) else (some true)) else (some true)) else (some true)) else (some true)) = some r := H
        have A24 := Aside0.mk A240
        clear A240
        by_cases c25 : t244 = 0
        · rw [if_pos c25] at H
          have c25b0 : (t244 == 0) = true := beq_iff_eq.mpr c25
          have c25b1 : (t244 != 0) = false := bne_eq_false_iff_eq.mpr c25
          clear c25
          by_cases c26 : t251 = 0
          · rw [if_pos c26] at H
            have c26b0 : (t251 == 0) = true := beq_iff_eq.mpr c26
            have c26b1 : (t251 != 0) = false := bne_eq_false_iff_eq.mpr c26
            clear c26
            by_cases c27 : t253 = 0
            · rw [if_pos c27] at H
              have c27b0 : (t253 == 0) = true := beq_iff_eq.mpr c27
              have c27b1 : (t253 != 0) = false := bne_eq_false_iff_eq.mpr c27
              clear c27
              by_cases c28 : t255 = 0
              · rw [if_pos c28] at H
                have c28b0 : (t255 == 0) = true := beq_iff_eq.mpr c28
                have c28b1 : (t255 != 0) = false := bne_eq_false_iff_eq.mpr c28
                clear c28
                obtain rfl := Option.some.inj H
                go_wp2_with (first | ((with_reducible refine gate_callee (f := 21) rfl ?_); refine goesL_ (some 68) rfl rfl Try.func21 (by kernel_rfl) rfl #[.string a0, .int .i64 a2, .int .i64 a3] rfl (by (try simp only [List.map_toArray, List.map_cons, List.map_nil]); first | done | rfl | (simp only [List.length_drop, List.length_take]; rfl)) ?_; (with_reducible refine (prog_Fold.calls kj7 a0 a2 a3 t250 t251 _ A22.out).mono ?_); rintro e w29 ⟨rfl, hb⟩; refine ⟨_, rfl, ?_⟩; have n0_ := Aside0.mk (below_step (by repeat (first | (with_reducible first | exact HB.out | apply below_alloc | apply pw_below_drewN | apply below_drew1) | exact HB.out)) hb); clear HB; have HB := n0_; clear n0_; (try clear hb); (try clear hb2); (try clear hk); (try clear hi); (try clear A22)) | ((with_reducible refine gate_callee (f := 21) rfl ?_); refine goesL_ (some 75) rfl rfl Try.func21 (by kernel_rfl) rfl #[.string a0, .int .i64 t243, .int .i64 a3] rfl (by (try simp only [List.map_toArray, List.map_cons, List.map_nil]); first | done | rfl | (simp only [List.length_drop, List.length_take]; rfl)) ?_; (with_reducible refine (prog_Fold.calls kj7 a0 t243 a3 t252 t253 _ A23.out).mono ?_); rintro e w30 ⟨rfl, hb⟩; refine ⟨_, rfl, ?_⟩; have n0_ := Aside0.mk (below_step (by repeat (first | (with_reducible first | exact HB.out | apply below_alloc | apply pw_below_drewN | apply below_drew1) | exact HB.out)) hb); clear HB; have HB := n0_; clear n0_; (try clear hb); (try clear hb2); (try clear hk); (try clear hi); (try clear A23)) | ((with_reducible refine gate_callee (f := 21) rfl ?_); refine goesL_ (some 82) rfl rfl Try.func21 (by kernel_rfl) rfl #[.string a0, .int .i64 a1, .int .i64 t250] rfl (by (try simp only [List.map_toArray, List.map_cons, List.map_nil]); first | done | rfl | (simp only [List.length_drop, List.length_take]; rfl)) ?_; (with_reducible refine (prog_Fold.calls kj7 a0 a1 t250 t254 t255 _ A24.out).mono ?_); rintro e w31 ⟨rfl, hb⟩; refine ⟨_, rfl, ?_⟩; have n0_ := Aside0.mk (below_step (by repeat (first | (with_reducible first | exact HB.out | apply below_alloc | apply pw_below_drewN | apply below_drew1) | exact HB.out)) hb); clear HB; have HB := n0_; clear n0_; (try clear hb); (try clear hb2); (try clear hk); (try clear hi); (try clear A24)))
                go_ret
                exact ⟨by first | rfl | (simp [errW_none, errW_some] <;> rfl) | (simp [*, errW_none, errW_some] <;> rfl), by repeat (first | (with_reducible first | exact HB.out | apply below_alloc | apply pw_below_drewN | apply below_drew1) | exact HB.out)⟩
              · rw [if_neg c28] at H
                have c28b0 : (t255 == 0) = false := beq_eq_false_iff_ne.mpr c28
                have c28b1 : (t255 != 0) = true := bne_iff_ne.mpr c28
                obtain rfl := Option.some.inj H
                go_wp2_with (first | ((with_reducible refine gate_callee (f := 21) rfl ?_); refine goesL_ (some 68) rfl rfl Try.func21 (by kernel_rfl) rfl #[.string a0, .int .i64 a2, .int .i64 a3] rfl (by (try simp only [List.map_toArray, List.map_cons, List.map_nil]); first | done | rfl | (simp only [List.length_drop, List.length_take]; rfl)) ?_; (with_reducible refine (prog_Fold.calls kj7 a0 a2 a3 t250 t251 _ A22.out).mono ?_); rintro e w32 ⟨rfl, hb⟩; refine ⟨_, rfl, ?_⟩; have n0_ := Aside0.mk (below_step (by repeat (first | (with_reducible first | exact HB.out | apply below_alloc | apply pw_below_drewN | apply below_drew1) | exact HB.out)) hb); clear HB; have HB := n0_; clear n0_; (try clear hb); (try clear hb2); (try clear hk); (try clear hi); (try clear A22)) | ((with_reducible refine gate_callee (f := 21) rfl ?_); refine goesL_ (some 75) rfl rfl Try.func21 (by kernel_rfl) rfl #[.string a0, .int .i64 t243, .int .i64 a3] rfl (by (try simp only [List.map_toArray, List.map_cons, List.map_nil]); first | done | rfl | (simp only [List.length_drop, List.length_take]; rfl)) ?_; (with_reducible refine (prog_Fold.calls kj7 a0 t243 a3 t252 t253 _ A23.out).mono ?_); rintro e w33 ⟨rfl, hb⟩; refine ⟨_, rfl, ?_⟩; have n0_ := Aside0.mk (below_step (by repeat (first | (with_reducible first | exact HB.out | apply below_alloc | apply pw_below_drewN | apply below_drew1) | exact HB.out)) hb); clear HB; have HB := n0_; clear n0_; (try clear hb); (try clear hb2); (try clear hk); (try clear hi); (try clear A23)) | ((with_reducible refine gate_callee (f := 21) rfl ?_); refine goesL_ (some 82) rfl rfl Try.func21 (by kernel_rfl) rfl #[.string a0, .int .i64 a1, .int .i64 t250] rfl (by (try simp only [List.map_toArray, List.map_cons, List.map_nil]); first | done | rfl | (simp only [List.length_drop, List.length_take]; rfl)) ?_; (with_reducible refine (prog_Fold.calls kj7 a0 a1 t250 t254 t255 _ A24.out).mono ?_); rintro e w34 ⟨rfl, hb⟩; refine ⟨_, rfl, ?_⟩; have n0_ := Aside0.mk (below_step (by repeat (first | (with_reducible first | exact HB.out | apply below_alloc | apply pw_below_drewN | apply below_drew1) | exact HB.out)) hb); clear HB; have HB := n0_; clear n0_; (try clear hb); (try clear hb2); (try clear hk); (try clear hi); (try clear A24)))
                go_ret
                exact ⟨by first | rfl | (simp [errW_none, errW_some] <;> rfl) | (simp [*, errW_none, errW_some] <;> rfl), by repeat (first | (with_reducible first | exact HB.out | apply below_alloc | apply pw_below_drewN | apply below_drew1) | exact HB.out)⟩
            · rw [if_neg c27] at H
              have c27b0 : (t253 == 0) = false := beq_eq_false_iff_ne.mpr c27
              have c27b1 : (t253 != 0) = true := bne_iff_ne.mpr c27
              obtain rfl := Option.some.inj H
              go_wp2_with (first | ((with_reducible refine gate_callee (f := 21) rfl ?_); refine goesL_ (some 68) rfl rfl Try.func21 (by kernel_rfl) rfl #[.string a0, .int .i64 a2, .int .i64 a3] rfl (by (try simp only [List.map_toArray, List.map_cons, List.map_nil]); first | done | rfl | (simp only [List.length_drop, List.length_take]; rfl)) ?_; (with_reducible refine (prog_Fold.calls kj7 a0 a2 a3 t250 t251 _ A22.out).mono ?_); rintro e w35 ⟨rfl, hb⟩; refine ⟨_, rfl, ?_⟩; have n0_ := Aside0.mk (below_step (by repeat (first | (with_reducible first | exact HB.out | apply below_alloc | apply pw_below_drewN | apply below_drew1) | exact HB.out)) hb); clear HB; have HB := n0_; clear n0_; (try clear hb); (try clear hb2); (try clear hk); (try clear hi); (try clear A22)) | ((with_reducible refine gate_callee (f := 21) rfl ?_); refine goesL_ (some 75) rfl rfl Try.func21 (by kernel_rfl) rfl #[.string a0, .int .i64 t243, .int .i64 a3] rfl (by (try simp only [List.map_toArray, List.map_cons, List.map_nil]); first | done | rfl | (simp only [List.length_drop, List.length_take]; rfl)) ?_; (with_reducible refine (prog_Fold.calls kj7 a0 t243 a3 t252 t253 _ A23.out).mono ?_); rintro e w36 ⟨rfl, hb⟩; refine ⟨_, rfl, ?_⟩; have n0_ := Aside0.mk (below_step (by repeat (first | (with_reducible first | exact HB.out | apply below_alloc | apply pw_below_drewN | apply below_drew1) | exact HB.out)) hb); clear HB; have HB := n0_; clear n0_; (try clear hb); (try clear hb2); (try clear hk); (try clear hi); (try clear A23)) | ((with_reducible refine gate_callee (f := 21) rfl ?_); refine goesL_ (some 82) rfl rfl Try.func21 (by kernel_rfl) rfl #[.string a0, .int .i64 a1, .int .i64 t250] rfl (by (try simp only [List.map_toArray, List.map_cons, List.map_nil]); first | done | rfl | (simp only [List.length_drop, List.length_take]; rfl)) ?_; (with_reducible refine (prog_Fold.calls kj7 a0 a1 t250 t254 t255 _ A24.out).mono ?_); rintro e w37 ⟨rfl, hb⟩; refine ⟨_, rfl, ?_⟩; have n0_ := Aside0.mk (below_step (by repeat (first | (with_reducible first | exact HB.out | apply below_alloc | apply pw_below_drewN | apply below_drew1) | exact HB.out)) hb); clear HB; have HB := n0_; clear n0_; (try clear hb); (try clear hb2); (try clear hk); (try clear hi); (try clear A24)))
              go_ret
              exact ⟨by first | rfl | (simp [errW_none, errW_some] <;> rfl) | (simp [*, errW_none, errW_some] <;> rfl), by repeat (first | (with_reducible first | exact HB.out | apply below_alloc | apply pw_below_drewN | apply below_drew1) | exact HB.out)⟩
          · rw [if_neg c26] at H
            have c26b0 : (t251 == 0) = false := beq_eq_false_iff_ne.mpr c26
            have c26b1 : (t251 != 0) = true := bne_iff_ne.mpr c26
            obtain rfl := Option.some.inj H
            go_wp2_with (first | ((with_reducible refine gate_callee (f := 21) rfl ?_); refine goesL_ (some 68) rfl rfl Try.func21 (by kernel_rfl) rfl #[.string a0, .int .i64 a2, .int .i64 a3] rfl (by (try simp only [List.map_toArray, List.map_cons, List.map_nil]); first | done | rfl | (simp only [List.length_drop, List.length_take]; rfl)) ?_; (with_reducible refine (prog_Fold.calls kj7 a0 a2 a3 t250 t251 _ A22.out).mono ?_); rintro e w38 ⟨rfl, hb⟩; refine ⟨_, rfl, ?_⟩; have n0_ := Aside0.mk (below_step (by repeat (first | (with_reducible first | exact HB.out | apply below_alloc | apply pw_below_drewN | apply below_drew1) | exact HB.out)) hb); clear HB; have HB := n0_; clear n0_; (try clear hb); (try clear hb2); (try clear hk); (try clear hi); (try clear A22)) | ((with_reducible refine gate_callee (f := 21) rfl ?_); refine goesL_ (some 75) rfl rfl Try.func21 (by kernel_rfl) rfl #[.string a0, .int .i64 t243, .int .i64 a3] rfl (by (try simp only [List.map_toArray, List.map_cons, List.map_nil]); first | done | rfl | (simp only [List.length_drop, List.length_take]; rfl)) ?_; (with_reducible refine (prog_Fold.calls kj7 a0 t243 a3 t252 t253 _ A23.out).mono ?_); rintro e w39 ⟨rfl, hb⟩; refine ⟨_, rfl, ?_⟩; have n0_ := Aside0.mk (below_step (by repeat (first | (with_reducible first | exact HB.out | apply below_alloc | apply pw_below_drewN | apply below_drew1) | exact HB.out)) hb); clear HB; have HB := n0_; clear n0_; (try clear hb); (try clear hb2); (try clear hk); (try clear hi); (try clear A23)) | ((with_reducible refine gate_callee (f := 21) rfl ?_); refine goesL_ (some 82) rfl rfl Try.func21 (by kernel_rfl) rfl #[.string a0, .int .i64 a1, .int .i64 t250] rfl (by (try simp only [List.map_toArray, List.map_cons, List.map_nil]); first | done | rfl | (simp only [List.length_drop, List.length_take]; rfl)) ?_; (with_reducible refine (prog_Fold.calls kj7 a0 a1 t250 t254 t255 _ A24.out).mono ?_); rintro e w40 ⟨rfl, hb⟩; refine ⟨_, rfl, ?_⟩; have n0_ := Aside0.mk (below_step (by repeat (first | (with_reducible first | exact HB.out | apply below_alloc | apply pw_below_drewN | apply below_drew1) | exact HB.out)) hb); clear HB; have HB := n0_; clear n0_; (try clear hb); (try clear hb2); (try clear hk); (try clear hi); (try clear A24)))
            go_ret
            exact ⟨by first | rfl | (simp [errW_none, errW_some] <;> rfl) | (simp [*, errW_none, errW_some] <;> rfl), by repeat (first | (with_reducible first | exact HB.out | apply below_alloc | apply pw_below_drewN | apply below_drew1) | exact HB.out)⟩
        · rw [if_neg c25] at H
          have c25b0 : (t244 == 0) = false := beq_eq_false_iff_ne.mpr c25
          have c25b1 : (t244 != 0) = true := bne_iff_ne.mpr c25
          obtain rfl := Option.some.inj H
          go_wp2_with (first | ((with_reducible refine gate_callee (f := 21) rfl ?_); refine goesL_ (some 68) rfl rfl Try.func21 (by kernel_rfl) rfl #[.string a0, .int .i64 a2, .int .i64 a3] rfl (by (try simp only [List.map_toArray, List.map_cons, List.map_nil]); first | done | rfl | (simp only [List.length_drop, List.length_take]; rfl)) ?_; (with_reducible refine (prog_Fold.calls kj7 a0 a2 a3 t250 t251 _ A22.out).mono ?_); rintro e w41 ⟨rfl, hb⟩; refine ⟨_, rfl, ?_⟩; have n0_ := Aside0.mk (below_step (by repeat (first | (with_reducible first | exact HB.out | apply below_alloc | apply pw_below_drewN | apply below_drew1) | exact HB.out)) hb); clear HB; have HB := n0_; clear n0_; (try clear hb); (try clear hb2); (try clear hk); (try clear hi); (try clear A22)) | ((with_reducible refine gate_callee (f := 21) rfl ?_); refine goesL_ (some 75) rfl rfl Try.func21 (by kernel_rfl) rfl #[.string a0, .int .i64 t243, .int .i64 a3] rfl (by (try simp only [List.map_toArray, List.map_cons, List.map_nil]); first | done | rfl | (simp only [List.length_drop, List.length_take]; rfl)) ?_; (with_reducible refine (prog_Fold.calls kj7 a0 t243 a3 t252 t253 _ A23.out).mono ?_); rintro e w42 ⟨rfl, hb⟩; refine ⟨_, rfl, ?_⟩; have n0_ := Aside0.mk (below_step (by repeat (first | (with_reducible first | exact HB.out | apply below_alloc | apply pw_below_drewN | apply below_drew1) | exact HB.out)) hb); clear HB; have HB := n0_; clear n0_; (try clear hb); (try clear hb2); (try clear hk); (try clear hi); (try clear A23)) | ((with_reducible refine gate_callee (f := 21) rfl ?_); refine goesL_ (some 82) rfl rfl Try.func21 (by kernel_rfl) rfl #[.string a0, .int .i64 a1, .int .i64 t250] rfl (by (try simp only [List.map_toArray, List.map_cons, List.map_nil]); first | done | rfl | (simp only [List.length_drop, List.length_take]; rfl)) ?_; (with_reducible refine (prog_Fold.calls kj7 a0 a1 t250 t254 t255 _ A24.out).mono ?_); rintro e w43 ⟨rfl, hb⟩; refine ⟨_, rfl, ?_⟩; have n0_ := Aside0.mk (below_step (by repeat (first | (with_reducible first | exact HB.out | apply below_alloc | apply pw_below_drewN | apply below_drew1) | exact HB.out)) hb); clear HB; have HB := n0_; clear n0_; (try clear hb); (try clear hb2); (try clear hk); (try clear hi); (try clear A24)))
          go_ret
          exact ⟨by first | rfl | (simp [errW_none, errW_some] <;> rfl) | (simp [*, errW_none, errW_some] <;> rfl), by repeat (first | (with_reducible first | exact HB.out | apply below_alloc | apply pw_below_drewN | apply below_drew1) | exact HB.out)⟩

/-- THE ONE PURE STATEMENT of modillionlaw07_ProgFolds: yours. -/
def modillionlaw07_ProgFolds.Pure : Prop := ∀ (a0 : ByteArray) (a1 : Int) (a2 : Int) (a3 : Int), a0.size ≤ 140737488351232 → (Lit.int .i64 a1).wf = true → (Lit.int .i64 a2).wf = true → (Lit.int .i64 a3).wf = true → ∃ k, modillionlaw07_ProgFolds.f k a0 a1 a2 a3 = some true
theorem modillionlaw07_ProgFolds.walk (P : modillionlaw07_ProgFolds.Pure) (a0 : ByteArray) (a1 : Int) (a2 : Int) (a3 : Int) (w : World) (w0 : a0.size ≤ 140737488351232) (w1 : (Lit.int .i64 a1).wf = true) (w2 : (Lit.int .i64 a2).wf = true) (w3 : (Lit.int .i64 a3).wf = true) :
    Calls Try.prog 5 #[.string a0, .int .i64 a1, .int .i64 a2, .int .i64 a3] w fun e w' => e = .returned (.bool true) ∧ Below w.heap.size w w' := by
  obtain ⟨k, h⟩ := P a0 a1 a2 a3 w0 w1 w2 w3
  refine (modillionlaw07_ProgFolds.calls k a0 a1 a2 a3 true w h).mono ?_
  rintro e w' ⟨rfl, hd⟩
  exact ⟨rfl, hd⟩

end Go.Proofs.Ytdmihkffjbapjaa.P
