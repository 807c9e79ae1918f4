/- What these Go functions compute, as Lean functions, and that they do. No condition. -/
import Derived.Test.YtpndhkeoljoapaaGreatPx0
import Derived.Test.YtpndhkeoljoapaaGreatPx3
import Derived.Test.YtpndhkeoljoapaaGreatPx13
namespace Go.Proofs.YtpndhkeoljoapaaGreat.P
open Go.RowKit Go.Proofs.YtpndhkeoljoapaaGreatW.PrintWords Go.Proofs.YtpndhkeoljoapaaGreatW.PrintLast Go.Proofs.YtpndhkeoljoapaaGreatW.PrintMore
attribute [local go_sem] max2_int min2_int max_two min_two max_three min_three max_four min_four   -- for this text's walks alone
set_option linter.unusedVariables false
set_option linter.unusedSimpArgs false
set_option linter.unnecessarySimpa false

/-! ### modillionref07_Known: function 37 -/
def modillionref07_Known.f (a0 : ByteArray) : Option (Bool) := if a0.toList = ([109, 97, 120] : List UInt8) then (some true) else (if a0.toList = ([108, 97, 98, 101, 108] : List UInt8) then (some true) else (if a0.toList = ([115, 115, 115, 112] : List UInt8) then (some true) else (if a0.toList = ([98, 102, 115] : List UInt8) then (some true) else (if a0.toList = ([100, 101, 103, 114, 101, 101] : List UInt8) then (some true) else (if a0.toList = ([114, 97, 110, 107] : List UInt8) then (some true) else (some (a0.toList == ([119, 97, 108, 107, 115] : List UInt8))))))))
set_option maxHeartbeats 8000000 in
set_option maxRecDepth 100000 in
theorem modillionref07_Known.calls (a0 : ByteArray) (r : Bool) (w : World) (h : modillionref07_Known.f a0 = some r) :
  Calls Tryz.prog 37 #[.string a0] w fun e w' => e = .returned (.bool r) ∧ Drawn0 w w' := by
 have H : (if a0.toList = ([109, 97, 120] : List UInt8) then (some true) else (if a0.toList = ([108, 97, 98, 101, 108] : List UInt8) then (some true) else (if a0.toList = ([115, 115, 115, 112] : List UInt8) then (some true) else (if a0.toList = ([98, 102, 115] : List UInt8) then (some true) else (if a0.toList = ([100, 101, 103, 114, 101, 101] : List UInt8) then (some true) else (if a0.toList = ([114, 97, 110, 107] : List UInt8) then (some true) else (some (a0.toList == ([119, 97, 108, 107, 115] : List UInt8))))))))) = some r := h
 clear h
 by_cases c2 : a0.toList = ([109, 97, 120] : List UInt8)
 ·rw [if_pos c2] at H
  have c2b0 : (a0.toList == ([109, 97, 120] : List UInt8)) = true := beq_iff_eq.mpr c2
  have c2b1 : (a0.toList != ([109, 97, 120] : List UInt8)) = false := bne_eq_false_iff_eq.mpr c2
  clear c2
  obtain rfl := Option.some.inj H
  go_enter Tryz.func37, Tryz.ntmps37
  go_wp2
  go_ret
  exact ⟨by first | rfl | (simp; done) | (simp [*]; done), by repeat (first | exact Drawn0.refl _ | apply Drawn0.step)⟩
 ·rw [if_neg c2] at H
  have c2b0 : (a0.toList == ([109, 97, 120] : List UInt8)) = false := beq_eq_false_iff_ne.mpr c2
  have c2b1 : (a0.toList != ([109, 97, 120] : List UInt8)) = true := bne_iff_ne.mpr c2
  by_cases c3 : a0.toList = ([108, 97, 98, 101, 108] : List UInt8)
  ·rw [if_pos c3] at H
   have c3b0 : (a0.toList == ([108, 97, 98, 101, 108] : List UInt8)) = true := beq_iff_eq.mpr c3
   have c3b1 : (a0.toList != ([108, 97, 98, 101, 108] : List UInt8)) = false := bne_eq_false_iff_eq.mpr c3
   clear c3
   obtain rfl := Option.some.inj H
   go_enter Tryz.func37, Tryz.ntmps37
   go_wp2
   go_ret
   exact ⟨by first | rfl | (simp; done) | (simp [*]; done), by repeat (first | exact Drawn0.refl _ | apply Drawn0.step)⟩
  ·rw [if_neg c3] at H
   have c3b0 : (a0.toList == ([108, 97, 98, 101, 108] : List UInt8)) = false := beq_eq_false_iff_ne.mpr c3
   have c3b1 : (a0.toList != ([108, 97, 98, 101, 108] : List UInt8)) = true := bne_iff_ne.mpr c3
   by_cases c4 : a0.toList = ([115, 115, 115, 112] : List UInt8)
   ·rw [if_pos c4] at H
    have c4b0 : (a0.toList == ([115, 115, 115, 112] : List UInt8)) = true := beq_iff_eq.mpr c4
    have c4b1 : (a0.toList != ([115, 115, 115, 112] : List UInt8)) = false := bne_eq_false_iff_eq.mpr c4
    clear c4
    obtain rfl := Option.some.inj H
    go_enter Tryz.func37, Tryz.ntmps37
    go_wp2
    go_ret
    exact ⟨by first | rfl | (simp; done) | (simp [*]; done), by repeat (first | exact Drawn0.refl _ | apply Drawn0.step)⟩
   ·rw [if_neg c4] at H
    have c4b0 : (a0.toList == ([115, 115, 115, 112] : List UInt8)) = false := beq_eq_false_iff_ne.mpr c4
    have c4b1 : (a0.toList != ([115, 115, 115, 112] : List UInt8)) = true := bne_iff_ne.mpr c4
    by_cases c5 : a0.toList = ([98, 102, 115] : List UInt8)
    ·rw [if_pos c5] at H
     have c5b0 : (a0.toList == ([98, 102, 115] : List UInt8)) = true := beq_iff_eq.mpr c5
     have c5b1 : (a0.toList != ([98, 102, 115] : List UInt8)) = false := bne_eq_false_iff_eq.mpr c5
     clear c5
     obtain rfl := Option.some.inj H
     go_enter Tryz.func37, Tryz.ntmps37
     go_wp2
     go_ret
     exact ⟨by first | rfl | (simp; done) | (simp [*]; done), by repeat (first | exact Drawn0.refl _ | apply Drawn0.step)⟩
    ·rw [if_neg c5] at H
     have c5b0 : (a0.toList == ([98, 102, 115] : List UInt8)) = false := beq_eq_false_iff_ne.mpr c5
     have c5b1 : (a0.toList != ([98, 102, 115] : List UInt8)) = true := bne_iff_ne.mpr c5
     by_cases c6 : a0.toList = ([100, 101, 103, 114, 101, 101] : List UInt8)
     ·rw [if_pos c6] at H
      have c6b0 : (a0.toList == ([100, 101, 103, 114, 101, 101] : List UInt8)) = true := beq_iff_eq.mpr c6
      have c6b1 : (a0.toList != ([100, 101, 103, 114, 101, 101] : List UInt8)) = false := bne_eq_false_iff_eq.mpr c6
      clear c6
      obtain rfl := Option.some.inj H
      go_enter Tryz.func37, Tryz.ntmps37
      go_wp2
      go_ret
      exact ⟨by first | rfl | (simp; done) | (simp [*]; done), by repeat (first | exact Drawn0.refl _ | apply Drawn0.step)⟩
     ·rw [if_neg c6] at H
      have c6b0 : (a0.toList == ([100, 101, 103, 114, 101, 101] : List UInt8)) = false := beq_eq_false_iff_ne.mpr c6
      have c6b1 : (a0.toList != ([100, 101, 103, 114, 101, 101] : List UInt8)) = true := bne_iff_ne.mpr c6
      by_cases c7 : a0.toList = ([114, 97, 110, 107] : List UInt8)
      ·rw [if_pos c7] at H
       have c7b0 : (a0.toList == ([114, 97, 110, 107] : List UInt8)) = true := beq_iff_eq.mpr c7
       have c7b1 : (a0.toList != ([114, 97, 110, 107] : List UInt8)) = false := bne_eq_false_iff_eq.mpr c7
       clear c7
       obtain rfl := Option.some.inj H
       go_enter Tryz.func37, Tryz.ntmps37
       go_wp2
       go_ret
       exact ⟨by first | rfl | (simp; done) | (simp [*]; done), by repeat (first | exact Drawn0.refl _ | apply Drawn0.step)⟩
      ·rw [if_neg c7] at H
       have c7b0 : (a0.toList == ([114, 97, 110, 107] : List UInt8)) = false := beq_eq_false_iff_ne.mpr c7
       have c7b1 : (a0.toList != ([114, 97, 110, 107] : List UInt8)) = true := bne_iff_ne.mpr c7
       obtain rfl := Option.some.inj H
       go_enter Tryz.func37, Tryz.ntmps37
       go_wp2
       go_ret
       exact ⟨by first | rfl | (simp; done) | (simp [*]; done), by repeat (first | exact Drawn0.refl _ | apply Drawn0.step)⟩

/-! ### modillionref07_Right: function 19 -/
def modillionref07_Right.f (k : Nat) (a0_0 : Int) (l0_1 : List (S48)) (a1_0 : ByteArray) (a1_1 : Int) (a1_2 : Int) : Option (Bool) := (modillionref05_Check.f k a0_0 l0_1).bind fun t177 => (if t177 = 0 then ((modillionref07_Known.f a1_0).bind fun t178 => (if t178 = true then (if a1_1 ≥ 0 then (if a1_1 < a0_0 then (if a1_2 ≥ 1 then (some (decide (a1_2 ≤ 64))) else (some false)) else (some false)) else (some false)) else (some false))) else (some false))
theorem modillionref07_Right.mono : ∀ a0 a1 a2 a3 a4 k, LeO (modillionref07_Right.f k a0 a1 a2 a3 a4) (modillionref07_Right.f (k + 1) a0 a1 a2 a3 a4) := by
 intro a0 a1 a2 a3 a4 k
 unfold modillionref07_Right.f
 repeat' first
   | (with_reducible exact modillionref05_Check.mono _ _ _)
   | (with_reducible exact LeO.refl _)
   | (with_reducible exact LeO.none _)
   | (with_reducible refine LeO.ite ?_ ?_)
   | (with_reducible refine LeO.bind ?_ (fun _ => ?_))
   | exact modillionref05_Check.mono _ _ _
   | exact LeO.none _
   | refine LeO.ite ?_ ?_
   | refine LeO.bind ?_ (fun _ => ?_)
set_option maxHeartbeats 8000000 in
set_option maxRecDepth 100000 in
theorem modillionref07_Right.calls (k : Nat) (a0_0 : Int) (A0_1 : Option Addr) (c0_1 : Nat) (l0_1 : List (S48)) (a1_0 : ByteArray) (a1_1 : Int) (a1_2 : Int) (r : Bool) (w : World) (hr0_1 : Kd.C k48 w A0_1 l0_1.length l0_1) (hc0_1 : l0_1.length ≤ c0_1) (h : modillionref07_Right.f k a0_0 l0_1 a1_0 a1_1 a1_2 = some r) :
  Calls Tryz.prog 19 #[.agg #[.int .i64 a0_0, .slice A0_1 l0_1.length c0_1], .agg #[.string a1_0, .int .i64 a1_1, .int .i64 a1_2]] w fun e w' => e = .returned (.bool r) ∧ Below w.heap.size w w' := by
 have hu24 := Tryz.underlying24
 have hu26 := Tryz.underlying26
 have HR0_1 := Aside0.mk hr0_1
 have HC0_1 := Aside0.mk hc0_1
 clear hr0_1 hc0_1
 have HB := Aside0.mk (Below.refl w.heap.size w)
 have H : ((modillionref05_Check.f k a0_0 l0_1).bind fun t177 => (if t177 = 0 then ((modillionref07_Known.f a1_0).bind fun t178 => (if t178 = true then (if a1_1 ≥ 0 then (if a1_1 < a0_0 then (if a1_2 ≥ 1 then (some (decide (a1_2 ≤ 64))) else (some false)) else (some false)) else (some false)) else (some false))) else (some false))) = some r := h
 clear h
 replace H := Option.bind_eq_some_iff.mp H
 obtain ⟨t177, A30, H⟩ := H
 replace H : (if t177 = 0 then ((modillionref07_Known.f a1_0).bind fun t178 => (if t178 = true then (if a1_1 ≥ 0 then (if a1_1 < a0_0 then (if a1_2 ≥ 1 then (some (decide (a1_2 ≤ 64))) else (some false)) else (some false)) else (some false)) else (some false))) else (some false)) = some r := H
 have A3 := Aside0.mk A30
 clear A30
 by_cases c4 : t177 = 0
 ·rw [if_pos c4] at H
  have c4b0 : (t177 == 0) = true := beq_iff_eq.mpr c4
  have c4b1 : (t177 != 0) = false := bne_eq_false_iff_eq.mpr c4
  clear c4
  replace H := Option.bind_eq_some_iff.mp H
  obtain ⟨t178, A50, H⟩ := H
  replace H : (if t178 = true then (if a1_1 ≥ 0 then (if a1_1 < a0_0 then (if a1_2 ≥ 1 then (some (decide (a1_2 ≤ 64))) else (some false)) else (some false)) else (some false)) else (some false)) = some r := H
  have A5 := Aside0.mk A50
  clear A50
  by_cases c6 : t178 = true
  ·subst c6
   have H1 : (if a1_1 ≥ 0 then (if a1_1 < a0_0 then (if a1_2 ≥ 1 then (some (decide (a1_2 ≤ 64))) else (some false)) else (some false)) else (some false)) = some r := by rw [if_pos rfl] at H; exact H
   clear H
   have H := H1
   clear H1
   by_cases c7 : a1_1 ≥ 0
   ·rw [if_pos c7] at H
    have c7b0 : decide (0 ≤ a1_1) = true := decide_eq_true c7
    clear c7
    by_cases c8 : a1_1 < a0_0
    ·rw [if_pos c8] at H
     have c8b0 := decide_eq_true c8
     clear c8
     by_cases c9 : a1_2 ≥ 1
     ·rw [if_pos c9] at H
      have c9b0 : decide (1 ≤ a1_2) = true := decide_eq_true c9
      clear c9
      obtain rfl := Option.some.inj H
      go_enter Tryz.func19, Tryz.ntmps19
      go_wp2_with (first | ((with_reducible refine gate_dst (N := 2) rfl ?_); refine bE_ #[.int .i64 a0_0, .slice A0_1 l0_1.length c0_1] 24 ?_; intro gb175 hg w10 hbox hb; have BK175 := Aside0.mk hbox; have GW175 := gS hg HB; have GE175 := gS hg HB; replace HB := bS HB hb; clear hb hbox hg) | ((with_reducible refine gate_dst (N := 3) rfl ?_); refine bE_ #[.string a1_0, .int .i64 a1_1, .int .i64 a1_2] 26 ?_; intro gb176 hg w11 hbox hb; have BK176 := Aside0.mk hbox; have GW176 := gS hg HB; have GE176 := gS hg HB; have NB175_176 := nL hg BK175; have NB176_175 := nG hg BK175; replace BK175 := aS BK175 hb; replace HB := bS HB hb; clear hb hbox hg; have := NB175_176.out; have := NB176_175.out; obtain ⟨_, _, _, _⟩ := q2z w11 BK175.out) | ((with_reducible refine gate_callee (f := 36) rfl ?_); refine gL_ (some 6) Tryz.func36 #[.agg #[.int .i64 a0_0, .slice A0_1 l0_1.length c0_1]] ?_; (with_reducible refine (modillionref05_Check.calls k a0_0 _ _ l0_1 t177 _ ?side1 ?side2 A3.out).mono ?_); (case side1 => exact kC HR0_1.out HB.out); (case side2 => exact HC0_1.out); rintro e w14 ⟨rfl, hb⟩; refine ⟨_, rfl, ?_⟩; replace BK175 := aS BK175 hb; replace BK176 := aS BK176 hb; replace HB := bS HB hb; clear hb; obtain ⟨_, _, _, _, _, _⟩ := q3z w14 BK176.out) | (go_at_call 37; (with_reducible refine (modillionref07_Known.calls a1_0 true _ A5.out).mono ?_); rintro e w' ⟨rfl, ⟨nd, rfl⟩⟩; obtain ⟨_, _, _, _⟩ := q2z w14 BK175.out))
      go_ret
      exact ⟨by first | rfl | (simp [errW_none, errW_some] <;> rfl) | (simp [*, errW_none, errW_some] <;> rfl), by exact kB HB.out⟩
     ·rw [if_neg c9] at H
      have c9b0 : decide (1 ≤ a1_2) = false := decide_eq_false c9
      clear c9
      obtain rfl := Option.some.inj H
      go_enter Tryz.func19, Tryz.ntmps19
      go_wp2_with (first | ((with_reducible refine gate_dst (N := 2) rfl ?_); refine bE_ #[.int .i64 a0_0, .slice A0_1 l0_1.length c0_1] 24 ?_; intro gb175 hg w17 hbox hb; have BK175 := Aside0.mk hbox; have GW175 := gS hg HB; have GE175 := gS hg HB; replace HB := bS HB hb; clear hb hbox hg) | ((with_reducible refine gate_dst (N := 3) rfl ?_); refine bE_ #[.string a1_0, .int .i64 a1_1, .int .i64 a1_2] 26 ?_; intro gb176 hg w18 hbox hb; have BK176 := Aside0.mk hbox; have GW176 := gS hg HB; have GE176 := gS hg HB; have NB175_176 := nL hg BK175; have NB176_175 := nG hg BK175; replace BK175 := aS BK175 hb; replace HB := bS HB hb; clear hb hbox hg; have := NB175_176.out; have := NB176_175.out; obtain ⟨_, _, _, _⟩ := q2z w18 BK175.out) | ((with_reducible refine gate_callee (f := 36) rfl ?_); refine gL_ (some 6) Tryz.func36 #[.agg #[.int .i64 a0_0, .slice A0_1 l0_1.length c0_1]] ?_; (with_reducible refine (modillionref05_Check.calls k a0_0 _ _ l0_1 t177 _ ?side1 ?side2 A3.out).mono ?_); (case side1 => exact kC HR0_1.out HB.out); (case side2 => exact HC0_1.out); rintro e w21 ⟨rfl, hb⟩; refine ⟨_, rfl, ?_⟩; replace BK175 := aS BK175 hb; replace BK176 := aS BK176 hb; replace HB := bS HB hb; clear hb; obtain ⟨_, _, _, _, _, _⟩ := q3z w21 BK176.out) | (go_at_call 37; (with_reducible refine (modillionref07_Known.calls a1_0 true _ A5.out).mono ?_); rintro e w' ⟨rfl, ⟨nd, rfl⟩⟩; obtain ⟨_, _, _, _⟩ := q2z w21 BK175.out))
      go_ret
      exact ⟨by first | rfl | (simp [errW_none, errW_some] <;> rfl) | (simp [*, errW_none, errW_some] <;> rfl), by exact kB HB.out⟩
    ·rw [if_neg c8] at H
     have c8b0 := decide_eq_false c8
     clear c8
     obtain rfl := Option.some.inj H
     go_enter Tryz.func19, Tryz.ntmps19
     go_wp2_with (first | ((with_reducible refine gate_dst (N := 2) rfl ?_); refine bE_ #[.int .i64 a0_0, .slice A0_1 l0_1.length c0_1] 24 ?_; intro gb175 hg w24 hbox hb; have BK175 := Aside0.mk hbox; have GW175 := gS hg HB; have GE175 := gS hg HB; replace HB := bS HB hb; clear hb hbox hg) | ((with_reducible refine gate_dst (N := 3) rfl ?_); refine bE_ #[.string a1_0, .int .i64 a1_1, .int .i64 a1_2] 26 ?_; intro gb176 hg w25 hbox hb; have BK176 := Aside0.mk hbox; have GW176 := gS hg HB; have GE176 := gS hg HB; have NB175_176 := nL hg BK175; have NB176_175 := nG hg BK175; replace BK175 := aS BK175 hb; replace HB := bS HB hb; clear hb hbox hg; have := NB175_176.out; have := NB176_175.out; obtain ⟨_, _, _, _⟩ := q2z w25 BK175.out) | ((with_reducible refine gate_callee (f := 36) rfl ?_); refine gL_ (some 6) Tryz.func36 #[.agg #[.int .i64 a0_0, .slice A0_1 l0_1.length c0_1]] ?_; (with_reducible refine (modillionref05_Check.calls k a0_0 _ _ l0_1 t177 _ ?side1 ?side2 A3.out).mono ?_); (case side1 => exact kC HR0_1.out HB.out); (case side2 => exact HC0_1.out); rintro e w28 ⟨rfl, hb⟩; refine ⟨_, rfl, ?_⟩; replace BK175 := aS BK175 hb; replace BK176 := aS BK176 hb; replace HB := bS HB hb; clear hb; obtain ⟨_, _, _, _, _, _⟩ := q3z w28 BK176.out) | (go_at_call 37; (with_reducible refine (modillionref07_Known.calls a1_0 true _ A5.out).mono ?_); rintro e w' ⟨rfl, ⟨nd, rfl⟩⟩; obtain ⟨_, _, _, _⟩ := q2z w28 BK175.out))
     go_ret
     exact ⟨by first | rfl | (simp [errW_none, errW_some] <;> rfl) | (simp [*, errW_none, errW_some] <;> rfl), by exact kB HB.out⟩
   ·rw [if_neg c7] at H
    have c7b0 : decide (0 ≤ a1_1) = false := decide_eq_false c7
    clear c7
    obtain rfl := Option.some.inj H
    go_enter Tryz.func19, Tryz.ntmps19
    go_wp2_with (first | ((with_reducible refine gate_dst (N := 2) rfl ?_); refine bE_ #[.int .i64 a0_0, .slice A0_1 l0_1.length c0_1] 24 ?_; intro gb175 hg w31 hbox hb; have BK175 := Aside0.mk hbox; have GW175 := gS hg HB; have GE175 := gS hg HB; replace HB := bS HB hb; clear hb hbox hg) | ((with_reducible refine gate_dst (N := 3) rfl ?_); refine bE_ #[.string a1_0, .int .i64 a1_1, .int .i64 a1_2] 26 ?_; intro gb176 hg w32 hbox hb; have BK176 := Aside0.mk hbox; have GW176 := gS hg HB; have GE176 := gS hg HB; have NB175_176 := nL hg BK175; have NB176_175 := nG hg BK175; replace BK175 := aS BK175 hb; replace HB := bS HB hb; clear hb hbox hg; have := NB175_176.out; have := NB176_175.out; obtain ⟨_, _, _, _⟩ := q2z w32 BK175.out) | ((with_reducible refine gate_callee (f := 36) rfl ?_); refine gL_ (some 6) Tryz.func36 #[.agg #[.int .i64 a0_0, .slice A0_1 l0_1.length c0_1]] ?_; (with_reducible refine (modillionref05_Check.calls k a0_0 _ _ l0_1 t177 _ ?side1 ?side2 A3.out).mono ?_); (case side1 => exact kC HR0_1.out HB.out); (case side2 => exact HC0_1.out); rintro e w35 ⟨rfl, hb⟩; refine ⟨_, rfl, ?_⟩; replace BK175 := aS BK175 hb; replace BK176 := aS BK176 hb; replace HB := bS HB hb; clear hb; obtain ⟨_, _, _, _, _, _⟩ := q3z w35 BK176.out) | (go_at_call 37; (with_reducible refine (modillionref07_Known.calls a1_0 true _ A5.out).mono ?_); rintro e w' ⟨rfl, ⟨nd, rfl⟩⟩))
    go_ret
    exact ⟨by first | rfl | (simp [errW_none, errW_some] <;> rfl) | (simp [*, errW_none, errW_some] <;> rfl), by exact kB HB.out⟩
  ·replace c6 := Bool.eq_false_iff.mpr c6
   subst c6
   have H1 : (some false) = some r := by rw [if_neg (show ¬ (false = true) by decide)] at H; exact H
   clear H
   have H := H1
   clear H1
   obtain rfl := Option.some.inj H
   go_enter Tryz.func19, Tryz.ntmps19
   go_wp2_with (first | ((with_reducible refine gate_dst (N := 2) rfl ?_); refine bE_ #[.int .i64 a0_0, .slice A0_1 l0_1.length c0_1] 24 ?_; intro gb175 hg w37 hbox hb; have BK175 := Aside0.mk hbox; have GW175 := gS hg HB; have GE175 := gS hg HB; replace HB := bS HB hb; clear hb hbox hg) | ((with_reducible refine gate_dst (N := 3) rfl ?_); refine bE_ #[.string a1_0, .int .i64 a1_1, .int .i64 a1_2] 26 ?_; intro gb176 hg w38 hbox hb; have BK176 := Aside0.mk hbox; have GW176 := gS hg HB; have GE176 := gS hg HB; have NB175_176 := nL hg BK175; have NB176_175 := nG hg BK175; replace BK175 := aS BK175 hb; replace HB := bS HB hb; clear hb hbox hg; have := NB175_176.out; have := NB176_175.out; obtain ⟨_, _, _, _⟩ := q2z w38 BK175.out) | ((with_reducible refine gate_callee (f := 36) rfl ?_); refine gL_ (some 6) Tryz.func36 #[.agg #[.int .i64 a0_0, .slice A0_1 l0_1.length c0_1]] ?_; (with_reducible refine (modillionref05_Check.calls k a0_0 _ _ l0_1 t177 _ ?side1 ?side2 A3.out).mono ?_); (case side1 => exact kC HR0_1.out HB.out); (case side2 => exact HC0_1.out); rintro e w41 ⟨rfl, hb⟩; refine ⟨_, rfl, ?_⟩; replace BK175 := aS BK175 hb; replace BK176 := aS BK176 hb; replace HB := bS HB hb; clear hb; obtain ⟨_, _, _, _, _, _⟩ := q3z w41 BK176.out) | (go_at_call 37; (with_reducible refine (modillionref07_Known.calls a1_0 false _ A5.out).mono ?_); rintro e w' ⟨rfl, ⟨nd, rfl⟩⟩))
   go_ret
   exact ⟨by first | rfl | (simp [errW_none, errW_some] <;> rfl) | (simp [*, errW_none, errW_some] <;> rfl), by exact kB HB.out⟩
 ·rw [if_neg c4] at H
  have c4b0 : (t177 == 0) = false := beq_eq_false_iff_ne.mpr c4
  have c4b1 : (t177 != 0) = true := bne_iff_ne.mpr c4
  obtain rfl := Option.some.inj H
  go_enter Tryz.func19, Tryz.ntmps19
  go_wp2_with (first | ((with_reducible refine gate_dst (N := 2) rfl ?_); refine bE_ #[.int .i64 a0_0, .slice A0_1 l0_1.length c0_1] 24 ?_; intro gb175 hg w43 hbox hb; have BK175 := Aside0.mk hbox; have GW175 := gS hg HB; have GE175 := gS hg HB; replace HB := bS HB hb; clear hb hbox hg) | ((with_reducible refine gate_dst (N := 3) rfl ?_); refine bE_ #[.string a1_0, .int .i64 a1_1, .int .i64 a1_2] 26 ?_; intro gb176 hg w44 hbox hb; have BK176 := Aside0.mk hbox; have GW176 := gS hg HB; have GE176 := gS hg HB; have NB175_176 := nL hg BK175; have NB176_175 := nG hg BK175; replace BK175 := aS BK175 hb; replace HB := bS HB hb; clear hb hbox hg; have := NB175_176.out; have := NB176_175.out; obtain ⟨_, _, _, _⟩ := q2z w44 BK175.out) | ((with_reducible refine gate_callee (f := 36) rfl ?_); refine gL_ (some 6) Tryz.func36 #[.agg #[.int .i64 a0_0, .slice A0_1 l0_1.length c0_1]] ?_; (with_reducible refine (modillionref05_Check.calls k a0_0 _ _ l0_1 t177 _ ?side1 ?side2 A3.out).mono ?_); (case side1 => exact kC HR0_1.out HB.out); (case side2 => exact HC0_1.out); rintro e w47 ⟨rfl, hb⟩; refine ⟨_, rfl, ?_⟩; replace BK175 := aS BK175 hb; replace BK176 := aS BK176 hb; replace HB := bS HB hb; clear hb))
  go_ret
  exact ⟨by first | rfl | (simp [errW_none, errW_some] <;> rfl) | (simp [*, errW_none, errW_some] <;> rfl), by exact kB HB.out⟩

/-! ### modillionref07_Great: function 50 -/
def modillionref07_Great.f (a0 : Int) : Option (Bool) := if a0 > 1125899906842624 then (some true) else (some (decide (a0 < (-1125899906842624))))
set_option maxHeartbeats 8000000 in
set_option maxRecDepth 100000 in
theorem modillionref07_Great.calls (a0 : Int) (r : Bool) (w : World) (h : modillionref07_Great.f a0 = some r) :
  Calls Tryz.prog 50 #[.int .i64 a0] w fun e w' => e = .returned (.bool r) ∧ Drawn0 w w' := by
 have H : (if a0 > 1125899906842624 then (some true) else (some (decide (a0 < (-1125899906842624))))) = some r := h
 clear h
 by_cases c2 : a0 > 1125899906842624
 ·rw [if_pos c2] at H
  have c2b0 : decide (1125899906842624 < a0) = true := decide_eq_true c2
  clear c2
  obtain rfl := Option.some.inj H
  go_enter Tryz.func50, Tryz.ntmps50
  go_wp2
  go_ret
  exact ⟨by first | rfl | (simp; done) | (simp [*]; done), by repeat (first | exact Drawn0.refl _ | apply Drawn0.step)⟩
 ·rw [if_neg c2] at H
  have c2b0 : decide (1125899906842624 < a0) = false := decide_eq_false c2
  clear c2
  obtain rfl := Option.some.inj H
  go_enter Tryz.func50, Tryz.ntmps50
  go_wp2
  go_ret
  exact ⟨by first | rfl | (simp; done) | (simp [*]; done), by repeat (first | exact Drawn0.refl _ | apply Drawn0.step)⟩

/-! ### modillionref07_all: function 74 (given) -/
/-- A message along an edge, as the reference counts. -/
def allV (val cnt : Int) (e : S48) : S61 := ⟨e.f0, e.f1, val + (if cnt = 1 then 1 else if cnt = 2 then e.f2 else 0)⟩
def fairW (e : S48) : Bool := decide (-9007199254740992 ≤ e.f2) && decide (e.f2 ≤ 9007199254740992)
def modillionref07_all.f (l0 : List S48) (a1 a2 : Int) : Option (List S61) := if l0.length ≤ 1000000 ∧ -9007199254740992 ≤ a1 ∧ a1 ≤ 9007199254740992 ∧ l0.all fairW = true then some (l0.map (allV a1 a2)) else none
section
open Go.Shelf Go.Proofs.YtpndhkeoljoapaaGreat.Bridge
theorem all_snoc (val cnt : Int) (l : List S48) (i : Nat) (h : i < l.length) : (l.take (i + 1)).map (allV val cnt) = (l.take i).map (allV val cnt) ++ [allV val cnt l[i]] := by
 rw [List.take_succ_eq_append_getElem h, List.map_append]
 rfl
set_option maxHeartbeats 16000000 in
set_option maxRecDepth 100000 in
theorem modillionref07_all.calls (A0 : Option Addr) (c0 : Nat) (l0 : List S48) (a1 a2 : Int) (r : List S61) (w : World) (hr0 : Kd.C k48 w A0 l0.length l0) (hc0 : l0.length ≤ c0) (h : modillionref07_all.f l0 a1 a2 = some r) :
  Calls Tryz.prog 74 #[.slice A0 l0.length c0, .int .i64 a1, .int .i64 a2] w fun e w' => ∃ v0_ : Value, e = .returned (v0_) ∧ Kd.R k61 61 w' w.heap.size (fun _ => True) v0_ r ∧ Below w.heap.size w w' := by
 unfold modillionref07_all.f at h
 by_cases hcond : l0.length ≤ 1000000 ∧ -9007199254740992 ≤ a1 ∧ a1 ≤ 9007199254740992 ∧ l0.all fairW = true
 ·rw [if_pos hcond] at h
  obtain rfl := Option.some.inj h
  obtain ⟨k1, k2, k3, k4⟩ := hcond
  have hu1 := Tryz.underlying48
  have hu2 := Tryz.underlying61
  have HC := Aside0.mk hr0
  have HL := Aside0.mk k1
  have HV1 := Aside0.mk k2
  have HV2 := Aside0.mk k3
  have HW := Aside0.mk (List.all_eq_true.1 k4)
  clear hr0 hc0 h k1 k2 k3 k4
  go_enter Tryz.func74, Tryz.ntmps74
  go_wp2_with ((with_reducible refine gate_dst (N := 10) rfl ?_); refine Kd.R_lit k61 _ 61 ?hg (N := 10) ?hd (xs := ([] : List S61)) (inner := []) (ok := fun _ => True) (okp := fun _ => True) ?hr ?hp (fun _ hk => hk) trivial (Below.refl _ _) (Nat.le_refl _) (by simp) ?_; (case hd => rfl); (case hg => rfl); (case hr => first | (go_simp; done) | (go_simp; rfl)); (case hp => exact Reps.none _ _); intro v0 w1 ho hb hg_ hnew_; have HO0 := Aside0.mk ho; have HB0 := Aside0.mk hb; clear ho hb hg_ hnew_)
  go_loopg [7, 8] (l0.length) (fun kq v7 v8 w' => ∃ (i : Nat), v8 = .int .i64 (i : Int) ∧ Aside0 (i + kq = l0.length) ∧ Aside0 (Kd.R k61 61 w' w.heap.size (fun _ => True) v7 ((l0.take i).map (allV a1 a2))) ∧ Aside0 (Below w.heap.size w w'))
  case atStart => exact ⟨0, rfl, ⟨by omega⟩, ⟨by simpa using HO0.out⟩, HB0⟩
  case round =>
   obtain ⟨i, rfl, HI, HO, HB⟩ := hrel
   by_cases hlt : i < l0.length
   ·have c1 : decide ((i : Int) < (l0.length : Int)) = true := decide_eq_true (by omega)
    have p1 : 0 ≤ (i : Int) := by omega
    have q1 : (i : Int) < (l0.length : Int) := by omega
    obtain ⟨ad, e1, hx0, hx1, hx2⟩ := at_T48 (Kd.C_below HC.out HB.out) (i : Int) p1 q1
    cases e1
    rw [rd_edge l0 i hlt, Int.toNat_natCast] at hx0 hx1 hx2
    have hts := all_snoc a1 a2 l0 i hlt
    have hwe := HW.out l0[i] (List.getElem_mem hlt)
    have HLT := Aside0.mk hlt
    generalize hy : l0[i] = y at hx0 hx1 hx2 hts hwe
    clear hy
    unfold fairW at hwe
    simp only [Bool.and_eq_true, decide_eq_true_eq] at hwe
    have HTS := Aside0.mk hts
    clear hts hlt
    replace p1 := eq_true p1
    replace q1 := eq_true q1
    obtain ⟨gk1, rfl⟩ : ∃ m, gk = m + 1 := ⟨gk - 1, by have := HI.out; have := HLT.out; omega⟩
    have hw1 : wrap64 ((i : Int) + 1) = (i : Int) + 1 := by have h1 := HL.out; have h2 := HLT.out; unfold wrap64; omega
    have hw2 : wrap64 (a1 + 1) = a1 + 1 := by have h1 := HV1.out; have h2 := HV2.out; unfold wrap64; omega
    have hw3 : IntKind.i64.wrap (a1 + y.f2) = a1 + y.f2 := IntWalk.i64_in _ (by have h1 := HV1.out; have h2 := HV2.out; omega)
    have hw4 : wrap64 (a1 + y.f2) = a1 + y.f2 := by have h1 := HV1.out; have h2 := HV2.out; unfold wrap64; omega
    have HLE : Aside0 (((l0.take i).map (allV a1 a2)).length < 5864062014805) := ⟨by have h2 := HL.out; rw [List.length_map, List.length_take]; omega⟩
    clear hwe
    by_cases h1 : a2 = 1
    ·have z1 : (a2 == 1) = true := beq_iff_eq.mpr h1
     have z2 : (a2 == 2) = false := beq_eq_false_iff_ne.mpr (by omega)
     have HY : Aside0 (allV a1 a2 y = ⟨y.f0, y.f1, a1 + 1⟩) := ⟨by unfold allV; rw [if_pos h1]⟩
     clear h1
     go_upto_region 5 with (fail)
     go_cut [9] (fun v9 wc => ∃ (m : Nat), v9 = .pointer (some ⟨m, 0, none⟩) ∧ Aside0 (wc.heap[m]? = some (.cells #[.int .i64 y.f0, .int .i64 y.f1, .int .i64 a1] 61 (0, 0))) ∧ Aside0 (Below wr.heap.size wr wc) ∧ Aside0 (wr.heap.size ≤ m))
     case first =>
      go_region_held3 (fun w' => w'.cell? (ad.add (i * 3)) = some (.int .i64 y.f0) ∧ w'.cell? ⟨(ad.add (i * 3)).block, (ad.add (i * 3)).off + 1, none⟩ = some (.int .i64 y.f1)) (first | exact ⟨hx0, hx1⟩ | go_keep) (first | fail)
      all_goals
       go_wp2
       go_meet
       case rel => exact ⟨_, rfl, ⟨by first | exact blk_drew (blk_new _ _) | exact blk_new _ _⟩, ⟨by repeat (first | exact Below.refl _ _ | apply below_alloc | apply pw_below_drewN | apply below_drew1)⟩, ⟨Nat.le_refl _⟩⟩
     case rest =>
     obtain ⟨m, rfl, BKm, HBc, HM⟩ := hcut
     obtain ⟨cm0, cm1, cm2⟩ := c3z wc BKm.out
     have fm2 := blk_frozen BKm.out 2
     have SZE : Aside0 (wc.heap.size = (wc.setCell ⟨m, 2, none⟩ (.int .i64 (a1 + 1))).heap.size) := ⟨by simp⟩
     go_wp2_with (at_builtin; refine Kd.R_append k61 (w0 := w) w.heap.size rfl (.tmp 46) (.tmp 48) 29 61 (.agg #[(.int .i64 0), (.int .i64 0), (.int .i64 0)]) 24 rfl Tryz.underlying29 info61 rfl (by decide) (by omega) u7 ((l0.take i).map (allV a1 a2)) (⟨y.f0, y.f1, a1 + 1⟩ : S61) [.int .i64 y.f0, .int .i64 y.f1, .int .i64 (a1 + 1)] (fun _ => True) (fun _ => False) rfl (congrArg (fun z : Nat => Value.slice (some ⟨z, 0, none⟩) 1 1) SZE.out) ?aP (fun _ hk => hk.elim) ?aF ?aO ?aB ?aS ?aL ?_; (case aP => exact k61_mkM _ _ _ _); (case aB => exact HB.out.trans ((below_set HBc.out HM.out).mono HB.out.size)); (case aF => exact (fun _ _ => trivial)); (case aO => exact Kd.R_below HO.out (below_set HBc.out HM.out)); (case aS => exact Nat.le_trans HB.out.size ((below_set HBc.out HM.out)).size); (case aL => have := HLE.out; omega); intro v9 w10 ho hb hg hat; have HB9 := Aside0.mk hb; have HO9 := Aside0.mk ho; clear ho hb hg hat)
     go_roundg gk1
     case measure => omega
     case rel => exact ⟨i + 1, by go_num, ⟨by have := HI.out; omega⟩, ⟨by rw [HTS.out, HY.out]; exact HO9.out⟩, HB9⟩
    ·by_cases h2 : a2 = 2
     ·have z1 : (a2 == 1) = false := beq_eq_false_iff_ne.mpr h1
      have z2 : (a2 == 2) = true := beq_iff_eq.mpr h2
      have HY : Aside0 (allV a1 a2 y = ⟨y.f0, y.f1, a1 + y.f2⟩) := ⟨by unfold allV; rw [if_neg h1, if_pos h2]⟩
      clear h1 h2
      go_upto_region 5 with (fail)
      go_cut [9] (fun v9 wc => ∃ (m : Nat), v9 = .pointer (some ⟨m, 0, none⟩) ∧ Aside0 (wc.heap[m]? = some (.cells #[.int .i64 y.f0, .int .i64 y.f1, .int .i64 a1] 61 (0, 0))) ∧ Aside0 (Below wr.heap.size wr wc) ∧ Aside0 (wr.heap.size ≤ m))
      case first =>
       go_region_held3 (fun w' => w'.cell? (ad.add (i * 3)) = some (.int .i64 y.f0) ∧ w'.cell? ⟨(ad.add (i * 3)).block, (ad.add (i * 3)).off + 1, none⟩ = some (.int .i64 y.f1)) (first | exact ⟨hx0, hx1⟩ | go_keep) (first | fail)
       all_goals
        go_wp2
        go_meet
        case rel => exact ⟨_, rfl, ⟨by first | exact blk_drew (blk_new _ _) | exact blk_new _ _⟩, ⟨by repeat (first | exact Below.refl _ _ | apply below_alloc | apply pw_below_drewN | apply below_drew1)⟩, ⟨Nat.le_refl _⟩⟩
      case rest =>
      obtain ⟨m, rfl, BKm, HBc, HM⟩ := hcut
      obtain ⟨cm0, cm1, cm2⟩ := c3z wc BKm.out
      have fm2 := blk_frozen BKm.out 2
      go_upto_if 36 with (fail)
      go_cut [] from 11 to 49 (fun wd => Aside0 (wd.heap[m]? = some (.cells #[.int .i64 y.f0, .int .i64 y.f1, .int .i64 (a1 + y.f2)] 61 (0, 0))) ∧ Aside0 (Below wr.heap.size wr wd))
      case first =>
       have hx2c : wc.cell? ⟨(ad.add (i * 3)).block, (ad.add (i * 3)).off + 2, none⟩ = some (.int .i64 y.f2) := (HBc.out.cell (World.block_lt_of_cell? _ _ hx2)).trans hx2
       go_wp2
       go_still_tail 9, (by kernel_rfl)
       change wpList _ _ _ _ _ wc.drew
       go_wp2
       go_meet
       case rel => exact ⟨⟨by first | exact blk_put (blk_drew BKm.out) 2 _ rfl | exact blk_drew (blk_put BKm.out 2 _ rfl)⟩, ⟨by repeat (first | exact HBc.out | refine below_set ?_ HM.out | apply below_drew1)⟩⟩
      case rest =>
      obtain ⟨BKd, HBd⟩ := hcut
      obtain ⟨cd0, cd1, cd2⟩ := c3z wc BKd.out
      go_wp2_with (at_builtin; refine Kd.R_append k61 (w0 := w) w.heap.size rfl (.tmp 46) (.tmp 48) 29 61 (.agg #[(.int .i64 0), (.int .i64 0), (.int .i64 0)]) 24 rfl Tryz.underlying29 info61 rfl (by decide) (by omega) u7 ((l0.take i).map (allV a1 a2)) (⟨y.f0, y.f1, a1 + y.f2⟩ : S61) [.int .i64 y.f0, .int .i64 y.f1, .int .i64 (a1 + y.f2)] (fun _ => True) (fun _ => False) rfl rfl ?aP (fun _ hk => hk.elim) ?aF ?aO ?aB ?aS ?aL ?_; (case aP => exact k61_mkM _ _ _ _); (case aB => exact HB.out.trans (HBd.out.mono HB.out.size)); (case aF => exact (fun _ _ => trivial)); (case aO => exact Kd.R_below HO.out HBd.out); (case aS => exact Nat.le_trans HB.out.size (HBd.out).size); (case aL => have := HLE.out; omega); intro v9 w10 ho hb hg hat; have HB9 := Aside0.mk hb; have HO9 := Aside0.mk ho; clear ho hb hg hat)
      go_roundg gk1
      case measure => omega
      case rel => exact ⟨i + 1, by go_num, ⟨by have := HI.out; omega⟩, ⟨by rw [HTS.out, HY.out]; exact HO9.out⟩, HB9⟩
     ·have z1 : (a2 == 1) = false := beq_eq_false_iff_ne.mpr h1
      have z2 : (a2 == 2) = false := beq_eq_false_iff_ne.mpr h2
      have HY : Aside0 (allV a1 a2 y = ⟨y.f0, y.f1, a1⟩) := ⟨by unfold allV; rw [if_neg h1, if_neg h2, Int.add_zero]⟩
      clear h1 h2
      go_upto_region 5 with (fail)
      go_cut [9] (fun v9 wc => ∃ (m : Nat), v9 = .pointer (some ⟨m, 0, none⟩) ∧ Aside0 (wc.heap[m]? = some (.cells #[.int .i64 y.f0, .int .i64 y.f1, .int .i64 a1] 61 (0, 0))) ∧ Aside0 (Below wr.heap.size wr wc) ∧ Aside0 (wr.heap.size ≤ m))
      case first =>
       go_region_held3 (fun w' => w'.cell? (ad.add (i * 3)) = some (.int .i64 y.f0) ∧ w'.cell? ⟨(ad.add (i * 3)).block, (ad.add (i * 3)).off + 1, none⟩ = some (.int .i64 y.f1)) (first | exact ⟨hx0, hx1⟩ | go_keep) (first | fail)
       all_goals
        go_wp2
        go_meet
        case rel => exact ⟨_, rfl, ⟨by first | exact blk_drew (blk_new _ _) | exact blk_new _ _⟩, ⟨by repeat (first | exact Below.refl _ _ | apply below_alloc | apply pw_below_drewN | apply below_drew1)⟩, ⟨Nat.le_refl _⟩⟩
      case rest =>
      obtain ⟨m, rfl, BKm, HBc, HM⟩ := hcut
      obtain ⟨cm0, cm1, cm2⟩ := c3z wc BKm.out
      have fm2 := blk_frozen BKm.out 2
      go_wp2_with (at_builtin; refine Kd.R_append k61 (w0 := w) w.heap.size rfl (.tmp 46) (.tmp 48) 29 61 (.agg #[(.int .i64 0), (.int .i64 0), (.int .i64 0)]) 24 rfl Tryz.underlying29 info61 rfl (by decide) (by omega) u7 ((l0.take i).map (allV a1 a2)) (⟨y.f0, y.f1, a1⟩ : S61) [.int .i64 y.f0, .int .i64 y.f1, .int .i64 (a1)] (fun _ => True) (fun _ => False) rfl rfl ?aP (fun _ hk => hk.elim) ?aF ?aO ?aB ?aS ?aL ?_; (case aP => exact k61_mkM _ _ _ _); (case aB => exact HB.out.trans (HBc.out.mono HB.out.size)); (case aF => exact (fun _ _ => trivial)); (case aO => exact Kd.R_below HO.out HBc.out); (case aS => exact Nat.le_trans HB.out.size (HBc.out).size); (case aL => have := HLE.out; omega); intro v9 w10 ho hb hg hat; have HB9 := Aside0.mk hb; have HO9 := Aside0.mk ho; clear ho hb hg hat)
      go_roundg gk1
      case measure => omega
      case rel => exact ⟨i + 1, by go_num, ⟨by have := HI.out; omega⟩, ⟨by rw [HTS.out, HY.out]; exact HO9.out⟩, HB9⟩
   ·have c1 : decide ((i : Int) < (l0.length : Int)) = false := decide_eq_false (by omega)
    have c1n : decide (i < l0.length) = false := decide_eq_false (by omega)
    have hi : i = l0.length := by have := HI.out; omega
    have HO3 : Aside0 (Kd.R k61 61 wr w.heap.size (fun _ => True) u7 (l0.map (allV a1 a2))) := ⟨by have := HO.out; rwa [hi, List.take_length] at this⟩
    clear hi HO HI hlt
    go_wp2
    go_ret
    exact ⟨_, rfl, HO3.out, HB.out⟩
 ·rw [if_neg hcond] at h
  cases h
end

/-! ### modillionref07_floor: function 75 -/
def modillionref07_floor.f (a0 : Int) (a1 : Int) : Option (Int) := if a0 ≥ 0 then (if a1 = 0 then (none) else (some (wrap64 (Int.tdiv a0 a1)))) else (if a1 = 0 then (none) else (some (wrap64 (-(wrap64 (Int.tdiv (wrap64 ((wrap64 ((wrap64 (-a0)) + a1)) - 1)) a1))))))
set_option maxHeartbeats 8000000 in
set_option maxRecDepth 100000 in
theorem modillionref07_floor.calls (a0 : Int) (a1 : Int) (r : Int) (w : World) (h : modillionref07_floor.f a0 a1 = some r) :
  Calls Tryz.prog 75 #[.int .i64 a0, .int .i64 a1] w fun e w' => e = .returned (.int .i64 r) ∧ Drawn0 w w' := by
 have H : (if a0 ≥ 0 then (if a1 = 0 then (none) else (some (wrap64 (Int.tdiv a0 a1)))) else (if a1 = 0 then (none) else (some (wrap64 (-(wrap64 (Int.tdiv (wrap64 ((wrap64 ((wrap64 (-a0)) + a1)) - 1)) a1))))))) = some r := h
 clear h
 by_cases c3 : a0 ≥ 0
 ·rw [if_pos c3] at H
  have c3b0 : decide (0 ≤ a0) = true := decide_eq_true c3
  clear c3
  by_cases c4 : a1 = 0
  ·rw [if_pos c4] at H
   exact absurd H (by simp)
  ·rw [if_neg c4] at H
   have c4b0 : (a1 == 0) = false := beq_eq_false_iff_ne.mpr c4
   have c4b1 : (a1 != 0) = true := bne_iff_ne.mpr c4
   obtain rfl := Option.some.inj H
   go_enter Tryz.func75, Tryz.ntmps75
   go_wp2
   go_ret
   exact ⟨by first | rfl | (simp; done) | (simp [*]; done), by repeat (first | exact Drawn0.refl _ | apply Drawn0.step)⟩
 ·rw [if_neg c3] at H
  have c3b0 : decide (0 ≤ a0) = false := decide_eq_false c3
  clear c3
  by_cases c5 : a1 = 0
  ·rw [if_pos c5] at H
   exact absurd H (by simp)
  ·rw [if_neg c5] at H
   have c5b0 : (a1 == 0) = false := beq_eq_false_iff_ne.mpr c5
   have c5b1 : (a1 != 0) = true := bne_iff_ne.mpr c5
   obtain rfl := Option.some.inj H
   go_enter Tryz.func75, Tryz.ntmps75
   go_wp2
   go_ret
   exact ⟨by first | rfl | (simp; done) | (simp [*]; done), by repeat (first | exact Drawn0.refl _ | apply Drawn0.step)⟩

end Go.Proofs.YtpndhkeoljoapaaGreat.P
