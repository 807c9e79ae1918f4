/- What these Go functions compute, as Lean functions, and that they do. No condition. -/
import Derived.Test.YtpndhkeoljoapaaPx0
import Derived.Test.YtpndhkeoljoapaaPx2
import Derived.Test.YtpndhkeoljoapaaPx3
import Derived.Test.YtpndhkeoljoapaaPx6
namespace Go.Proofs.Ytpndhkeoljoapaa.P
open Go.RowKit Go.Proofs.YtpndhkeoljoapaaW.PrintWords Go.Proofs.YtpndhkeoljoapaaW.PrintLast Go.Proofs.YtpndhkeoljoapaaW.PrintMore
attribute [local go_sem] max2_int min2_int max_two min_two max_three min_three max_four min_four   -- for this text's walks alone
set_option linter.unusedVariables false
set_option linter.unusedSimpArgs false
set_option linter.unnecessarySimpa false

/-! ### prog_Fold: function 40 -/
mutual
def prog_Fold.j0 : Nat → ByteArray → Int → Int → Bool → Option (Int × Int)
 | 0, _, _, _, _ => none
 | k + 1, x0, x1, x2, x17 => if x17 = true then (some (0, 71)) else (if x0.toList = ([109, 97, 120] : List UInt8) then ((prog_great.f (mx x1 x2)).bind fun t132 => (if t132 = true then (some (0, 71)) else (some (mx x1 x2, 0)))) else (if x0.toList = ([108, 97, 98, 101, 108] : List UInt8) then (prog_Fold.j1 k x1 x2 (wrap64 (x1 + x2)) (x0.toList == ([108, 97, 98, 101, 108] : List UInt8))) else (if x0.toList = ([115, 115, 115, 112] : List UInt8) then (prog_Fold.j1 k x1 x2 (wrap64 (x1 + x2)) (x0.toList == ([115, 115, 115, 112] : List UInt8))) else (prog_Fold.j1 k x1 x2 (wrap64 (x1 + x2)) (x0.toList == ([98, 102, 115] : List UInt8))))))
def prog_Fold.j1 : Nat → Int → Int → Int → Bool → Option (Int × Int)
 | 0, _, _, _, _ => none
 | k + 1, x1, x2, x8, x27 => if x27 = true then ((prog_great.f (mn x1 x2)).bind fun t133 => (if t133 = true then (some (0, 71)) else (some (mn x1 x2, 0)))) else ((prog_great.f x8).bind fun t134 => (if t134 = true then (some (0, 71)) else (some (x8, 0))))
end
def prog_Fold.f (k : Nat) (a0 : ByteArray) (a1 : Int) (a2 : Int) : Option (Int × Int) := (prog_Known.f k a0).bind fun t129 => (if t129 = true then ((prog_great.f a1).bind fun t130 => (if t130 = true then (prog_Fold.j0 k a0 a1 a2 true) else ((prog_great.f a2).bind fun t131 => (prog_Fold.j0 k a0 a1 a2 t131)))) else (some (0, 70)))
theorem prog_Fold.mono_l : ∀ k, (∀ y0 y1 y2 y3, LeO (prog_Fold.j0 k y0 y1 y2 y3) (prog_Fold.j0 (k + 1) y0 y1 y2 y3)) ∧ (∀ y0 y1 y2 y3, LeO (prog_Fold.j1 k y0 y1 y2 y3) (prog_Fold.j1 (k + 1) y0 y1 y2 y3))
 | 0 => ⟨fun _ _ _ _ r h => by simp [prog_Fold.j0] at h, fun _ _ _ _ r h => by simp [prog_Fold.j1] at h⟩
 | k + 1 => by
  obtain ⟨ih0, ih1⟩ := prog_Fold.mono_l k
  refine ⟨?_, ?_⟩
  ·intro y0 y1 y2 y3
   unfold prog_Fold.j0
   repeat' first
   | (with_reducible exact ih0 _ _ _ _)
   | (with_reducible exact ih1 _ _ _ _)
   | (with_reducible exact prog_Known.mono _ _)
   | (with_reducible exact LeO.refl _)
   | (with_reducible exact LeO.none _)
   | (with_reducible refine LeO.ite ?_ ?_)
   | (with_reducible refine LeO.bind ?_ (fun _ => ?_))
   | exact ih0 _ _ _ _
   | exact ih1 _ _ _ _
   | exact prog_Known.mono _ _
   | exact LeO.none _
   | refine LeO.ite ?_ ?_
   | refine LeO.bind ?_ (fun _ => ?_)
  ·intro y0 y1 y2 y3
   unfold prog_Fold.j1
   repeat' first
   | (with_reducible exact ih0 _ _ _ _)
   | (with_reducible exact ih1 _ _ _ _)
   | (with_reducible exact prog_Known.mono _ _)
   | (with_reducible exact LeO.refl _)
   | (with_reducible exact LeO.none _)
   | (with_reducible refine LeO.ite ?_ ?_)
   | (with_reducible refine LeO.bind ?_ (fun _ => ?_))
   | exact ih0 _ _ _ _
   | exact ih1 _ _ _ _
   | exact prog_Known.mono _ _
   | exact LeO.none _
   | refine LeO.ite ?_ ?_
   | refine LeO.bind ?_ (fun _ => ?_)
theorem prog_Fold.mono : ∀ a0 a1 a2 k, LeO (prog_Fold.f k a0 a1 a2) (prog_Fold.f (k + 1) a0 a1 a2) := by
 intro a0 a1 a2 k
 obtain ⟨ih0, ih1⟩ := prog_Fold.mono_l k
 unfold prog_Fold.f
 repeat' first
   | (with_reducible exact ih0 _ _ _ _)
   | (with_reducible exact ih1 _ _ _ _)
   | (with_reducible exact prog_Known.mono _ _)
   | (with_reducible exact LeO.refl _)
   | (with_reducible exact LeO.none _)
   | (with_reducible refine LeO.ite ?_ ?_)
   | (with_reducible refine LeO.bind ?_ (fun _ => ?_))
   | exact ih0 _ _ _ _
   | exact ih1 _ _ _ _
   | exact prog_Known.mono _ _
   | exact LeO.none _
   | refine LeO.ite ?_ ?_
   | refine LeO.bind ?_ (fun _ => ?_)
set_option maxHeartbeats 8000000 in
set_option maxRecDepth 100000 in
theorem prog_Fold.calls (k : Nat) (a0 : ByteArray) (a1 : Int) (a2 : Int) (r1 : Int) (r2 : Int) (w : World) (h : prog_Fold.f k a0 a1 a2 = some (r1, r2)) :
  Calls Try.prog 40 #[.string a0, .int .i64 a1, .int .i64 a2] w fun e w' => e = .returned (.tuple #[.int .i64 r1, .int .i64 r2]) ∧ Below w.heap.size w w' := by
 have HB := Aside0.mk (Below.refl w.heap.size w)
 have H : ((prog_Known.f k a0).bind fun t129 => (if t129 = true then ((prog_great.f a1).bind fun t130 => (if t130 = true then (prog_Fold.j0 k a0 a1 a2 true) else ((prog_great.f a2).bind fun t131 => (prog_Fold.j0 k a0 a1 a2 t131)))) else (some (0, 70)))) = some (r1, r2) := h
 clear h
 replace H := Option.bind_eq_some_iff.mp H
 obtain ⟨t129, A40, H⟩ := H
 replace H : (if t129 = true then ((prog_great.f a1).bind fun t130 => (if t130 = true then (prog_Fold.j0 k a0 a1 a2 true) else ((prog_great.f a2).bind fun t131 => (prog_Fold.j0 k a0 a1 a2 t131)))) else (some (0, 70))) = some (r1, r2) := H
 have A4 := Aside0.mk A40
 clear A40
 by_cases c5 : t129 = true
 ·subst c5
  have H1 : ((prog_great.f a1).bind fun t130 => (if t130 = true then (prog_Fold.j0 k a0 a1 a2 true) else ((prog_great.f a2).bind fun t131 => (prog_Fold.j0 k a0 a1 a2 t131)))) = some (r1, r2) := by rw [if_pos rfl] at H; exact H
  clear H
  have H := H1
  clear H1
  have HC6 := Aside0.mk H
  clear H
  go_enter Try.func40, Try.ntmps40
  go_upto_region 3 with (first | ((with_reducible refine gate_callee (f := 32) rfl ?_); refine goesL_ (some 10) rfl rfl Try.func32 (by kernel_rfl) rfl #[.string a0] rfl (by (try simp only [List.map_toArray, List.map_cons, List.map_nil]); first | done | rfl | (simp only [List.length_drop, List.length_take]; rfl)) ?_; (with_reducible refine (prog_Known.calls k a0 true _ A4.out).mono ?_); rintro e w7 ⟨rfl, hb⟩; refine ⟨_, rfl, ?_⟩; have n0_ := Aside0.mk (below_step (kB HB.out) hb); clear HB; have HB := n0_; clear n0_; (try clear hb); (try clear hb2); (try clear hk); (try clear hi)))
  (try simp only [Act.put, List.setIfInBounds_toArray, List.set_cons_zero, List.set_cons_succ])
  go_cut [17] (fun v17 wc => ∃ (kq : Nat) (x17_5 : Bool), v17 = .bool x17_5 ∧ Aside0 (prog_Fold.j0 kq a0 a1 a2 x17_5 = some (r1, r2)) ∧ Aside0 (kq ≤ k) ∧ Aside0 (Below w.heap.size w wc))
  case first =>
   have H := HC6.out
   clear HC6
   replace H := Option.bind_eq_some_iff.mp H
   obtain ⟨t130, A80, H⟩ := H
   replace H : (if t130 = true then (prog_Fold.j0 k a0 a1 a2 true) else ((prog_great.f a2).bind fun t131 => (prog_Fold.j0 k a0 a1 a2 t131))) = some (r1, r2) := H
   have A8 := Aside0.mk A80
   clear A80
   by_cases c9 : t130 = true
   ·subst c9
    have H1 : (prog_Fold.j0 k a0 a1 a2 true) = some (r1, r2) := by rw [if_pos rfl] at H; exact H
    clear H
    have H := H1
    clear H1
    have H' := Aside0.mk H
    clear H
    go_wp2_with (first | ((with_reducible refine gate_callee (f := 34) rfl ?_); refine goesL_ (some 13) rfl rfl Try.func34 (by kernel_rfl) rfl #[.int .i64 a1] rfl (by (try simp only [List.map_toArray, List.map_cons, List.map_nil]); first | done | rfl | (simp only [List.length_drop, List.length_take]; rfl)) ?_; (with_reducible refine (prog_great.calls a1 true _ A8.out).mono ?_); rintro e w' ⟨rfl, ⟨nd, rfl⟩⟩; refine ⟨_, rfl, ?_⟩))
    go_meet
    case rel => exact ⟨_, (true), (by first | rfl | (simp; done) | (simp [*]; done)), H', ⟨by first | omega | exact Nat.le_refl _⟩, ⟨kB HB.out⟩⟩
   ·replace c9 := Bool.eq_false_iff.mpr c9
    subst c9
    have H1 : ((prog_great.f a2).bind fun t131 => (prog_Fold.j0 k a0 a1 a2 t131)) = some (r1, r2) := by rw [if_neg (show ¬ (false = true) by decide)] at H; exact H
    clear H
    have H := H1
    clear H1
    replace H := Option.bind_eq_some_iff.mp H
    obtain ⟨t131, A100, H⟩ := H
    replace H : (prog_Fold.j0 k a0 a1 a2 t131) = some (r1, r2) := H
    have A10 := Aside0.mk A100
    clear A100
    have H' := Aside0.mk H
    clear H
    go_wp2_with (first | ((with_reducible refine gate_callee (f := 34) rfl ?_); refine goesL_ (some 13) rfl rfl Try.func34 (by kernel_rfl) rfl #[.int .i64 a1] rfl (by (try simp only [List.map_toArray, List.map_cons, List.map_nil]); first | done | rfl | (simp only [List.length_drop, List.length_take]; rfl)) ?_; (with_reducible refine (prog_great.calls a1 false _ A8.out).mono ?_); rintro e w' ⟨rfl, ⟨nd, rfl⟩⟩; refine ⟨_, rfl, ?_⟩; (try clear A8)) | (go_at_call 34; (with_reducible refine (prog_great.calls a2 t131 _ A10.out).mono ?_); rintro e w' ⟨rfl, ⟨nd, rfl⟩⟩; (try clear A10)))
    go_meet
    case rel => exact ⟨_, (t131), (by first | rfl | (simp; done) | (simp [*]; done)), H', ⟨by first | omega | exact Nat.le_refl _⟩, ⟨kB HB.out⟩⟩
  case rest =>
   clear HC6
   try clear p2
   try clear c3
   try clear c4
   try clear c5
   try clear c9
   obtain ⟨kq, x17_5, rfl, HA, HJ5, HB⟩ := hcut
   cases kq with
   | zero => exact absurd HA.out (by simp [prog_Fold.j0])
   | succ kj5 =>
    have H := HA.out
    clear HA
    simp only [prog_Fold.j0] at H
    by_cases c11 : x17_5 = true
    ·subst c11
     have H1 : (some (0, 71)) = some (r1, r2) := by rw [if_pos rfl] at H; exact H
     clear H
     have H := H1
     clear H1
     simp only [Option.some.injEq, Prod.mk.injEq] at H
     obtain ⟨rfl, rfl⟩ := H
     go_wp2
     go_ret2
     exact ⟨by first | rfl | (simp [errW_none, errW_some] <;> rfl) | (simp [*, errW_none, errW_some] <;> rfl), by exact kB HB.out⟩
    ·replace c11 := Bool.eq_false_iff.mpr c11
     subst c11
     have H1 : (if a0.toList = ([109, 97, 120] : List UInt8) then ((prog_great.f (mx a1 a2)).bind fun t132 => (if t132 = true then (some (0, 71)) else (some (mx a1 a2, 0)))) else (if a0.toList = ([108, 97, 98, 101, 108] : List UInt8) then (prog_Fold.j1 kj5 a1 a2 (wrap64 (a1 + a2)) (a0.toList == ([108, 97, 98, 101, 108] : List UInt8))) else (if a0.toList = ([115, 115, 115, 112] : List UInt8) then (prog_Fold.j1 kj5 a1 a2 (wrap64 (a1 + a2)) (a0.toList == ([115, 115, 115, 112] : List UInt8))) else (prog_Fold.j1 kj5 a1 a2 (wrap64 (a1 + a2)) (a0.toList == ([98, 102, 115] : List UInt8)))))) = some (r1, r2) := by rw [if_neg (show ¬ (false = true) by decide)] at H; exact H
     clear H
     have H := H1
     clear H1
     by_cases c12 : a0.toList = ([109, 97, 120] : List UInt8)
     ·rw [if_pos c12] at H
      have c12b0 : (a0.toList == ([109, 97, 120] : List UInt8)) = true := beq_iff_eq.mpr c12
      have c12b1 : (a0.toList != ([109, 97, 120] : List UInt8)) = false := bne_eq_false_iff_eq.mpr c12
      clear c12
      obtain ⟨ji13, hji13⟩ : ∃ j_ : Int, (mx a1 a2) = j_ := ⟨_, rfl⟩
      replace H : ((prog_great.f (ji13)).bind fun t132 => (if t132 = true then (some (0, 71)) else (some (ji13, 0)))) = some (r1, r2) := by first | (rw [hji13] at H; exact H) | (simp only [hji13] at H ⊢; exact H)
      have hji13_ : (if a1 < a2 then a2 else a1) = ji13 := hji13
      replace H := Option.bind_eq_some_iff.mp H
      obtain ⟨t132, A140, H⟩ := H
      replace H : (if t132 = true then (some (0, 71)) else (some (ji13, 0))) = some (r1, r2) := H
      have A14 := Aside0.mk A140
      clear A140
      by_cases c15 : t132 = true
      ·subst c15
       have H1 : (some (0, 71)) = some (r1, r2) := by rw [if_pos rfl] at H; exact H
       clear H
       have H := H1
       clear H1
       simp only [Option.some.injEq, Prod.mk.injEq] at H
       obtain ⟨rfl, rfl⟩ := H
       go_wp2_with (first | ((with_reducible refine gate_callee (f := 34) rfl ?_); refine goesL_ (some 35) rfl rfl Try.func34 (by kernel_rfl) rfl #[.int .i64 ji13] rfl (by (try simp only [List.map_toArray, List.map_cons, List.map_nil]); first | done | (simp only [hji13]; rfl) | rfl | (simp only [List.length_drop, List.length_take]; rfl)) ?_; (with_reducible refine (prog_great.calls ji13 true _ A14.out).mono ?_); rintro e w' ⟨rfl, ⟨nd, rfl⟩⟩; refine ⟨_, rfl, ?_⟩))
       go_ret2
       exact ⟨by first | rfl | (simp [errW_none, errW_some] <;> rfl) | (simp only [← hji13]; first | rfl | (simp [errW_none, errW_some] <;> rfl)) | (simp [*, errW_none, errW_some] <;> rfl), by exact kB HB.out⟩
      ·replace c15 := Bool.eq_false_iff.mpr c15
       subst c15
       have H1 : (some (ji13, 0)) = some (r1, r2) := by rw [if_neg (show ¬ (false = true) by decide)] at H; exact H
       clear H
       have H := H1
       clear H1
       simp only [Option.some.injEq, Prod.mk.injEq] at H
       obtain ⟨rfl, rfl⟩ := H
       go_wp2_with (first | ((with_reducible refine gate_callee (f := 34) rfl ?_); refine goesL_ (some 35) rfl rfl Try.func34 (by kernel_rfl) rfl #[.int .i64 ji13] rfl (by (try simp only [List.map_toArray, List.map_cons, List.map_nil]); first | done | (simp only [hji13]; rfl) | rfl | (simp only [List.length_drop, List.length_take]; rfl)) ?_; (with_reducible refine (prog_great.calls ji13 false _ A14.out).mono ?_); rintro e w' ⟨rfl, ⟨nd, rfl⟩⟩; refine ⟨_, rfl, ?_⟩))
       go_ret2
       exact ⟨by first | rfl | (simp [errW_none, errW_some] <;> rfl) | (simp only [← hji13]; first | rfl | (simp [errW_none, errW_some] <;> rfl)) | (simp [*, errW_none, errW_some] <;> rfl), by exact kB HB.out⟩
     ·rw [if_neg c12] at H
      have c12b0 : (a0.toList == ([109, 97, 120] : List UInt8)) = false := beq_eq_false_iff_ne.mpr c12
      have c12b1 : (a0.toList != ([109, 97, 120] : List UInt8)) = true := bne_iff_ne.mpr c12
      have HC16 := Aside0.mk H
      clear H
      go_upto_if 27 with (fail)
      go_cut [27] (fun v27 wc => ∃ (kq : Nat) (x27_15 : Bool), v27 = .bool x27_15 ∧ Aside0 (prog_Fold.j1 kq a1 a2 (wrap64 (a1 + a2)) x27_15 = some (r1, r2)) ∧ Aside0 (kq ≤ kj5) ∧ Aside0 (Below w.heap.size w wc))
      case first =>
       have H := HC16.out
       clear HC16
       by_cases c17 : a0.toList = ([108, 97, 98, 101, 108] : List UInt8)
       ·rw [if_pos c17] at H
        have c17b0 : (a0.toList == ([108, 97, 98, 101, 108] : List UInt8)) = true := beq_iff_eq.mpr c17
        have c17b1 : (a0.toList != ([108, 97, 98, 101, 108] : List UInt8)) = false := bne_eq_false_iff_eq.mpr c17
        clear c17
        (first | rw [c17b0] | (simp only [i64_w, i32_w]; rw [c17b0]) | skip)
        have H' := Aside0.mk H
        clear H
        go_wp2
        go_meet
        case rel => exact ⟨_, ((a0.toList == ([108, 97, 98, 101, 108] : List UInt8))), (by first | rfl | (simp; done) | (simp [*]; done)), H', ⟨by have := HJ5.out; first | omega | exact Nat.le_refl _⟩, ⟨kB HB.out⟩⟩
       ·rw [if_neg c17] at H
        have c17b0 : (a0.toList == ([108, 97, 98, 101, 108] : List UInt8)) = false := beq_eq_false_iff_ne.mpr c17
        have c17b1 : (a0.toList != ([108, 97, 98, 101, 108] : List UInt8)) = true := bne_iff_ne.mpr c17
        (first | rw [c17b0] | (simp only [i64_w, i32_w]; rw [c17b0]) | skip)
        by_cases c18 : a0.toList = ([115, 115, 115, 112] : List UInt8)
        ·rw [if_pos c18] at H
         have c18b0 : (a0.toList == ([115, 115, 115, 112] : List UInt8)) = true := beq_iff_eq.mpr c18
         have c18b1 : (a0.toList != ([115, 115, 115, 112] : List UInt8)) = false := bne_eq_false_iff_eq.mpr c18
         clear c18
         have H' := Aside0.mk H
         clear H
         go_wp2
         go_meet
         case rel => exact ⟨_, ((a0.toList == ([115, 115, 115, 112] : List UInt8))), (by first | rfl | (simp; done) | (simp [*]; done)), H', ⟨by have := HJ5.out; first | omega | exact Nat.le_refl _⟩, ⟨kB HB.out⟩⟩
        ·rw [if_neg c18] at H
         have c18b0 : (a0.toList == ([115, 115, 115, 112] : List UInt8)) = false := beq_eq_false_iff_ne.mpr c18
         have c18b1 : (a0.toList != ([115, 115, 115, 112] : List UInt8)) = true := bne_iff_ne.mpr c18
         have H' := Aside0.mk H
         clear H
         go_wp2
         go_meet
         case rel => exact ⟨_, ((a0.toList == ([98, 102, 115] : List UInt8))), (by first | rfl | (simp; done) | (simp [*]; done)), H', ⟨by have := HJ5.out; first | omega | exact Nat.le_refl _⟩, ⟨kB HB.out⟩⟩
      case rest =>
       clear HC16
       try clear c1
       try clear p2
       try clear c3
       try clear c4
       try clear c5
       try clear p6
       try clear c9
       try clear c11
       try clear c12
       try clear c12b0
       try clear c12b1
       try clear c15
       try clear c17
       try clear c17b0
       try clear c17b1
       try clear c18
       try clear c18b0
       try clear c18b1
       try clear p2
       obtain ⟨kq, x27_15, rfl, HA, HJ15, HB⟩ := hcut
       cases kq with
       | zero => exact absurd HA.out (by simp [prog_Fold.j1])
       | succ kj15 =>
        have H := HA.out
        clear HA
        simp only [prog_Fold.j1] at H
        by_cases c19 : x27_15 = true
        ·subst c19
         have H1 : ((prog_great.f (mn a1 a2)).bind fun t133 => (if t133 = true then (some (0, 71)) else (some (mn a1 a2, 0)))) = some (r1, r2) := by rw [if_pos rfl] at H; exact H
         clear H
         have H := H1
         clear H1
         obtain ⟨ji20, hji20⟩ : ∃ j_ : Int, (mn a1 a2) = j_ := ⟨_, rfl⟩
         replace H : ((prog_great.f (ji20)).bind fun t133 => (if t133 = true then (some (0, 71)) else (some (ji20, 0)))) = some (r1, r2) := by first | (rw [hji20] at H; exact H) | (simp only [hji20] at H ⊢; exact H)
         have hji20_ : (if a2 < a1 then a2 else a1) = ji20 := hji20
         replace H := Option.bind_eq_some_iff.mp H
         obtain ⟨t133, A210, H⟩ := H
         replace H : (if t133 = true then (some (0, 71)) else (some (ji20, 0))) = some (r1, r2) := H
         have A21 := Aside0.mk A210
         clear A210
         by_cases c22 : t133 = true
         ·subst c22
          have H1 : (some (0, 71)) = some (r1, r2) := by rw [if_pos rfl] at H; exact H
          clear H
          have H := H1
          clear H1
          simp only [Option.some.injEq, Prod.mk.injEq] at H
          obtain ⟨rfl, rfl⟩ := H
          go_wp2_with (first | ((with_reducible refine gate_callee (f := 34) rfl ?_); refine goesL_ (some 35) rfl rfl Try.func34 (by kernel_rfl) rfl #[.int .i64 ji20] rfl (by (try simp only [List.map_toArray, List.map_cons, List.map_nil]); first | done | (simp only [hji20]; rfl) | rfl | (simp only [List.length_drop, List.length_take]; rfl)) ?_; (with_reducible refine (prog_great.calls ji20 true _ A21.out).mono ?_); rintro e w' ⟨rfl, ⟨nd, rfl⟩⟩; refine ⟨_, rfl, ?_⟩))
          go_ret2
          exact ⟨by first | rfl | (simp [errW_none, errW_some] <;> rfl) | (simp only [← hji20]; first | rfl | (simp [errW_none, errW_some] <;> rfl)) | (simp [*, errW_none, errW_some] <;> rfl), by exact kB HB.out⟩
         ·replace c22 := Bool.eq_false_iff.mpr c22
          subst c22
          have H1 : (some (ji20, 0)) = some (r1, r2) := by rw [if_neg (show ¬ (false = true) by decide)] at H; exact H
          clear H
          have H := H1
          clear H1
          simp only [Option.some.injEq, Prod.mk.injEq] at H
          obtain ⟨rfl, rfl⟩ := H
          go_wp2_with (first | ((with_reducible refine gate_callee (f := 34) rfl ?_); refine goesL_ (some 35) rfl rfl Try.func34 (by kernel_rfl) rfl #[.int .i64 ji20] rfl (by (try simp only [List.map_toArray, List.map_cons, List.map_nil]); first | done | (simp only [hji20]; rfl) | rfl | (simp only [List.length_drop, List.length_take]; rfl)) ?_; (with_reducible refine (prog_great.calls ji20 false _ A21.out).mono ?_); rintro e w' ⟨rfl, ⟨nd, rfl⟩⟩; refine ⟨_, rfl, ?_⟩))
          go_ret2
          exact ⟨by first | rfl | (simp [errW_none, errW_some] <;> rfl) | (simp only [← hji20]; first | rfl | (simp [errW_none, errW_some] <;> rfl)) | (simp [*, errW_none, errW_some] <;> rfl), by exact kB HB.out⟩
        ·replace c19 := Bool.eq_false_iff.mpr c19
         subst c19
         have H1 : ((prog_great.f (wrap64 (a1 + a2))).bind fun t134 => (if t134 = true then (some (0, 71)) else (some ((wrap64 (a1 + a2)), 0)))) = some (r1, r2) := by rw [if_neg (show ¬ (false = true) by decide)] at H; exact H
         clear H
         have H := H1
         clear H1
         replace H := Option.bind_eq_some_iff.mp H
         obtain ⟨t134, A230, H⟩ := H
         replace H : (if t134 = true then (some (0, 71)) else (some ((wrap64 (a1 + a2)), 0))) = some (r1, r2) := H
         have A23 := Aside0.mk A230
         clear A230
         by_cases c24 : t134 = true
         ·subst c24
          have H1 : (some (0, 71)) = some (r1, r2) := by rw [if_pos rfl] at H; exact H
          clear H
          have H := H1
          clear H1
          simp only [Option.some.injEq, Prod.mk.injEq] at H
          obtain ⟨rfl, rfl⟩ := H
          go_wp2_with (first | ((with_reducible refine gate_callee (f := 34) rfl ?_); refine goesL_ (some 35) rfl rfl Try.func34 (by kernel_rfl) rfl #[.int .i64 (wrap64 (a1 + a2))] rfl (by (try simp only [List.map_toArray, List.map_cons, List.map_nil]); first | done | rfl | (simp only [List.length_drop, List.length_take]; rfl)) ?_; (with_reducible refine (prog_great.calls (wrap64 (a1 + a2)) true _ A23.out).mono ?_); rintro e w' ⟨rfl, ⟨nd, rfl⟩⟩; refine ⟨_, rfl, ?_⟩))
          go_ret2
          exact ⟨by first | rfl | (simp [errW_none, errW_some] <;> rfl) | (simp [*, errW_none, errW_some] <;> rfl), by exact kB HB.out⟩
         ·replace c24 := Bool.eq_false_iff.mpr c24
          subst c24
          have H1 : (some ((wrap64 (a1 + a2)), 0)) = some (r1, r2) := by rw [if_neg (show ¬ (false = true) by decide)] at H; exact H
          clear H
          have H := H1
          clear H1
          simp only [Option.some.injEq, Prod.mk.injEq] at H
          obtain ⟨rfl, rfl⟩ := H
          go_wp2_with (first | ((with_reducible refine gate_callee (f := 34) rfl ?_); refine goesL_ (some 35) rfl rfl Try.func34 (by kernel_rfl) rfl #[.int .i64 (wrap64 (a1 + a2))] rfl (by (try simp only [List.map_toArray, List.map_cons, List.map_nil]); first | done | rfl | (simp only [List.length_drop, List.length_take]; rfl)) ?_; (with_reducible refine (prog_great.calls (wrap64 (a1 + a2)) false _ A23.out).mono ?_); rintro e w' ⟨rfl, ⟨nd, rfl⟩⟩; refine ⟨_, rfl, ?_⟩))
          go_ret2
          exact ⟨by first | rfl | (simp [errW_none, errW_some] <;> rfl) | (simp [*, errW_none, errW_some] <;> rfl), by exact kB HB.out⟩
 ·replace c5 := Bool.eq_false_iff.mpr c5
  subst c5
  have H1 : (some (0, 70)) = some (r1, r2) := by rw [if_neg (show ¬ (false = true) by decide)] at H; exact H
  clear H
  have H := H1
  clear H1
  simp only [Option.some.injEq, Prod.mk.injEq] at H
  obtain ⟨rfl, rfl⟩ := H
  go_enter Try.func40, Try.ntmps40
  go_wp2_with (first | ((with_reducible refine gate_callee (f := 32) rfl ?_); refine goesL_ (some 10) rfl rfl Try.func32 (by kernel_rfl) rfl #[.string a0] rfl (by (try simp only [List.map_toArray, List.map_cons, List.map_nil]); first | done | rfl | (simp only [List.length_drop, List.length_take]; rfl)) ?_; (with_reducible refine (prog_Known.calls k a0 false _ A4.out).mono ?_); rintro e w25 ⟨rfl, hb⟩; refine ⟨_, rfl, ?_⟩; have n0_ := Aside0.mk (below_step (kB HB.out) hb); clear HB; have HB := n0_; clear n0_; (try clear hb); (try clear hb2); (try clear hk); (try clear hi)))
  go_ret2
  exact ⟨by first | rfl | (simp [errW_none, errW_some] <;> rfl) | (simp [*, errW_none, errW_some] <;> rfl), by exact kB HB.out⟩

/-! ### fold_Came: function 29 (given) -/
def maxTag : ByteArray := ⟨#[109, 97, 120]⟩
/-- Further messages, folded: the value and the error so far. -/
def cameL (tag : ByteArray) : List S48 → Int → Int → Option (Int × Int)
 | [], n, e => some (n, e)
 | m :: l, n, e => if e = 0 then (prog_Fold.f 20 tag n m.f2).bind fun p => cameL tag l p.1 p.2 else some (n, e)
def cameQ (tag : ByteArray) : List S48 → Option (Int × Bool × Int)
 | [] => some (0, false, 0)
 | m :: l => (prog_Fold.f 20 maxTag m.f2 m.f2).bind fun p => (cameL tag l p.1 p.2).bind fun p2 => if p2.2 = 0 then some (p2.1, true, 0) else some (0, false, p2.2)
def fold_Came.f (a0 : ByteArray) (l1 : List S48) (a2 : Int) : Option (Int × Bool × Int) := (prog_Known.f 20 a0).bind fun b => if b = true then (if l1.length < 5864062014805 then cameQ a0 (sortMsg (l1.filter fun x => x.f1 == a2)) else none) else some (0, false, 70)
section
open Go.Sort Go.Shelf Go.Proofs.Ytpndhkeoljoapaa.Bridge
theorem came_at {W : World} {A : Option Addr} {l : List S48} {x : S48} {i : Nat} (h : Kd.C k48 W A l.length l) (hi : l[i]? = some x) : ∃ ad, A = some ad ∧ W.cell? (ad.add (i * 3)) = some (.int .i64 x.f0) ∧ W.cell? ⟨(ad.add (i * 3)).block, (ad.add (i * 3)).off + 1, none⟩ = some (.int .i64 x.f1) ∧ W.cell? ⟨(ad.add (i * 3)).block, (ad.add (i * 3)).off + 2, none⟩ = some (.int .i64 x.f2) := by
 have hl := (List.getElem?_eq_some_iff.1 hi).1
 obtain ⟨ad, e, h0, h1, h2⟩ := at_T48 h (i : Int) (by omega) (by omega)
 rw [rd_msg l i hl, (List.getElem?_eq_some_iff.1 hi).2, Int.toNat_natCast] at h0 h1 h2
 exact ⟨ad, e, h0, h1, h2⟩
/-- A row of one's own that is not empty: its first's value, and what is behind it. -/
theorem came_row {w : World} {base : Nat} {v : Value} {m : S48} {l : List S48} (hr : Kd.R k48 48 w base (fun _ => True) v (m :: l)) :
  ∃ g c AD, v = .slice (some ⟨g, 0, none⟩) (l.length + 1) c ∧ w.cell? ⟨g, 2, none⟩ = some (.int .i64 m.f2) ∧ l.length + 1 ≤ c ∧ (∀ W, (Instr.slice 37 (.slice (some ⟨g, 0, none⟩) (l.length + 1) c) (some (.int .i64 1)) none none).run Try.prog W = .ok (.slice AD l.length (c - 1)) W) ∧ Kd.C k48 w AD l.length l := by
 obtain ⟨g, c, e, _, _, _⟩ := Kd.R_form hr (by simp)
 subst e
 obtain ⟨_, hle, hc⟩ := Kd.R_reads' hr
 obtain ⟨ad, ea, _, _, x2⟩ := came_at (i := 0) (x := m) hc rfl
 obtain rfl := Option.some.inj ea
 obtain ⟨ti, hti, _, hsz, _⟩ := info_parts info48
 have hcuf := cut_from (P := Try.prog) 37 48 .i64 Try.underlying37 hti 3 hsz (some ⟨g, 0, none⟩) (m :: l).length c (1 : Int) (by omega) (by simp; omega)
 have hd := Kd.C_drop (m := 1) hc (by simp) hle
 exact ⟨g, c, (if c = 1 then some ⟨g, 0, none⟩ else (some (⟨g, 0, none⟩ : Addr)).map (fun x : Addr => x.add (1 * 3))), rfl, by simpa [add_plain] using x2, hle, fun W => hcuf W, hd⟩
set_option maxHeartbeats 16000000 in
set_option maxRecDepth 100000 in
theorem fold_Came.calls (a0 : ByteArray) (A1 : Option Addr) (c1 : Nat) (l1 : List S48) (a2 : Int) (r1 : Int) (r2 : Bool) (r3 : Int) (w : World) (hr1 : Kd.C k48 w A1 l1.length l1) (hc1 : l1.length ≤ c1) (h : fold_Came.f a0 l1 a2 = some (r1, r2, r3)) :
  Calls Try.prog 29 #[.string a0, .slice A1 l1.length c1, .int .i64 a2] w fun e w' => e = .returned (.tuple #[.int .i64 r1, .bool r2, .int .i64 r3]) ∧ Below w.heap.size w w' := by
 unfold fold_Came.f at h
 obtain ⟨b, hk, h⟩ := Option.bind_eq_some_iff.mp h
 have HK := prog_Known.calls 20 a0 b w hk
 have HR := Aside0.mk hr1
 have HC := Aside0.mk hc1
 have hu2 := Try.underlying48
 clear hr1 hc1 hk
 cases b with
 | false =>
  rw [if_neg (by decide)] at h
  injection h with h
  injection h with e1 h
  injection h with e2 e3
  subst e1 e2 e3
  go_enter Try.func29, Try.ntmps29
  go_wp2_with (go_at_call 32; refine HK.mono ?_; rintro e w2 ⟨rfl, hb⟩; have HB2 := Aside0.mk hb; clear hb HK)
  go_ret3
  exact ⟨rfl, HB2.out⟩
 | true =>
  rw [if_pos rfl] at h
  by_cases hl : l1.length < 5864062014805
  ·rw [if_pos hl] at h
   have HT : ∀ W, Below w.heap.size w W → Calls Try.prog 39 #[.slice A1 l1.length c1, .int .i64 a2] W fun e w' => ∃ v0_ : Value, e = .returned (v0_) ∧ Kd.R k48 48 w' W.heap.size (fun _ => True) v0_ (sortMsg (l1.filter fun x => x.f1 == a2)) ∧ Below W.heap.size W w' := fun W hW => fold_To.calls A1 c1 l1 a2 _ W (Kd.C_below HR.out hW) HC.out (by unfold fold_To.f; rw [if_pos hl])
   have hql : (sortMsg (l1.filter fun x => x.f1 == a2)).length < 5864062014805 := by
    unfold sortMsg
    rw [List.length_mergeSort]
    have := List.length_filter_le (fun x : S48 => x.f1 == a2) l1
    omega
   generalize sortMsg (l1.filter fun x => x.f1 == a2) = q at HT hql h
   clear hl
   cases q with
   | nil =>
    unfold cameQ at h
    injection h with h
    injection h with e1 h
    injection h with e2 e3
    subst e1 e2 e3
    clear hql
    go_enter Try.func29, Try.ntmps29
    go_wp2_with (first | (go_at_call 32; refine HK.mono ?_; rintro e w2 ⟨rfl, hb⟩; have HB2 := Aside0.mk hb; clear hb HK) | (go_at_call 39; refine (HT _ HB2.out).mono ?_; rintro e w3 ⟨v3, rfl, hr, hb⟩; have HB3 := Aside0.mk (HB2.out.trans (hb.mono HB2.out.size)); obtain ⟨A3, c3, e3⟩ := Kd.R_slice hr; subst e3; clear hr hb HT))
    go_ret3
    exact ⟨rfl, HB3.out⟩
   | cons m l =>
    simp only [cameQ] at h
    obtain ⟨p, hp, h⟩ := Option.bind_eq_some_iff.mp h
    obtain ⟨p2, hp2, h⟩ := Option.bind_eq_some_iff.mp h
    have HF0 := fun W => prog_Fold.calls 20 maxTag m.f2 m.f2 p.1 p.2 W hp
    have HQ0 := Aside0.mk hp2
    have HRES := Aside0.mk h
    have HQL := Aside0.mk hql
    clear hp hp2 h hql
    obtain ⟨n0, e0⟩ := p
    have z0 : (((l.length : Int) + 1) == 0) = false := beq_eq_false_iff_ne.mpr (by omega)
    have z1 : decide ((l.length : Int) + 1 = 0) = false := decide_eq_false (by omega)
    go_enter Try.func29, Try.ntmps29
    go_wp2_with (first | (go_at_call 32; refine HK.mono ?_; rintro e w2 ⟨rfl, hb⟩; have HB2 := Aside0.mk hb; clear hb HK) | (go_at_call 39; refine (HT _ HB2.out).mono ?_; rintro e w3 ⟨v3, rfl, hr, hb⟩; have HB3 := Aside0.mk (HB2.out.trans (hb.mono HB2.out.size)); obtain ⟨g, c3, AD, e3, k3, hc3, hcuf, hcl⟩ := came_row hr; subst e3; have HCL := Aside0.mk hcl; have hbg := World.block_lt_of_cell? _ _ k3; clear hr hb HT hcl))
    go_region_held3 (fun w' => w'.cell? ⟨g, 2, none⟩ = some (.int .i64 m.f2)) (first | exact k4 | go_keep)
     (first | (go_at_call 40; refine (HF0 _).mono ?_; rintro e w4 ⟨rfl, hb⟩; have k4 := (hb.cell (p := ⟨g, 2, none⟩) hbg).trans k3; have HB4 := Aside0.mk (HB3.out.trans (((below_drew (Below.refl _ _)).trans hb).mono HB3.out.size)); have HC4 := Aside0.mk (Kd.C_below HCL.out ((below_drew (Below.refl _ _)).trans hb)); clear hb))
    go_wp2
    go_loopg [9, 10, 37] (l.length) (fun kq v9 v10 v37 w' => ∃ (i : Nat) (n e : Int), v37 = .int .i64 (i : Int) ∧ v9 = .int .i64 n ∧ v10 = .int .i64 e ∧ Aside0 (i + kq = l.length) ∧ Aside0 (cameL a0 (l.drop i) n e = some p2) ∧ Aside0 (Below w4.heap.size w4 w'))
    case atStart => exact ⟨0, n0, e0, rfl, rfl, rfl, ⟨by omega⟩, HQ0, ⟨Below.refl _ _⟩⟩
    case round =>
     obtain ⟨i, n, e, rfl, rfl, rfl, HI, HQ, HBW⟩ := hrel
     by_cases hlt : i < l.length
     ·have d1 : decide ((i : Int) < (l.length : Int)) = true := decide_eq_true (by omega)
      have d1n : decide (i < l.length) = true := decide_eq_true hlt
      have q0 : 0 ≤ (i : Int) := by omega
      have q1 : (i : Int) < (l.length : Int) := by omega
      obtain ⟨y, hy⟩ : ∃ y, l[i]? = some y := ⟨_, List.getElem?_eq_getElem hlt⟩
      obtain ⟨ay, ey, y0, y1, y2⟩ := came_at (Kd.C_below HC4.out HBW.out) hy
      subst ey
      have hq := HQ.out
      rw [List.drop_eq_getElem_cons hlt, (List.getElem?_eq_some_iff.1 hy).2, cameL] at hq
      have hw1 : wrap64 ((i : Int) + 1) = (i : Int) + 1 := by have h1 := HQL.out; simp only [List.length_cons] at h1; unfold wrap64; omega
      obtain ⟨gk1, rfl⟩ : ∃ m, gk = m + 1 := ⟨gk - 1, by have := HI.out; omega⟩
      clear HQ hlt hy
      by_cases hE : e = 0
      ·rw [if_pos hE] at hq
       subst hE
       obtain ⟨p, hp, hq⟩ := Option.bind_eq_some_iff.mp hq
       obtain ⟨n1, e1⟩ := p
       have HF := fun W => prog_Fold.calls 20 a0 n y.f2 n1 e1 W hp
       have HQ2 := Aside0.mk hq
       clear hp hq
       go_wp2_with (go_at_call 40; refine (HF _).mono ?_; rintro e w5 ⟨rfl, hb⟩; have HB5 := Aside0.mk (HBW.out.trans (((below_alloc (Below.refl wr.heap.size wr) (.cells #[.int .i64 y.f0, .int .i64 y.f1, .int .i64 y.f2] 48)).trans (hb.mono (by simp))).mono HBW.out.size)); clear hb HF)
       go_roundg gk1
       case measure => omega
       case rel => exact ⟨i + 1, n1, e1, by go_num, rfl, rfl, ⟨by have := HI.out; omega⟩, HQ2, HB5⟩
      ·rw [if_neg hE] at hq
       injection hq with hq
       subst hq
       have HR9 := HRES.out
       rw [if_neg hE] at HR9
       injection HR9 with h9
       injection h9 with e1 h9
       injection h9 with e2 e3
       subst e1 e2 e3
       have z3 : (e == 0) = false := beq_eq_false_iff_ne.mpr hE
       have z4 : (e != 0) = true := bne_iff_ne.mpr hE
       clear hE HRES
       go_wp2
       go_ret3
       exact ⟨rfl, HB4.out.trans ((HBW.out.trans (below_alloc (Below.refl _ _) _ |>.mono HBW.out.size)).mono HB4.out.size)⟩
     ·have d1 : decide ((i : Int) < (l.length : Int)) = false := decide_eq_false (by omega)
      have d1n : decide (i < l.length) = false := decide_eq_false hlt
      have hq := HQ.out
      rw [List.drop_of_length_le (by omega), cameL] at hq
      injection hq with hq
      subst hq
      by_cases hE : e = 0
      ·subst hE
       have HR9 := HRES.out
       rw [if_pos rfl] at HR9
       injection HR9 with h9
       injection h9 with e1 h9
       injection h9 with e2 e3
       subst e1 e2 e3
       clear HRES HQ hlt
       go_wp2
       go_ret3
       exact ⟨rfl, HB4.out.trans (HBW.out.mono HB4.out.size)⟩
      ·have HR9 := HRES.out
       rw [if_neg hE] at HR9
       injection HR9 with h9
       injection h9 with e1 h9
       injection h9 with e2 e3
       subst e1 e2 e3
       have z3 : (e == 0) = false := beq_eq_false_iff_ne.mpr hE
       have z4 : (e != 0) = true := bne_iff_ne.mpr hE
       clear hE HRES HQ hlt
       go_wp2
       go_ret3
       exact ⟨rfl, HB4.out.trans (HBW.out.mono HB4.out.size)⟩
  ·rw [if_neg hl] at h
   exact absurd h (by simp)
end

end Go.Proofs.Ytpndhkeoljoapaa.P
