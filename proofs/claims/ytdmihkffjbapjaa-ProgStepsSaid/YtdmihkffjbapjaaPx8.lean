/- What these Go functions compute, as Lean functions, and that they do. No condition. -/
import Derived.Test.YtdmihkffjbapjaaPx0
import Derived.Test.YtdmihkffjbapjaaPx3
import Derived.Test.YtdmihkffjbapjaaPx4
namespace Go.Proofs.Ytdmihkffjbapjaa.P
open Go.RowKit Go.Proofs.YtdmihkffjbapjaaW.PrintWords Go.Proofs.YtdmihkffjbapjaaW.PrintLast Go.Proofs.YtdmihkffjbapjaaW.PrintMore
attribute [local go_sem] max2_int min2_int max_two min_two max_three min_three max_four min_four   -- for this text's walks alone
set_option linter.unusedVariables false
set_option linter.unusedSimpArgs false
set_option linter.unnecessarySimpa false

/-! ### prog_Fold: function 21 -/
mutual
def prog_Fold.j0 : Nat → ByteArray → Int → Int → Bool → Option (Int × Int)
 | 0, _, _, _, _ => none
 | k + 1, x0, x1, x2, x17 => if x17 = true then (some (0, 71)) else (if x0.toList = ([109, 97, 120] : List UInt8) then ((prog_great.f (mx x1 x2)).bind fun t117 => (if t117 = true then (some (0, 71)) else (some (mx x1 x2, 0)))) else (if x0.toList = ([108, 97, 98, 101, 108] : List UInt8) then (prog_Fold.j1 k x1 x2 (wrap64 (x1 + x2)) (x0.toList == ([108, 97, 98, 101, 108] : List UInt8))) else (if x0.toList = ([115, 115, 115, 112] : List UInt8) then (prog_Fold.j1 k x1 x2 (wrap64 (x1 + x2)) (x0.toList == ([115, 115, 115, 112] : List UInt8))) else (prog_Fold.j1 k x1 x2 (wrap64 (x1 + x2)) (x0.toList == ([98, 102, 115] : List UInt8))))))
def prog_Fold.j1 : Nat → Int → Int → Int → Bool → Option (Int × Int)
 | 0, _, _, _, _ => none
 | k + 1, x1, x2, x8, x27 => if x27 = true then ((prog_great.f (mn x1 x2)).bind fun t118 => (if t118 = true then (some (0, 71)) else (some (mn x1 x2, 0)))) else ((prog_great.f x8).bind fun t119 => (if t119 = true then (some (0, 71)) else (some (x8, 0))))
end
def prog_Fold.f (k : Nat) (a0 : ByteArray) (a1 : Int) (a2 : Int) : Option (Int × Int) := (prog_Known.f k a0).bind fun t114 => (if t114 = true then ((prog_great.f a1).bind fun t115 => (if t115 = true then (prog_Fold.j0 k a0 a1 a2 true) else ((prog_great.f a2).bind fun t116 => (prog_Fold.j0 k a0 a1 a2 t116)))) else (some (0, 70)))
theorem prog_Fold.mono_l : ∀ k, (∀ y0 y1 y2 y3, LeO (prog_Fold.j0 k y0 y1 y2 y3) (prog_Fold.j0 (k + 1) y0 y1 y2 y3)) ∧ (∀ y0 y1 y2 y3, LeO (prog_Fold.j1 k y0 y1 y2 y3) (prog_Fold.j1 (k + 1) y0 y1 y2 y3))
 | 0 => ⟨fun _ _ _ _ r h => by simp [prog_Fold.j0] at h, fun _ _ _ _ r h => by simp [prog_Fold.j1] at h⟩
 | k + 1 => by
  obtain ⟨ih0, ih1⟩ := prog_Fold.mono_l k
  refine ⟨?_, ?_⟩
  ·intro y0 y1 y2 y3
   unfold prog_Fold.j0
   repeat' first
   | (with_reducible exact ih0 _ _ _ _)
   | (with_reducible exact ih1 _ _ _ _)
   | (with_reducible exact prog_Known.mono _ _)
   | (with_reducible exact LeO.refl _)
   | (with_reducible exact LeO.none _)
   | (with_reducible refine LeO.ite ?_ ?_)
   | (with_reducible refine LeO.bind ?_ (fun _ => ?_))
   | exact ih0 _ _ _ _
   | exact ih1 _ _ _ _
   | exact prog_Known.mono _ _
   | exact LeO.none _
   | refine LeO.ite ?_ ?_
   | refine LeO.bind ?_ (fun _ => ?_)
  ·intro y0 y1 y2 y3
   unfold prog_Fold.j1
   repeat' first
   | (with_reducible exact ih0 _ _ _ _)
   | (with_reducible exact ih1 _ _ _ _)
   | (with_reducible exact prog_Known.mono _ _)
   | (with_reducible exact LeO.refl _)
   | (with_reducible exact LeO.none _)
   | (with_reducible refine LeO.ite ?_ ?_)
   | (with_reducible refine LeO.bind ?_ (fun _ => ?_))
   | exact ih0 _ _ _ _
   | exact ih1 _ _ _ _
   | exact prog_Known.mono _ _
   | exact LeO.none _
   | refine LeO.ite ?_ ?_
   | refine LeO.bind ?_ (fun _ => ?_)
theorem prog_Fold.mono : ∀ a0 a1 a2 k, LeO (prog_Fold.f k a0 a1 a2) (prog_Fold.f (k + 1) a0 a1 a2) := by
 intro a0 a1 a2 k
 obtain ⟨ih0, ih1⟩ := prog_Fold.mono_l k
 unfold prog_Fold.f
 repeat' first
   | (with_reducible exact ih0 _ _ _ _)
   | (with_reducible exact ih1 _ _ _ _)
   | (with_reducible exact prog_Known.mono _ _)
   | (with_reducible exact LeO.refl _)
   | (with_reducible exact LeO.none _)
   | (with_reducible refine LeO.ite ?_ ?_)
   | (with_reducible refine LeO.bind ?_ (fun _ => ?_))
   | exact ih0 _ _ _ _
   | exact ih1 _ _ _ _
   | exact prog_Known.mono _ _
   | exact LeO.none _
   | refine LeO.ite ?_ ?_
   | refine LeO.bind ?_ (fun _ => ?_)
set_option maxHeartbeats 8000000 in
set_option maxRecDepth 100000 in
theorem prog_Fold.calls (k : Nat) (a0 : ByteArray) (a1 : Int) (a2 : Int) (r1 : Int) (r2 : Int) (w : World) (h : prog_Fold.f k a0 a1 a2 = some (r1, r2)) :
  Calls Try.prog 21 #[.string a0, .int .i64 a1, .int .i64 a2] w fun e w' => e = .returned (.tuple #[.int .i64 r1, .int .i64 r2]) ∧ Below w.heap.size w w' := by
 have HB := Aside0.mk (Below.refl w.heap.size w)
 have H : ((prog_Known.f k a0).bind fun t114 => (if t114 = true then ((prog_great.f a1).bind fun t115 => (if t115 = true then (prog_Fold.j0 k a0 a1 a2 true) else ((prog_great.f a2).bind fun t116 => (prog_Fold.j0 k a0 a1 a2 t116)))) else (some (0, 70)))) = some (r1, r2) := h
 clear h
 replace H := Option.bind_eq_some_iff.mp H
 obtain ⟨t114, A40, H⟩ := H
 replace H : (if t114 = true then ((prog_great.f a1).bind fun t115 => (if t115 = true then (prog_Fold.j0 k a0 a1 a2 true) else ((prog_great.f a2).bind fun t116 => (prog_Fold.j0 k a0 a1 a2 t116)))) else (some (0, 70))) = some (r1, r2) := H
 have A4 := Aside0.mk A40
 clear A40
 by_cases c5 : t114 = true
 ·subst c5
  have H1 : ((prog_great.f a1).bind fun t115 => (if t115 = true then (prog_Fold.j0 k a0 a1 a2 true) else ((prog_great.f a2).bind fun t116 => (prog_Fold.j0 k a0 a1 a2 t116)))) = some (r1, r2) := by rw [if_pos rfl] at H; exact H
  clear H
  have H := H1
  clear H1
  have HC6 := Aside0.mk H
  clear H
  go_enter Try.func21, Try.ntmps21
  go_upto_region 3 with (first | ((with_reducible refine gate_callee (f := 19) rfl ?_); refine goesL_ (some 10) rfl rfl Try.func19 (by kernel_rfl) rfl #[.string a0] rfl (by (try simp only [List.map_toArray, List.map_cons, List.map_nil]); first | done | rfl | (simp only [List.length_drop, List.length_take]; rfl)) ?_; (with_reducible refine (prog_Known.calls k a0 true _ A4.out).mono ?_); rintro e w7 ⟨rfl, hb⟩; refine ⟨_, rfl, ?_⟩; have n0_ := Aside0.mk (below_step (kB HB.out) hb); clear HB; have HB := n0_; clear n0_; (try clear hb); (try clear hb2); (try clear hk); (try clear hi)))
  (try simp only [Act.put, List.setIfInBounds_toArray, List.set_cons_zero, List.set_cons_succ])
  go_cut [17] (fun v17 wc => ∃ (kq : Nat) (x17_5 : Bool), v17 = .bool x17_5 ∧ Aside0 (prog_Fold.j0 kq a0 a1 a2 x17_5 = some (r1, r2)) ∧ Aside0 (kq ≤ k) ∧ Aside0 (Below w.heap.size w wc))
  case first =>
   have H := HC6.out
   clear HC6
   replace H := Option.bind_eq_some_iff.mp H
   obtain ⟨t115, A80, H⟩ := H
   replace H : (if t115 = true then (prog_Fold.j0 k a0 a1 a2 true) else ((prog_great.f a2).bind fun t116 => (prog_Fold.j0 k a0 a1 a2 t116))) = some (r1, r2) := H
   have A8 := Aside0.mk A80
   clear A80
   by_cases c9 : t115 = true
   ·subst c9
    have H1 : (prog_Fold.j0 k a0 a1 a2 true) = some (r1, r2) := by rw [if_pos rfl] at H; exact H
    clear H
    have H := H1
    clear H1
    have H' := Aside0.mk H
    clear H
    go_wp2_with (first | ((with_reducible refine gate_callee (f := 24) rfl ?_); refine goesL_ (some 13) rfl rfl Try.func24 (by kernel_rfl) rfl #[.int .i64 a1] rfl (by (try simp only [List.map_toArray, List.map_cons, List.map_nil]); first | done | rfl | (simp only [List.length_drop, List.length_take]; rfl)) ?_; (with_reducible refine (prog_great.calls a1 true _ A8.out).mono ?_); rintro e w' ⟨rfl, ⟨nd, rfl⟩⟩; refine ⟨_, rfl, ?_⟩))
    go_meet
    case rel => exact ⟨_, (true), (by first | rfl | (simp; done) | (simp [*]; done)), H', ⟨by first | omega | exact Nat.le_refl _⟩, ⟨kB HB.out⟩⟩
   ·replace c9 := Bool.eq_false_iff.mpr c9
    subst c9
    have H1 : ((prog_great.f a2).bind fun t116 => (prog_Fold.j0 k a0 a1 a2 t116)) = some (r1, r2) := by rw [if_neg (show ¬ (false = true) by decide)] at H; exact H
    clear H
    have H := H1
    clear H1
    replace H := Option.bind_eq_some_iff.mp H
    obtain ⟨t116, A100, H⟩ := H
    replace H : (prog_Fold.j0 k a0 a1 a2 t116) = some (r1, r2) := H
    have A10 := Aside0.mk A100
    clear A100
    have H' := Aside0.mk H
    clear H
    go_wp2_with (first | ((with_reducible refine gate_callee (f := 24) rfl ?_); refine goesL_ (some 13) rfl rfl Try.func24 (by kernel_rfl) rfl #[.int .i64 a1] rfl (by (try simp only [List.map_toArray, List.map_cons, List.map_nil]); first | done | rfl | (simp only [List.length_drop, List.length_take]; rfl)) ?_; (with_reducible refine (prog_great.calls a1 false _ A8.out).mono ?_); rintro e w' ⟨rfl, ⟨nd, rfl⟩⟩; refine ⟨_, rfl, ?_⟩; (try clear A8)) | (go_at_call 24; (with_reducible refine (prog_great.calls a2 t116 _ A10.out).mono ?_); rintro e w' ⟨rfl, ⟨nd, rfl⟩⟩; (try clear A10)))
    go_meet
    case rel => exact ⟨_, (t116), (by first | rfl | (simp; done) | (simp [*]; done)), H', ⟨by first | omega | exact Nat.le_refl _⟩, ⟨kB HB.out⟩⟩
  case rest =>
   clear HC6
   try clear c1
   try clear c2
   try clear p2
   try clear c5
   try clear c9
   obtain ⟨kq, x17_5, rfl, HA, HJ5, HB⟩ := hcut
   cases kq with
   | zero => exact absurd HA.out (by simp [prog_Fold.j0])
   | succ kj5 =>
    have H := HA.out
    clear HA
    simp only [prog_Fold.j0] at H
    by_cases c11 : x17_5 = true
    ·subst c11
     have H1 : (some (0, 71)) = some (r1, r2) := by rw [if_pos rfl] at H; exact H
     clear H
     have H := H1
     clear H1
     simp only [Option.some.injEq, Prod.mk.injEq] at H
     obtain ⟨rfl, rfl⟩ := H
     go_wp2
     go_ret2
     exact ⟨by first | rfl | (simp [errW_none, errW_some] <;> rfl) | (simp [*, errW_none, errW_some] <;> rfl), by exact kB HB.out⟩
    ·replace c11 := Bool.eq_false_iff.mpr c11
     subst c11
     have H1 : (if a0.toList = ([109, 97, 120] : List UInt8) then ((prog_great.f (mx a1 a2)).bind fun t117 => (if t117 = true then (some (0, 71)) else (some (mx a1 a2, 0)))) else (if a0.toList = ([108, 97, 98, 101, 108] : List UInt8) then (prog_Fold.j1 kj5 a1 a2 (wrap64 (a1 + a2)) (a0.toList == ([108, 97, 98, 101, 108] : List UInt8))) else (if a0.toList = ([115, 115, 115, 112] : List UInt8) then (prog_Fold.j1 kj5 a1 a2 (wrap64 (a1 + a2)) (a0.toList == ([115, 115, 115, 112] : List UInt8))) else (prog_Fold.j1 kj5 a1 a2 (wrap64 (a1 + a2)) (a0.toList == ([98, 102, 115] : List UInt8)))))) = some (r1, r2) := by rw [if_neg (show ¬ (false = true) by decide)] at H; exact H
     clear H
     have H := H1
     clear H1
     by_cases c12 : a0.toList = ([109, 97, 120] : List UInt8)
     ·rw [if_pos c12] at H
      have c12b0 : (a0.toList == ([109, 97, 120] : List UInt8)) = true := beq_iff_eq.mpr c12
      have c12b1 : (a0.toList != ([109, 97, 120] : List UInt8)) = false := bne_eq_false_iff_eq.mpr c12
      clear c12
      obtain ⟨ji13, hji13⟩ : ∃ j_ : Int, (mx a1 a2) = j_ := ⟨_, rfl⟩
      replace H : ((prog_great.f (ji13)).bind fun t117 => (if t117 = true then (some (0, 71)) else (some (ji13, 0)))) = some (r1, r2) := by first | (rw [hji13] at H; exact H) | (simp only [hji13] at H ⊢; exact H)
      have hji13_ : (if a1 < a2 then a2 else a1) = ji13 := hji13
      replace H := Option.bind_eq_some_iff.mp H
      obtain ⟨t117, A140, H⟩ := H
      replace H : (if t117 = true then (some (0, 71)) else (some (ji13, 0))) = some (r1, r2) := H
      have A14 := Aside0.mk A140
      clear A140
      by_cases c15 : t117 = true
      ·subst c15
       have H1 : (some (0, 71)) = some (r1, r2) := by rw [if_pos rfl] at H; exact H
       clear H
       have H := H1
       clear H1
       simp only [Option.some.injEq, Prod.mk.injEq] at H
       obtain ⟨rfl, rfl⟩ := H
       go_wp2_with (first | ((with_reducible refine gate_callee (f := 24) rfl ?_); refine goesL_ (some 35) rfl rfl Try.func24 (by kernel_rfl) rfl #[.int .i64 ji13] rfl (by (try simp only [List.map_toArray, List.map_cons, List.map_nil]); first | done | (simp only [hji13]; rfl) | rfl | (simp only [List.length_drop, List.length_take]; rfl)) ?_; (with_reducible refine (prog_great.calls ji13 true _ A14.out).mono ?_); rintro e w' ⟨rfl, ⟨nd, rfl⟩⟩; refine ⟨_, rfl, ?_⟩))
       go_ret2
       exact ⟨by first | rfl | (simp [errW_none, errW_some] <;> rfl) | (simp only [← hji13]; first | rfl | (simp [errW_none, errW_some] <;> rfl)) | (simp [*, errW_none, errW_some] <;> rfl), by exact kB HB.out⟩
      ·replace c15 := Bool.eq_false_iff.mpr c15
       subst c15
       have H1 : (some (ji13, 0)) = some (r1, r2) := by rw [if_neg (show ¬ (false = true) by decide)] at H; exact H
       clear H
       have H := H1
       clear H1
       simp only [Option.some.injEq, Prod.mk.injEq] at H
       obtain ⟨rfl, rfl⟩ := H
       go_wp2_with (first | ((with_reducible refine gate_callee (f := 24) rfl ?_); refine goesL_ (some 35) rfl rfl Try.func24 (by kernel_rfl) rfl #[.int .i64 ji13] rfl (by (try simp only [List.map_toArray, List.map_cons, List.map_nil]); first | done | (simp only [hji13]; rfl) | rfl | (simp only [List.length_drop, List.length_take]; rfl)) ?_; (with_reducible refine (prog_great.calls ji13 false _ A14.out).mono ?_); rintro e w' ⟨rfl, ⟨nd, rfl⟩⟩; refine ⟨_, rfl, ?_⟩))
       go_ret2
       exact ⟨by first | rfl | (simp [errW_none, errW_some] <;> rfl) | (simp only [← hji13]; first | rfl | (simp [errW_none, errW_some] <;> rfl)) | (simp [*, errW_none, errW_some] <;> rfl), by exact kB HB.out⟩
     ·rw [if_neg c12] at H
      have c12b0 : (a0.toList == ([109, 97, 120] : List UInt8)) = false := beq_eq_false_iff_ne.mpr c12
      have c12b1 : (a0.toList != ([109, 97, 120] : List UInt8)) = true := bne_iff_ne.mpr c12
      have HC16 := Aside0.mk H
      clear H
      go_upto_if 27 with (fail)
      go_cut [27] (fun v27 wc => ∃ (kq : Nat) (x27_15 : Bool), v27 = .bool x27_15 ∧ Aside0 (prog_Fold.j1 kq a1 a2 (wrap64 (a1 + a2)) x27_15 = some (r1, r2)) ∧ Aside0 (kq ≤ kj5) ∧ Aside0 (Below w.heap.size w wc))
      case first =>
       have H := HC16.out
       clear HC16
       by_cases c17 : a0.toList = ([108, 97, 98, 101, 108] : List UInt8)
       ·rw [if_pos c17] at H
        have c17b0 : (a0.toList == ([108, 97, 98, 101, 108] : List UInt8)) = true := beq_iff_eq.mpr c17
        have c17b1 : (a0.toList != ([108, 97, 98, 101, 108] : List UInt8)) = false := bne_eq_false_iff_eq.mpr c17
        clear c17
        (first | rw [c17b0] | (simp only [i64_w, i32_w]; rw [c17b0]) | skip)
        have H' := Aside0.mk H
        clear H
        go_wp2
        go_meet
        case rel => exact ⟨_, ((a0.toList == ([108, 97, 98, 101, 108] : List UInt8))), (by first | rfl | (simp; done) | (simp [*]; done)), H', ⟨by have := HJ5.out; first | omega | exact Nat.le_refl _⟩, ⟨kB HB.out⟩⟩
       ·rw [if_neg c17] at H
        have c17b0 : (a0.toList == ([108, 97, 98, 101, 108] : List UInt8)) = false := beq_eq_false_iff_ne.mpr c17
        have c17b1 : (a0.toList != ([108, 97, 98, 101, 108] : List UInt8)) = true := bne_iff_ne.mpr c17
        (first | rw [c17b0] | (simp only [i64_w, i32_w]; rw [c17b0]) | skip)
        by_cases c18 : a0.toList = ([115, 115, 115, 112] : List UInt8)
        ·rw [if_pos c18] at H
         have c18b0 : (a0.toList == ([115, 115, 115, 112] : List UInt8)) = true := beq_iff_eq.mpr c18
         have c18b1 : (a0.toList != ([115, 115, 115, 112] : List UInt8)) = false := bne_eq_false_iff_eq.mpr c18
         clear c18
         have H' := Aside0.mk H
         clear H
         go_wp2
         go_meet
         case rel => exact ⟨_, ((a0.toList == ([115, 115, 115, 112] : List UInt8))), (by first | rfl | (simp; done) | (simp [*]; done)), H', ⟨by have := HJ5.out; first | omega | exact Nat.le_refl _⟩, ⟨kB HB.out⟩⟩
        ·rw [if_neg c18] at H
         have c18b0 : (a0.toList == ([115, 115, 115, 112] : List UInt8)) = false := beq_eq_false_iff_ne.mpr c18
         have c18b1 : (a0.toList != ([115, 115, 115, 112] : List UInt8)) = true := bne_iff_ne.mpr c18
         have H' := Aside0.mk H
         clear H
         go_wp2
         go_meet
         case rel => exact ⟨_, ((a0.toList == ([98, 102, 115] : List UInt8))), (by first | rfl | (simp; done) | (simp [*]; done)), H', ⟨by have := HJ5.out; first | omega | exact Nat.le_refl _⟩, ⟨kB HB.out⟩⟩
      case rest =>
       clear HC16
       try clear c1
       try clear c2
       try clear p2
       try clear c5
       try clear p6
       try clear c9
       try clear c11
       try clear c12
       try clear c12b0
       try clear c12b1
       try clear c15
       try clear c17
       try clear c17b0
       try clear c17b1
       try clear c18
       try clear c18b0
       try clear c18b1
       try clear p2
       obtain ⟨kq, x27_15, rfl, HA, HJ15, HB⟩ := hcut
       cases kq with
       | zero => exact absurd HA.out (by simp [prog_Fold.j1])
       | succ kj15 =>
        have H := HA.out
        clear HA
        simp only [prog_Fold.j1] at H
        by_cases c19 : x27_15 = true
        ·subst c19
         have H1 : ((prog_great.f (mn a1 a2)).bind fun t118 => (if t118 = true then (some (0, 71)) else (some (mn a1 a2, 0)))) = some (r1, r2) := by rw [if_pos rfl] at H; exact H
         clear H
         have H := H1
         clear H1
         obtain ⟨ji20, hji20⟩ : ∃ j_ : Int, (mn a1 a2) = j_ := ⟨_, rfl⟩
         replace H : ((prog_great.f (ji20)).bind fun t118 => (if t118 = true then (some (0, 71)) else (some (ji20, 0)))) = some (r1, r2) := by first | (rw [hji20] at H; exact H) | (simp only [hji20] at H ⊢; exact H)
         have hji20_ : (if a2 < a1 then a2 else a1) = ji20 := hji20
         replace H := Option.bind_eq_some_iff.mp H
         obtain ⟨t118, A210, H⟩ := H
         replace H : (if t118 = true then (some (0, 71)) else (some (ji20, 0))) = some (r1, r2) := H
         have A21 := Aside0.mk A210
         clear A210
         by_cases c22 : t118 = true
         ·subst c22
          have H1 : (some (0, 71)) = some (r1, r2) := by rw [if_pos rfl] at H; exact H
          clear H
          have H := H1
          clear H1
          simp only [Option.some.injEq, Prod.mk.injEq] at H
          obtain ⟨rfl, rfl⟩ := H
          go_wp2_with (first | ((with_reducible refine gate_callee (f := 24) rfl ?_); refine goesL_ (some 35) rfl rfl Try.func24 (by kernel_rfl) rfl #[.int .i64 ji20] rfl (by (try simp only [List.map_toArray, List.map_cons, List.map_nil]); first | done | (simp only [hji20]; rfl) | rfl | (simp only [List.length_drop, List.length_take]; rfl)) ?_; (with_reducible refine (prog_great.calls ji20 true _ A21.out).mono ?_); rintro e w' ⟨rfl, ⟨nd, rfl⟩⟩; refine ⟨_, rfl, ?_⟩))
          go_ret2
          exact ⟨by first | rfl | (simp [errW_none, errW_some] <;> rfl) | (simp only [← hji20]; first | rfl | (simp [errW_none, errW_some] <;> rfl)) | (simp [*, errW_none, errW_some] <;> rfl), by exact kB HB.out⟩
         ·replace c22 := Bool.eq_false_iff.mpr c22
          subst c22
          have H1 : (some (ji20, 0)) = some (r1, r2) := by rw [if_neg (show ¬ (false = true) by decide)] at H; exact H
          clear H
          have H := H1
          clear H1
          simp only [Option.some.injEq, Prod.mk.injEq] at H
          obtain ⟨rfl, rfl⟩ := H
          go_wp2_with (first | ((with_reducible refine gate_callee (f := 24) rfl ?_); refine goesL_ (some 35) rfl rfl Try.func24 (by kernel_rfl) rfl #[.int .i64 ji20] rfl (by (try simp only [List.map_toArray, List.map_cons, List.map_nil]); first | done | (simp only [hji20]; rfl) | rfl | (simp only [List.length_drop, List.length_take]; rfl)) ?_; (with_reducible refine (prog_great.calls ji20 false _ A21.out).mono ?_); rintro e w' ⟨rfl, ⟨nd, rfl⟩⟩; refine ⟨_, rfl, ?_⟩))
          go_ret2
          exact ⟨by first | rfl | (simp [errW_none, errW_some] <;> rfl) | (simp only [← hji20]; first | rfl | (simp [errW_none, errW_some] <;> rfl)) | (simp [*, errW_none, errW_some] <;> rfl), by exact kB HB.out⟩
        ·replace c19 := Bool.eq_false_iff.mpr c19
         subst c19
         have H1 : ((prog_great.f (wrap64 (a1 + a2))).bind fun t119 => (if t119 = true then (some (0, 71)) else (some ((wrap64 (a1 + a2)), 0)))) = some (r1, r2) := by rw [if_neg (show ¬ (false = true) by decide)] at H; exact H
         clear H
         have H := H1
         clear H1
         replace H := Option.bind_eq_some_iff.mp H
         obtain ⟨t119, A230, H⟩ := H
         replace H : (if t119 = true then (some (0, 71)) else (some ((wrap64 (a1 + a2)), 0))) = some (r1, r2) := H
         have A23 := Aside0.mk A230
         clear A230
         by_cases c24 : t119 = true
         ·subst c24
          have H1 : (some (0, 71)) = some (r1, r2) := by rw [if_pos rfl] at H; exact H
          clear H
          have H := H1
          clear H1
          simp only [Option.some.injEq, Prod.mk.injEq] at H
          obtain ⟨rfl, rfl⟩ := H
          go_wp2_with (first | ((with_reducible refine gate_callee (f := 24) rfl ?_); refine goesL_ (some 35) rfl rfl Try.func24 (by kernel_rfl) rfl #[.int .i64 (wrap64 (a1 + a2))] rfl (by (try simp only [List.map_toArray, List.map_cons, List.map_nil]); first | done | rfl | (simp only [List.length_drop, List.length_take]; rfl)) ?_; (with_reducible refine (prog_great.calls (wrap64 (a1 + a2)) true _ A23.out).mono ?_); rintro e w' ⟨rfl, ⟨nd, rfl⟩⟩; refine ⟨_, rfl, ?_⟩))
          go_ret2
          exact ⟨by first | rfl | (simp [errW_none, errW_some] <;> rfl) | (simp [*, errW_none, errW_some] <;> rfl), by exact kB HB.out⟩
         ·replace c24 := Bool.eq_false_iff.mpr c24
          subst c24
          have H1 : (some ((wrap64 (a1 + a2)), 0)) = some (r1, r2) := by rw [if_neg (show ¬ (false = true) by decide)] at H; exact H
          clear H
          have H := H1
          clear H1
          simp only [Option.some.injEq, Prod.mk.injEq] at H
          obtain ⟨rfl, rfl⟩ := H
          go_wp2_with (first | ((with_reducible refine gate_callee (f := 24) rfl ?_); refine goesL_ (some 35) rfl rfl Try.func24 (by kernel_rfl) rfl #[.int .i64 (wrap64 (a1 + a2))] rfl (by (try simp only [List.map_toArray, List.map_cons, List.map_nil]); first | done | rfl | (simp only [List.length_drop, List.length_take]; rfl)) ?_; (with_reducible refine (prog_great.calls (wrap64 (a1 + a2)) false _ A23.out).mono ?_); rintro e w' ⟨rfl, ⟨nd, rfl⟩⟩; refine ⟨_, rfl, ?_⟩))
          go_ret2
          exact ⟨by first | rfl | (simp [errW_none, errW_some] <;> rfl) | (simp [*, errW_none, errW_some] <;> rfl), by exact kB HB.out⟩
 ·replace c5 := Bool.eq_false_iff.mpr c5
  subst c5
  have H1 : (some (0, 70)) = some (r1, r2) := by rw [if_neg (show ¬ (false = true) by decide)] at H; exact H
  clear H
  have H := H1
  clear H1
  simp only [Option.some.injEq, Prod.mk.injEq] at H
  obtain ⟨rfl, rfl⟩ := H
  go_enter Try.func21, Try.ntmps21
  go_wp2_with (first | ((with_reducible refine gate_callee (f := 19) rfl ?_); refine goesL_ (some 10) rfl rfl Try.func19 (by kernel_rfl) rfl #[.string a0] rfl (by (try simp only [List.map_toArray, List.map_cons, List.map_nil]); first | done | rfl | (simp only [List.length_drop, List.length_take]; rfl)) ?_; (with_reducible refine (prog_Known.calls k a0 false _ A4.out).mono ?_); rintro e w25 ⟨rfl, hb⟩; refine ⟨_, rfl, ?_⟩; have n0_ := Aside0.mk (below_step (kB HB.out) hb); clear HB; have HB := n0_; clear n0_; (try clear hb); (try clear hb2); (try clear hk); (try clear hi)))
  go_ret2
  exact ⟨by first | rfl | (simp [errW_none, errW_some] <;> rfl) | (simp [*, errW_none, errW_some] <;> rfl), by exact kB HB.out⟩

end Go.Proofs.Ytdmihkffjbapjaa.P
