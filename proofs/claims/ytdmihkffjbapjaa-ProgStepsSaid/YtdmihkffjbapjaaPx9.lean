/- What these Go functions compute, as Lean functions, and that they do. No condition. -/
import Derived.Test.YtdmihkffjbapjaaPx0
import Derived.Test.YtdmihkffjbapjaaPx3
import Derived.Test.YtdmihkffjbapjaaPx4
import Derived.Test.YtdmihkffjbapjaaPx6
import Derived.Test.YtdmihkffjbapjaaPx7
import Derived.Test.YtdmihkffjbapjaaPx8
namespace Go.Proofs.Ytdmihkffjbapjaa.P
open Go.RowKit Go.Proofs.YtdmihkffjbapjaaW.PrintWords Go.Proofs.YtdmihkffjbapjaaW.PrintLast Go.Proofs.YtdmihkffjbapjaaW.PrintMore
open Bool renaming true → Y, false → Z
open List renaming setIfInBounds_toArray → q1_, set_cons_zero → q2_, set_cons_succ → q3_
attribute [local go_sem] max2_int min2_int max_two min_two max_three min_three max_four min_four   -- for this text's walks alone
set_option linter.unusedVariables false
set_option linter.unusedSimpArgs false
set_option linter.unnecessarySimpa false

/-! ### modillionlaw07_awake: function 10 (given) -/
section
theorem eqAw28 (d : Nat) (w : World) (x0 y0 : Int) (x1 y1 : Int) (x2 y2 : Bool) (x3 y3 : Bool) (x4 y4 : Int) :
  (Op.equalIn (d + 2) 28 (.agg #[.int .i64 x0, .int .i64 x1, .bool x2, .bool x3, .int .i64 x4]) (.agg #[.int .i64 y0, .int .i64 y1, .bool y2, .bool y3, .int .i64 y4])).run Try.prog w = .ok (x0 == y0 && (x1 == y1 && (x2 == y2 && (x3 == y3 && (x4 == y4))))) w := by
 refine eqA_of Try.underlying28 (by kernel_rfl) ?_
 refine eqf_cons (by rfl) (by go_simp; rfl) (by go_simp; rfl) (by go_simp) ?_
 refine eqf_cons (by rfl) (by go_simp; rfl) (by go_simp; rfl) (by go_simp) ?_
 refine eqf_cons (by rfl) (by go_simp; rfl) (by go_simp; rfl) (by go_simp) ?_
 refine eqf_cons (by rfl) (by go_simp; rfl) (by go_simp; rfl) (by go_simp) ?_
 exact eqf_last (by rfl) (by go_simp; rfl) (by go_simp; rfl) (by go_simp)
attribute [local go_sem high] eqAw28
def modillionlaw07_awake.f (k : Nat)  : Option (Bool) := (some (([(⟨0, 1, 5⟩ : S46)] : List (S46)) : List (S46))).bind fun y120 => ((prog_First.f (⟨#[115, 115, 115, 112]⟩ : ByteArray) 0 3 0).bind fun bt125 => ((prog_Step.f 2 y120 (⟨#[115, 115, 115, 112]⟩ : ByteArray) 0 3 0 bt125.1 bt125.2.1 bt125.2.2.1 bt125.2.2.2.1 bt125.2.2.2.2).bind fun bt130 => ((prog_Step.f 2 y120 (⟨#[115, 115, 115, 112]⟩ : ByteArray) 0 3 1 1 (-1) false true 5).bind fun bt140 => ((prog_Fold.f k (⟨#[109, 97, 120]⟩ : ByteArray) 3 4).bind fun bt150 => ((prog_Check.f k 2 y120 (⟨#[115, 115, 115, 112]⟩ : ByteArray) 0 3).bind fun t152 => (if t152 = 0 then (if bt130.2.2.2.2.2.2 = 0 then ((modillionref07_Same.f k bt130.2.2.2.2.2.1 (([(⟨0, 1, 5⟩ : S48)] : List (S48)))).bind fun t156 => (if t156 = true then (if bt140.2.2.2.2.2.2 = 0 then (if (bt140.1 == 1 && (bt140.2.1 == 5 && (!bt140.2.2.1 && (!bt140.2.2.2.1 && (bt140.2.2.2.2.1 == 0))))) = true then (if bt150.1 = 4 then (if bt150.2 = 0 then ((prog_Known.f k (⟨#[114, 97, 110, 107]⟩ : ByteArray)).bind fun t157 => (if t157 = true then ((prog_Known.f k (⟨#[120]⟩ : ByteArray)).bind fun t158 => (some (!t158))) else (none))) else (none)) else (none)) else (none)) else (none)) else (none))) else (none)) else (none)))))))
theorem modillionlaw07_awake.mono : ∀ k, LeO (modillionlaw07_awake.f k ) (modillionlaw07_awake.f (k + 1) ) := by
 intro  k
 unfold modillionlaw07_awake.f
 repeat' first
   | (with_reducible exact modillionref07_Same.mono _ _ _)
   | (with_reducible exact prog_Check.mono _ _ _ _ _ _)
   | (with_reducible exact prog_Fold.mono _ _ _ _)
   | (with_reducible exact prog_Known.mono _ _)
   | (with_reducible exact LeO.refl _)
   | (with_reducible exact LeO.none _)
   | (with_reducible refine LeO.ite ?_ ?_)
   | (with_reducible refine LeO.bind ?_ (fun _ => ?_))
   | exact modillionref07_Same.mono _ _ _
   | exact prog_Check.mono _ _ _ _ _ _
   | exact prog_Fold.mono _ _ _ _
   | exact prog_Known.mono _ _
   | exact LeO.none _
   | refine LeO.ite ?_ ?_
   | refine LeO.bind ?_ (fun _ => ?_)
def modillionlaw07_awake.T3 : Bool × List (List Nat × List Nat) := (true, [([], []), ([], []), ([], []), ([2], [2]), ([0, 1, 3, 3], [0, 1, 3]), ([4], [4]), ([5], [5]), ([5], [5]), ([5], [5]), ([], []), ([9, 6, 4, 0, 1, 2, 3, 4, 5, 6, 9], [6, 9]), ([7, 10, 0, 1, 2, 3, 4, 5, 6, 7, 9, 10], [7]), ([8, 11, 0, 1, 2, 3, 4, 5, 6, 7, 8, 9, 10, 11], [8])])
def modillionlaw07_awake.B3 : List Nat := [0, 0, 0, 4, 15, 31, 63, 63, 63, 0, 639, 1791, 4095]
theorem modillionlaw07_awake.tab3 : rtab .any (opsOf Try.f10 3) = modillionlaw07_awake.T3 := by kernel_rfl
theorem modillionlaw07_awake.bits3 : waitsOk modillionlaw07_awake.T3.2 modillionlaw07_awake.B3 = true := by kernel_rfl
set_option maxHeartbeats 8000000 in
set_option maxRecDepth 100000 in
theorem modillionlaw07_awake.calls (k : Nat)  (r : Bool) (w : World) (h : modillionlaw07_awake.f k  = some r) :
  Calls Try.prog 10 #[] w fun e w' => e = .returned (.bool r) ∧ Below w.heap.size w w' := by
 have hu46 := Try.underlying46
 have hu24 := Try.underlying24
 have hu26 := Try.underlying26
 have hu28 := Try.underlying28
 have hu48 := Try.underlying48
 have HB := Aside0.mk (Below.refl w.heap.size w)
 have H : ((some (([(⟨0, 1, 5⟩ : S46)] : List (S46)) : List (S46))).bind fun y120 => ((prog_First.f (⟨#[115, 115, 115, 112]⟩ : ByteArray) 0 3 0).bind fun bt125 => ((prog_Step.f 2 y120 (⟨#[115, 115, 115, 112]⟩ : ByteArray) 0 3 0 bt125.1 bt125.2.1 bt125.2.2.1 bt125.2.2.2.1 bt125.2.2.2.2).bind fun bt130 => ((prog_Step.f 2 y120 (⟨#[115, 115, 115, 112]⟩ : ByteArray) 0 3 1 1 (-1) false true 5).bind fun bt140 => ((prog_Fold.f k (⟨#[109, 97, 120]⟩ : ByteArray) 3 4).bind fun bt150 => ((prog_Check.f k 2 y120 (⟨#[115, 115, 115, 112]⟩ : ByteArray) 0 3).bind fun t152 => (if t152 = 0 then (if bt130.2.2.2.2.2.2 = 0 then ((modillionref07_Same.f k bt130.2.2.2.2.2.1 (([(⟨0, 1, 5⟩ : S48)] : List (S48)))).bind fun t156 => (if t156 = true then (if bt140.2.2.2.2.2.2 = 0 then (if (bt140.1 == 1 && (bt140.2.1 == 5 && (!bt140.2.2.1 && (!bt140.2.2.2.1 && (bt140.2.2.2.2.1 == 0))))) = true then (if bt150.1 = 4 then (if bt150.2 = 0 then ((prog_Known.f k (⟨#[114, 97, 110, 107]⟩ : ByteArray)).bind fun t157 => (if t157 = true then ((prog_Known.f k (⟨#[120]⟩ : ByteArray)).bind fun t158 => (some (!t158))) else (none))) else (none)) else (none)) else (none)) else (none)) else (none))) else (none)) else (none)))))))) = some r := h
 clear h
 obtain ⟨y120, hy120⟩ : ∃ y_ : List (S46), y_ = (([(⟨0, 1, 5⟩ : S46)] : List (S46))) := ⟨_, rfl⟩
 replace H : ((prog_First.f (⟨#[115, 115, 115, 112]⟩ : ByteArray) 0 3 0).bind fun bt125 => ((prog_Step.f 2 y120 (⟨#[115, 115, 115, 112]⟩ : ByteArray) 0 3 0 bt125.1 bt125.2.1 bt125.2.2.1 bt125.2.2.2.1 bt125.2.2.2.2).bind fun bt130 => ((prog_Step.f 2 y120 (⟨#[115, 115, 115, 112]⟩ : ByteArray) 0 3 1 1 (-1) false true 5).bind fun bt140 => ((prog_Fold.f k (⟨#[109, 97, 120]⟩ : ByteArray) 3 4).bind fun bt150 => ((prog_Check.f k 2 y120 (⟨#[115, 115, 115, 112]⟩ : ByteArray) 0 3).bind fun t152 => (if t152 = 0 then (if bt130.2.2.2.2.2.2 = 0 then ((modillionref07_Same.f k bt130.2.2.2.2.2.1 (([(⟨0, 1, 5⟩ : S48)] : List (S48)))).bind fun t156 => (if t156 = true then (if bt140.2.2.2.2.2.2 = 0 then (if (bt140.1 == 1 && (bt140.2.1 == 5 && (!bt140.2.2.1 && (!bt140.2.2.2.1 && (bt140.2.2.2.2.1 == 0))))) = true then (if bt150.1 = 4 then (if bt150.2 = 0 then ((prog_Known.f k (⟨#[114, 97, 110, 107]⟩ : ByteArray)).bind fun t157 => (if t157 = true then ((prog_Known.f k (⟨#[120]⟩ : ByteArray)).bind fun t158 => (some (!t158))) else (none))) else (none)) else (none)) else (none)) else (none)) else (none))) else (none)) else (none))))))) = some r := by first | (rw [hy120]; with_reducible exact H) | (have H2_ := (Option.bind_some _ _).symm.trans H; rw [hy120]; with_reducible exact H2_) | (have H2_ := (Option.bind_some _ _).symm.trans H; with_reducible exact H2_) | with_reducible exact H | (rw [hy120]; exact H) | exact H
 have Ny120 := Aside0.mk hy120
 clear hy120
 replace H := Option.bind_eq_some_iff.mp H
 obtain ⟨⟨t125, t126, t127, t128, t129⟩, A10, H⟩ := H
 replace H : ((prog_Step.f 2 y120 (⟨#[115, 115, 115, 112]⟩ : ByteArray) 0 3 0 t125 t126 t127 t128 t129).bind fun bt130 => ((prog_Step.f 2 y120 (⟨#[115, 115, 115, 112]⟩ : ByteArray) 0 3 1 1 (-1) false true 5).bind fun bt140 => ((prog_Fold.f k (⟨#[109, 97, 120]⟩ : ByteArray) 3 4).bind fun bt150 => ((prog_Check.f k 2 y120 (⟨#[115, 115, 115, 112]⟩ : ByteArray) 0 3).bind fun t152 => (if t152 = 0 then (if bt130.2.2.2.2.2.2 = 0 then ((modillionref07_Same.f k bt130.2.2.2.2.2.1 (([(⟨0, 1, 5⟩ : S48)] : List (S48)))).bind fun t156 => (if t156 = true then (if bt140.2.2.2.2.2.2 = 0 then (if (bt140.1 == 1 && (bt140.2.1 == 5 && (!bt140.2.2.1 && (!bt140.2.2.2.1 && (bt140.2.2.2.2.1 == 0))))) = true then (if bt150.1 = 4 then (if bt150.2 = 0 then ((prog_Known.f k (⟨#[114, 97, 110, 107]⟩ : ByteArray)).bind fun t157 => (if t157 = true then ((prog_Known.f k (⟨#[120]⟩ : ByteArray)).bind fun t158 => (some (!t158))) else (none))) else (none)) else (none)) else (none)) else (none)) else (none))) else (none)) else (none)))))) = some r := H
 have A1 := Aside0.mk A10
 clear A10
 replace H := Option.bind_eq_some_iff.mp H
 obtain ⟨⟨t130, t131, t132, t133, t134, t135, t138⟩, A20, H⟩ := H
 replace H : ((prog_Step.f 2 y120 (⟨#[115, 115, 115, 112]⟩ : ByteArray) 0 3 1 1 (-1) false true 5).bind fun bt140 => ((prog_Fold.f k (⟨#[109, 97, 120]⟩ : ByteArray) 3 4).bind fun bt150 => ((prog_Check.f k 2 y120 (⟨#[115, 115, 115, 112]⟩ : ByteArray) 0 3).bind fun t152 => (if t152 = 0 then (if t138 = 0 then ((modillionref07_Same.f k t135 (([(⟨0, 1, 5⟩ : S48)] : List (S48)))).bind fun t156 => (if t156 = true then (if bt140.2.2.2.2.2.2 = 0 then (if (bt140.1 == 1 && (bt140.2.1 == 5 && (!bt140.2.2.1 && (!bt140.2.2.2.1 && (bt140.2.2.2.2.1 == 0))))) = true then (if bt150.1 = 4 then (if bt150.2 = 0 then ((prog_Known.f k (⟨#[114, 97, 110, 107]⟩ : ByteArray)).bind fun t157 => (if t157 = true then ((prog_Known.f k (⟨#[120]⟩ : ByteArray)).bind fun t158 => (some (!t158))) else (none))) else (none)) else (none)) else (none)) else (none)) else (none))) else (none)) else (none))))) = some r := H
 have A2 := Aside0.mk A20
 clear A20
 replace H := Option.bind_eq_some_iff.mp H
 obtain ⟨⟨t140, t141, t142, t143, t144, t145, t148⟩, A30, H⟩ := H
 replace H : ((prog_Fold.f k (⟨#[109, 97, 120]⟩ : ByteArray) 3 4).bind fun bt150 => ((prog_Check.f k 2 y120 (⟨#[115, 115, 115, 112]⟩ : ByteArray) 0 3).bind fun t152 => (if t152 = 0 then (if t138 = 0 then ((modillionref07_Same.f k t135 (([(⟨0, 1, 5⟩ : S48)] : List (S48)))).bind fun t156 => (if t156 = true then (if t148 = 0 then (if (t140 == 1 && (t141 == 5 && (!t142 && (!t143 && (t144 == 0))))) = true then (if bt150.1 = 4 then (if bt150.2 = 0 then ((prog_Known.f k (⟨#[114, 97, 110, 107]⟩ : ByteArray)).bind fun t157 => (if t157 = true then ((prog_Known.f k (⟨#[120]⟩ : ByteArray)).bind fun t158 => (some (!t158))) else (none))) else (none)) else (none)) else (none)) else (none)) else (none))) else (none)) else (none)))) = some r := H
 have A3 := Aside0.mk A30
 clear A30
 replace H := Option.bind_eq_some_iff.mp H
 obtain ⟨⟨t150, t151⟩, A40, H⟩ := H
 replace H : ((prog_Check.f k 2 y120 (⟨#[115, 115, 115, 112]⟩ : ByteArray) 0 3).bind fun t152 => (if t152 = 0 then (if t138 = 0 then ((modillionref07_Same.f k t135 (([(⟨0, 1, 5⟩ : S48)] : List (S48)))).bind fun t156 => (if t156 = true then (if t148 = 0 then (if (t140 == 1 && (t141 == 5 && (!t142 && (!t143 && (t144 == 0))))) = true then (if t150 = 4 then (if t151 = 0 then ((prog_Known.f k (⟨#[114, 97, 110, 107]⟩ : ByteArray)).bind fun t157 => (if t157 = true then ((prog_Known.f k (⟨#[120]⟩ : ByteArray)).bind fun t158 => (some (!t158))) else (none))) else (none)) else (none)) else (none)) else (none)) else (none))) else (none)) else (none))) = some r := H
 have A4 := Aside0.mk A40
 clear A40
 replace H := Option.bind_eq_some_iff.mp H
 obtain ⟨t152, A50, H⟩ := H
 replace H : (if t152 = 0 then (if t138 = 0 then ((modillionref07_Same.f k t135 (([(⟨0, 1, 5⟩ : S48)] : List (S48)))).bind fun t156 => (if t156 = true then (if t148 = 0 then (if (t140 == 1 && (t141 == 5 && (!t142 && (!t143 && (t144 == 0))))) = true then (if t150 = 4 then (if t151 = 0 then ((prog_Known.f k (⟨#[114, 97, 110, 107]⟩ : ByteArray)).bind fun t157 => (if t157 = true then ((prog_Known.f k (⟨#[120]⟩ : ByteArray)).bind fun t158 => (some (!t158))) else (none))) else (none)) else (none)) else (none)) else (none)) else (none))) else (none)) else (none)) = some r := H
 have A5 := Aside0.mk A50
 clear A50
 by_cases c6 : t152 = 0
 ·rw [if_pos c6] at H
  have c6b0 : (t152 == 0) = true := beq_iff_eq.mpr c6
  have c6b1 : (t152 != 0) = false := bne_eq_false_iff_eq.mpr c6
  clear c6
  by_cases c7 : t138 = 0
  ·rw [if_pos c7] at H
   have c7b0 : (t138 == 0) = true := beq_iff_eq.mpr c7
   have c7b1 : (t138 != 0) = false := bne_eq_false_iff_eq.mpr c7
   clear c7
   obtain ⟨y153, hy153⟩ : ∃ y_ : List (S48), y_ = (([(⟨0, 1, 5⟩ : S48)] : List (S48))) := ⟨_, rfl⟩
   replace H : ((modillionref07_Same.f k t135 y153).bind fun t156 => (if t156 = true then (if t148 = 0 then (if (t140 == 1 && (t141 == 5 && (!t142 && (!t143 && (t144 == 0))))) = true then (if t150 = 4 then (if t151 = 0 then ((prog_Known.f k (⟨#[114, 97, 110, 107]⟩ : ByteArray)).bind fun t157 => (if t157 = true then ((prog_Known.f k (⟨#[120]⟩ : ByteArray)).bind fun t158 => (some (!t158))) else (none))) else (none)) else (none)) else (none)) else (none)) else (none))) = some r := by first | (rw [hy153]; with_reducible exact H) | (have H2_ := (Option.bind_some _ _).symm.trans H; rw [hy153]; with_reducible exact H2_) | (have H2_ := (Option.bind_some _ _).symm.trans H; with_reducible exact H2_) | with_reducible exact H | (rw [hy153]; exact H) | exact H
   have Ny153 := Aside0.mk hy153
   clear hy153
   replace H := Option.bind_eq_some_iff.mp H
   obtain ⟨t156, A80, H⟩ := H
   replace H : (if t156 = true then (if t148 = 0 then (if (t140 == 1 && (t141 == 5 && (!t142 && (!t143 && (t144 == 0))))) = true then (if t150 = 4 then (if t151 = 0 then ((prog_Known.f k (⟨#[114, 97, 110, 107]⟩ : ByteArray)).bind fun t157 => (if t157 = true then ((prog_Known.f k (⟨#[120]⟩ : ByteArray)).bind fun t158 => (some (!t158))) else (none))) else (none)) else (none)) else (none)) else (none)) else (none)) = some r := H
   have A8 := Aside0.mk A80
   clear A80
   by_cases c9 : t156 = true
   ·subst c9
    have H1 : (if t148 = 0 then (if (t140 == 1 && (t141 == 5 && (!t142 && (!t143 && (t144 == 0))))) = true then (if t150 = 4 then (if t151 = 0 then ((prog_Known.f k (⟨#[114, 97, 110, 107]⟩ : ByteArray)).bind fun t157 => (if t157 = true then ((prog_Known.f k (⟨#[120]⟩ : ByteArray)).bind fun t158 => (some (!t158))) else (none))) else (none)) else (none)) else (none)) else (none)) = some r := by rw [if_pos rfl] at H; exact H
    clear H
    have H := H1
    clear H1
    by_cases c10 : t148 = 0
    ·rw [if_pos c10] at H
     have c10b0 : (t148 == 0) = true := beq_iff_eq.mpr c10
     have c10b1 : (t148 != 0) = false := bne_eq_false_iff_eq.mpr c10
     clear c10
     by_cases c11 : (t140 == 1 && (t141 == 5 && (!t142 && (!t143 && (t144 == 0))))) = true
     ·rw [if_pos c11] at H
      have c11b0 : (t140 == 1 && (t141 == 5 && (!t142 && (!t143 && (t144 == 0))))) = true := c11
      (try (have c11b1 : decide (t140 = 1 && (t141 == 5 && (!t142 && (!t143 && (t144 == 0))))) = true := by simpa using c11))
      (try (have c11b2 : (t140 == 1 && (t141 == 5 && (!t142 && (!t143 && (t144 == 0))))) = true := by simpa using c11))
      clear c11
      by_cases c12 : t150 = 4
      ·rw [if_pos c12] at H
       have c12b0 : (t150 == 4) = true := beq_iff_eq.mpr c12
       have c12b1 : (t150 != 4) = false := bne_eq_false_iff_eq.mpr c12
       clear c12
       by_cases c13 : t151 = 0
       ·rw [if_pos c13] at H
        have c13b0 : (t151 == 0) = true := beq_iff_eq.mpr c13
        have c13b1 : (t151 != 0) = false := bne_eq_false_iff_eq.mpr c13
        clear c13
        replace H := Option.bind_eq_some_iff.mp H
        obtain ⟨t157, A140, H⟩ := H
        replace H : (if t157 = true then ((prog_Known.f k (⟨#[120]⟩ : ByteArray)).bind fun t158 => (some (!t158))) else (none)) = some r := H
        have A14 := Aside0.mk A140
        clear A140
        by_cases c15 : t157 = true
        ·subst c15
         have H1 : ((prog_Known.f k (⟨#[120]⟩ : ByteArray)).bind fun t158 => (some (!t158))) = some r := by rw [if_pos rfl] at H; exact H
         clear H
         have H := H1
         clear H1
         replace H := Option.bind_eq_some_iff.mp H
         obtain ⟨t158, A160, H⟩ := H
         replace H : (some (!t158)) = some r := H
         have A16 := Aside0.mk A160
         clear A160
         obtain rfl := Option.some.inj H
         go_enter Try.func10, Try.ntmps10
         try go_wp2_with (first | ((with_reducible refine gate_dst (N := 12) rfl ?_); (try (refine gate_guard (by rfl) ?_; dsimp only)); refine Kd.R_lit k46 _ 46 ?hg (N := 12) ?hd (xs := ([(⟨0, 1, 5⟩ : S46)] : List (S46))) (inner := [.int .i64 0, .int .i64 1, .int .i64 5]) (ok := fun _ => True) (okp := fun _ => True) ?hr ?hp (fun _ hk => hk) trivial (Below.refl _ _) (Nat.le_refl _) (by simp) ?_; (case hd => rfl); (case hg => rfl); (case hr => first | (go_simp; done) | (go_simp; rfl)); (case hp => exact (Reps.c3 (show Kd.M k46 _ _ _ (⟨0, 1, 5⟩ : S46) [.int .i64 0, .int .i64 1, .int .i64 5] from (k46_mkM _ _ _ (⟨0, 1, 5⟩ : S46) )) (Reps.none _ _))); intro v121 w17 ho18 hb hg_ hnew_; clear hg_ hnew_; (first | rw [← Ny120.out] at ho18 | (simp only [Int.reduceToNat] at ho18; rw [← Ny120.out] at ho18)); have n0_ := Aside0.mk (Kd.R_lower ho18 (below_size (kB HB.out))); have n1_ := Aside0.mk (below_step (kB HB.out) hb); clear HB; have HO122 := n0_; have HB := n1_; clear n0_ n1_; clear hb ho18; obtain ⟨Ao19, co19, eo19⟩ := Kd.R_slice HO122.out; subst eo19) | ((with_reducible refine gate_dst (N := 1) rfl ?_); (try (refine gate_guard (by rfl) ?_; dsimp only)); refine box_event ?hg (N := 1) ?hd (cs := #[.int .i64 0, .slice none 0 0]) (t := 24) ?hr ?_; (case hd => rfl); (case hg => rfl); (case hr => first | (go_simp; done) | (go_simp; rfl)); intro gb123 hg w20 hbox hb; have n0_ := Aside0.mk (Kd.R_below (kR HO122.out) hb); have n1_ := Aside0.mk (below_step (kB HB.out) hb); have n2_ := Aside0.mk (hbox); have n3_ := Aside0.mk ((by rw [hg]; exact (below_size (kB HB.out)) : w.heap.size ≤ gb123)); have n4_ := Aside0.mk ((by rw [hg]; exact (below_size (kB HB.out)) : w.heap.size ≤ gb123)); clear HO122; clear HB; have HO122 := n0_; have HB := n1_; have BK123 := n2_; have GW123 := n3_; have GE123 := n4_; clear n0_ n1_ n2_ n3_ n4_; clear hb hbox hg; have hcz21_0 : w20.cell? ⟨gb123, 0, none⟩ = some (.int .i64 0) := (blk_cell BK123.out 0).trans rfl; have hcz21_1 : w20.cell? ⟨gb123, 1, none⟩ = some (.slice none 0 0) := (blk_cell BK123.out 1).trans rfl; have hfz21_0 := blk_frozen BK123.out 0; have hfz21_1 := blk_frozen BK123.out 1) | ((with_reducible refine gate_dst (N := 2) rfl ?_); (try (refine gate_guard (by rfl) ?_; dsimp only)); refine box_event ?hg (N := 2) ?hd (cs := #[.string (⟨#[]⟩ : ByteArray), .int .i64 0, .int .i64 0]) (t := 26) ?hr ?_; (case hd => rfl); (case hg => rfl); (case hr => first | (go_simp; done) | (go_simp; rfl)); intro gb124 hg w22 hbox hb; have n0_ := Aside0.mk (Kd.R_below (by (with_reducible repeat (first | apply Kd.R_alloc | apply Kd.R_drewN | apply Kd.R_drew)); exact (Kd.R_mono (Kd.R_far (p := ⟨gb123, 1, none⟩) (Kd.R_far (p := ⟨gb123, 0, none⟩) (Kd.R_types HO122.out BK123.out (by decide)) (fun _ hk => hk.2) (.int .i64 2)) (fun _ hk => hk.2) (.slice Ao19 y120.length co19)) (fun _ h_ => h_.1))) hb); have n1_ := Aside0.mk (blk_below (g := gb123) (o := .cells #[.int .i64 2, .slice Ao19 y120.length co19] 24 (0, 0)) (by (with_reducible repeat (first | refine blk_drewN ?_ _ | refine blk_drew ?_ | refine blk_alloc ?_ _)); refine blk_put (cs := #[.int .i64 2, .slice none 0 0]) ?_ 1 _ rfl; refine blk_put (cs := #[.int .i64 0, .slice none 0 0]) ?_ 0 _ rfl; exact kA BK123.out) hb); have n2_ := Aside0.mk (below_step (kB HB.out) hb); have n3_ := Aside0.mk (hbox); have n4_ := Aside0.mk ((by rw [hg]; exact (below_size (kB HB.out)) : w.heap.size ≤ gb124)); have n5_ := Aside0.mk ((by rw [hg]; exact (below_size (kB HB.out)) : w.heap.size ≤ gb124)); have n6_ := Aside0.mk ((by rw [hg]; exact Nat.ne_of_lt (blk_lt (g := gb123) (o := .cells #[.int .i64 2, .slice Ao19 y120.length co19] 24 (0, 0)) (by (with_reducible repeat (first | refine blk_drewN ?_ _ | refine blk_drew ?_ | refine blk_alloc ?_ _)); refine blk_put (cs := #[.int .i64 2, .slice none 0 0]) ?_ 1 _ rfl; refine blk_put (cs := #[.int .i64 0, .slice none 0 0]) ?_ 0 _ rfl; exact kA BK123.out)) : gb123 ≠ gb124)); have n7_ := Aside0.mk ((by rw [hg]; exact Nat.ne_of_gt (blk_lt (g := gb123) (o := .cells #[.int .i64 2, .slice Ao19 y120.length co19] 24 (0, 0)) (by (with_reducible repeat (first | refine blk_drewN ?_ _ | refine blk_drew ?_ | refine blk_alloc ?_ _)); refine blk_put (cs := #[.int .i64 2, .slice none 0 0]) ?_ 1 _ rfl; refine blk_put (cs := #[.int .i64 0, .slice none 0 0]) ?_ 0 _ rfl; exact kA BK123.out)) : gb124 ≠ gb123)); clear HO122; clear BK123; clear HB; have HO122 := n0_; have BK123 := n1_; have HB := n2_; have BK124 := n3_; have GW124 := n4_; have GE124 := n5_; have NB123_124 := n6_; have NB124_123 := n7_; clear n0_ n1_ n2_ n3_ n4_ n5_ n6_ n7_; clear hb hbox hg; have hnb23 := NB124_123.out; have hnc23 := NB123_124.out; have hcz24_0 : w22.cell? ⟨gb124, 0, none⟩ = some (.string (⟨#[]⟩ : ByteArray)) := (blk_cell BK124.out 0).trans rfl; have hcz24_1 : w22.cell? ⟨gb124, 1, none⟩ = some (.int .i64 0) := (blk_cell BK124.out 1).trans rfl; have hcz24_2 : w22.cell? ⟨gb124, 2, none⟩ = some (.int .i64 0) := (blk_cell BK124.out 2).trans rfl; have hfz24_0 := blk_frozen BK124.out 0; have hfz24_1 := blk_frozen BK124.out 1; have hfz24_2 := blk_frozen BK124.out 2))
         have n0_ : Aside0 (Kd.R k46 46 (((w22.setCell ⟨gb124, 0, none⟩ (.string (⟨#[115, 115, 115, 112]⟩ : ByteArray))).setCell ⟨gb124, 1, none⟩ (.int .i64 0)).setCell ⟨gb124, 2, none⟩ (.int .i64 3)) w.heap.size (fun _ => True) (.slice Ao19 y120.length co19) y120) := ⟨by (with_reducible repeat (first | apply Kd.R_alloc | apply Kd.R_drewN | apply Kd.R_drew)); exact Kd.R_mono (Kd.R_far (p := ⟨gb124, 2, none⟩) (Kd.R_far (p := ⟨gb124, 1, none⟩) (Kd.R_far (p := ⟨gb124, 0, none⟩) (Kd.R_types HO122.out BK124.out (by decide)) (fun _ hk => hk.2) (.string (⟨#[115, 115, 115, 112]⟩ : ByteArray))) (fun _ hk => hk.2) (.int .i64 0)) (fun _ hk => hk.2) (.int .i64 3)) (fun _ hk => trivial)⟩
         have n1_ : Aside0 ((((w22.setCell ⟨gb124, 0, none⟩ (.string (⟨#[115, 115, 115, 112]⟩ : ByteArray))).setCell ⟨gb124, 1, none⟩ (.int .i64 0)).setCell ⟨gb124, 2, none⟩ (.int .i64 3)).heap[gb123]? = some (.cells #[.int .i64 2, .slice Ao19 y120.length co19] 24 (0, 0))) := ⟨kF NB123_124.out BK123.out⟩
         have n2_ : Aside0 ((((w22.setCell ⟨gb124, 0, none⟩ (.string (⟨#[115, 115, 115, 112]⟩ : ByteArray))).setCell ⟨gb124, 1, none⟩ (.int .i64 0)).setCell ⟨gb124, 2, none⟩ (.int .i64 3)).heap[gb124]? = some (.cells #[.string (⟨#[115, 115, 115, 112]⟩ : ByteArray), .int .i64 0, .int .i64 3] 26 (0, 0))) := ⟨by (with_reducible repeat (first | refine blk_drewN ?_ _ | refine blk_drew ?_ | refine blk_alloc ?_ _)); refine blk_put (cs := #[.string (⟨#[115, 115, 115, 112]⟩ : ByteArray), .int .i64 0, .int .i64 0]) ?_ 2 _ rfl; refine blk_put (cs := #[.string (⟨#[115, 115, 115, 112]⟩ : ByteArray), .int .i64 0, .int .i64 0]) ?_ 1 _ rfl; refine blk_put (cs := #[.string (⟨#[]⟩ : ByteArray), .int .i64 0, .int .i64 0]) ?_ 0 _ rfl; exact kA BK124.out⟩
         have n3_ : Aside0 (Below w.heap.size w (((w22.setCell ⟨gb124, 0, none⟩ (.string (⟨#[115, 115, 115, 112]⟩ : ByteArray))).setCell ⟨gb124, 1, none⟩ (.int .i64 0)).setCell ⟨gb124, 2, none⟩ (.int .i64 3))) := ⟨kB HB.out⟩
         (try clear HO122)
         (try clear BK123)
         (try clear BK124)
         (try clear HB)
         generalize (((w22.setCell ⟨gb124, 0, none⟩ (.string (⟨#[115, 115, 115, 112]⟩ : ByteArray))).setCell ⟨gb124, 1, none⟩ (.int .i64 0)).setCell ⟨gb124, 2, none⟩ (.int .i64 3)) = w25 at n0_ n1_ n2_ n3_ ⊢
         have HO122 := n0_
         have BK123 := n1_
         have BK124 := n2_
         have HB := n3_
         clear n0_ n1_ n2_ n3_
         have n0_ := Aside0.mk (Kd.R_drew HO122.out)
         have n1_ := Aside0.mk (blk_drew BK123.out)
         have n2_ := Aside0.mk (blk_drew BK124.out)
         have n3_ := Aside0.mk (below_drew1 HB.out)
         clear HO122
         clear BK123
         clear BK124
         clear HB
         have HO122 := n0_
         have BK123 := n1_
         have BK124 := n2_
         have HB := n3_
         clear n0_ n1_ n2_ n3_
         refine start_ (n := 13) (S := fun w' => w'.cell? ⟨gb123, 0, none⟩ = some (.int .i64 2) ∧ w'.cell? ⟨gb123, 1, none⟩ = some (.slice Ao19 y120.length co19) ∧ w'.cell? ⟨gb124, 0, none⟩ = some (.string (⟨#[115, 115, 115, 112]⟩ : ByteArray)) ∧ w'.cell? ⟨gb124, 1, none⟩ = some (.int .i64 0) ∧ w'.cell? ⟨gb124, 2, none⟩ = some (.int .i64 3)) (ds := []) #[Z,Z,Z,Z,Z,Z,Z,Z,Z,Z,Z,Z,Z] (by kernel_rfl) rfl rfl ⟨(blk_cell BK123.out 0).trans rfl, (blk_cell BK123.out 1).trans rfl, (blk_cell BK124.out 0).trans rfl, (blk_cell BK124.out 1).trans rfl, (blk_cell BK124.out 2).trans rfl⟩ (fun hHeld => ?_); refine with_tabW modillionlaw07_awake.tab3 modillionlaw07_awake.bits3 (fun HT_ HW_ => ?_)
         generalize w25.drew = w26 at HO122 BK123 BK124 HB hHeld ⊢
         refine take_ (i := 0) (N := some 16) (v := ?_) (a' := ?_) #[Y,Z,Z,Z,Z,Z,Z,Z,Z,Z,Z,Z,Z] rfl rfl (take_ofW HT_.out HW_.out (by kernel_rfl)) (fun _ _ _ h => h) (Or.inl ⟨by rfl, ?_⟩) hHeld ?_ ?_
         rotate_left
         ·rintro w' ⟨s0, s1, s2, s3, s4⟩;go_simp;with_reducible rfl
         rotate_left
         ·simp only [Act.put, q1_, q2_, q3_, i64_w, i32_w];rfl
         refine take_ (i := 1) (N := some 17) (v := ?_) (a' := ?_) #[Y,Y,Z,Z,Z,Z,Z,Z,Z,Z,Z,Z,Z] rfl rfl (take_ofW HT_.out HW_.out (by kernel_rfl)) (fun _ _ _ h => h) (Or.inl ⟨by rfl, ?_⟩) hHeld ?_ ?_
         rotate_left
         ·rintro w' ⟨s0, s1, s2, s3, s4⟩;go_simp;with_reducible rfl
         rotate_left
         ·simp only [Act.put, q1_, q2_, q3_, i64_w, i32_w];rfl
         refine take_ (i := 2) (N := some 18) (v := ?_) (a' := ?_) #[Y,Y,Y,Z,Z,Z,Z,Z,Z,Z,Z,Z,Z] rfl rfl (take_ofW HT_.out HW_.out (by kernel_rfl)) (fun _ _ _ h => h) (Or.inl ⟨by rfl, ?_⟩) hHeld ?_ ?_
         rotate_left
         ·rintro w' ⟨s0, s1, s2, s3, s4⟩;go_simp;with_reducible rfl
         rotate_left
         ·simp only [Act.put, q1_, q2_, q3_, i64_w, i32_w];rfl
         refine join_ (σ := Value × Nat) 3 #[Y,Y,Y,Y,Y,Y,Y,Y,Y,Y,Z,Z,Z] (fun s_ => [(19, .agg #[.int .i64 t125, .int .i64 t126, .bool t127, .bool t128, .int .i64 t129]), (20, .tuple #[.agg #[.int .i64 t130, .int .i64 t131, .bool t132, .bool t133, .int .i64 t134], s_.1, .int .i64 t138]), (3, .pointer (some ⟨s_.2, 0, none⟩)), (15, .tuple #[.agg #[.int .i64 t130, .int .i64 t131, .bool t132, .bool t133, .int .i64 t134], s_.1, .int .i64 t138]), (21, .agg #[.int .i64 t130, .int .i64 t131, .bool t132, .bool t133, .int .i64 t134]), (22, s_.1), (23, .int .i64 t138)]) (fun s_ w' => (w'.cell? ⟨gb123, 0, none⟩ = some (.int .i64 2) ∧ w'.cell? ⟨gb123, 1, none⟩ = some (.slice Ao19 y120.length co19) ∧ w'.cell? ⟨gb124, 0, none⟩ = some (.string (⟨#[115, 115, 115, 112]⟩ : ByteArray)) ∧ w'.cell? ⟨gb124, 1, none⟩ = some (.int .i64 0) ∧ w'.cell? ⟨gb124, 2, none⟩ = some (.int .i64 3)) ∧ (Kd.R k46 46 w' w.heap.size (fun _ => True) (.slice Ao19 y120.length co19) y120) ∧ (Kd.R k48 48 w' w.heap.size (fun _ => True) s_.1 t135) ∧ (w'.heap[gb123]? = some (.cells #[.int .i64 2, .slice Ao19 y120.length co19] 24 (0, 0))) ∧ (w'.heap[gb124]? = some (.cells #[.string (⟨#[115, 115, 115, 112]⟩ : ByteArray), .int .i64 0, .int .i64 3] 26 (0, 0))) ∧ (w'.heap[s_.2]? = some (.cells #[.int .i64 0, .int .i64 0, .bool false, .bool false, .int .i64 0] 28 (0, 0))) ∧ (w.heap.size ≤ s_.2) ∧ (w.heap.size ≤ s_.2) ∧ (gb123 ≠ s_.2) ∧ (s_.2 ≠ gb123) ∧ (gb124 ≠ s_.2) ∧ (s_.2 ≠ gb124) ∧ (Below w.heap.size w w')) ?_ ?_
         rotate_left
         ·intro hCont
          refine two_ (i := 3) (j := 9) (Ni := some 19) (Nj := some 3) #[Y,Y,Y,Y,Z,Z,Z,Z,Z,Z,Z,Z,Z] #[Y,Y,Y,Z,Z,Z,Z,Z,Z,Y,Z,Z,Z] rfl rfl rfl rfl (two_of HT_.out (by kernel_rfl)) (by decide) (by decide) (fun K hK => ?_) (fun K hK => ?_)
          ·skip
           refine goes_ Try.func17 (by kernel_rfl) rfl #[.agg #[.string (⟨#[115, 115, 115, 112]⟩ : ByteArray), .int .i64 0, .int .i64 3], .int .i64 0] (by rfl) rfl rfl (by (try simp only [List.map_toArray, List.map_cons, List.map_nil]); first | done | rfl | (simp only [List.length_drop, List.length_take]; rfl)) ?_
           with_reducible refine (prog_First.calls (⟨#[115, 115, 115, 112]⟩ : ByteArray) 0 3 0 t125 t126 t127 t128 t129 _ A1.out).mono ?_
           rintro e w27 ⟨rfl, hb⟩
           refine ⟨_, rfl, ?_⟩
           have n0_ := Aside0.mk (Kd.R_below (kR HO122.out) hb)
           have n1_ := Aside0.mk (blk_below (g := gb123) (o := .cells #[.int .i64 2, .slice Ao19 y120.length co19] 24 (0, 0)) (kA BK123.out) hb)
           have n2_ := Aside0.mk (blk_below (g := gb124) (o := .cells #[.string (⟨#[115, 115, 115, 112]⟩ : ByteArray), .int .i64 0, .int .i64 3] 26 (0, 0)) (kA BK124.out) hb)
           have n3_ := Aside0.mk (below_step (kB HB.out) hb)
           clear HO122
           clear BK123
           clear BK124
           clear HB
           have HO122 := n0_
           have BK123 := n1_
           have BK124 := n2_
           have HB := n3_
           clear n0_ n1_ n2_ n3_
           (try clear hb)
           (try clear hb2)
           (try clear hk)
           (try clear hi)
           refine hK.out _ _ ⟨(blk_cell BK123.out 0).trans rfl, (blk_cell BK123.out 1).trans rfl, (blk_cell BK124.out 0).trans rfl, (blk_cell BK124.out 1).trans rfl, (blk_cell BK124.out 2).trans rfl⟩ (fun hHeld => ?_)
           clear hK K
           refine norm_ (a' := ?_) ?_ ?_
           rotate_left
           ·show Act.put _ (some 19) _ = _
            simp only [Act.put, q1_, q2_, q3_, i64_w, i32_w]
            rfl
           refine two_ (i := 4) (j := 9) (Ni := some 20) (Nj := some 3) #[Y,Y,Y,Y,Y,Z,Z,Z,Z,Z,Z,Z,Z] #[Y,Y,Y,Y,Z,Z,Z,Z,Z,Y,Z,Z,Z] rfl rfl rfl rfl (two_of HT_.out (by kernel_rfl)) (by decide) (by decide) (fun K hK => ?_) (fun K hK => ?_)
           ·skip
            refine goes_ Try.func12 (by kernel_rfl) rfl #[.agg #[.int .i64 2, .slice Ao19 y120.length co19], .agg #[.string (⟨#[115, 115, 115, 112]⟩ : ByteArray), .int .i64 0, .int .i64 3], .int .i64 0, .agg #[.int .i64 t125, .int .i64 t126, .bool t127, .bool t128, .int .i64 t129]] (by rfl) rfl rfl (by (try simp only [List.map_toArray, List.map_cons, List.map_nil]); first | done | rfl | (simp only [List.length_drop, List.length_take]; rfl)) ?_
            with_reducible refine (prog_Step.calls 2 _ _ y120 (⟨#[115, 115, 115, 112]⟩ : ByteArray) 0 3 0 t125 t126 t127 t128 t129 t130 t131 t132 t133 t134 t135 t138 _ ?side1 ?side2 A2.out).mono ?_
            (case side1 => repeat (first | exact (Kd.R_reads' HO122.out).2.2 | (with_reducible refine Kd.C_alloc ?_ _) | (with_reducible refine Kd.C_drewN ?_ _) | (with_reducible refine Kd.C_drew ?_)))
            (case side2 => exact (Kd.R_reads' HO122.out).2.1)
            rintro e w28 ⟨v136, rfl, ho0, hb⟩
            refine ⟨_, rfl, ?_⟩
            have n0_ := Aside0.mk (Kd.R_below (kR HO122.out) hb)
            have n1_ := Aside0.mk (Kd.R_lower ho0 (below_size (kB HB.out)))
            have n2_ := Aside0.mk (blk_below (g := gb123) (o := .cells #[.int .i64 2, .slice Ao19 y120.length co19] 24 (0, 0)) (kA BK123.out) hb)
            have n3_ := Aside0.mk (blk_below (g := gb124) (o := .cells #[.string (⟨#[115, 115, 115, 112]⟩ : ByteArray), .int .i64 0, .int .i64 3] 26 (0, 0)) (kA BK124.out) hb)
            have n4_ := Aside0.mk (below_step (kB HB.out) hb)
            clear HO122
            clear BK123
            clear BK124
            clear HB
            have HO122 := n0_
            have HO137 := n1_
            have BK123 := n2_
            have BK124 := n3_
            have HB := n4_
            clear n0_ n1_ n2_ n3_ n4_
            (try clear hb)
            (try clear hb2)
            (try clear hk)
            (try clear hi)
            (try clear ho0)
            refine hK.out _ _ ⟨(blk_cell BK123.out 0).trans rfl, (blk_cell BK123.out 1).trans rfl, (blk_cell BK124.out 0).trans rfl, (blk_cell BK124.out 1).trans rfl, (blk_cell BK124.out 2).trans rfl⟩ (fun hHeld => ?_)
            clear hK K
            refine norm_ (a' := ?_) ?_ ?_
            rotate_left
            ·show Act.put _ (some 20) _ = _
             simp only [Act.put, q1_, q2_, q3_, i64_w, i32_w]
             rfl
            refine pure_ (i := 5) (N := some 15) (v := ?_) (a' := ?_) #[Y,Y,Y,Y,Y,Y,Z,Z,Z,Z,Z,Z,Z] rfl rfl (any_of HT_.out (by kernel_rfl)) (fun _ _ _ h => h) (Or.inl ⟨by rfl, ?_⟩) ?_ ?_
            rotate_left
            ·intro w';go_simp;with_reducible rfl
            rotate_left
            ·simp only [Act.put, q1_, q2_, q3_, i64_w, i32_w];rfl
            refine pure_ (i := 6) (N := some 21) (v := ?_) (a' := ?_) #[Y,Y,Y,Y,Y,Y,Y,Z,Z,Z,Z,Z,Z] rfl rfl (any_of HT_.out (by kernel_rfl)) (fun _ _ _ h => h) (Or.inl ⟨by rfl, ?_⟩) ?_ ?_
            rotate_left
            ·intro w';go_simp;with_reducible rfl
            rotate_left
            ·simp only [Act.put, q1_, q2_, q3_, i64_w, i32_w];rfl
            refine pure_ (i := 7) (N := some 22) (v := ?_) (a' := ?_) #[Y,Y,Y,Y,Y,Y,Y,Y,Z,Z,Z,Z,Z] rfl rfl (any_of HT_.out (by kernel_rfl)) (fun _ _ _ h => h) (Or.inl ⟨by rfl, ?_⟩) ?_ ?_
            rotate_left
            ·intro w';go_simp;with_reducible rfl
            rotate_left
            ·simp only [Act.put, q1_, q2_, q3_, i64_w, i32_w];rfl
            refine pure_ (i := 8) (N := some 23) (v := ?_) (a' := ?_) #[Y,Y,Y,Y,Y,Y,Y,Y,Y,Z,Z,Z,Z] rfl rfl (any_of HT_.out (by kernel_rfl)) (fun _ _ _ h => h) (Or.inl ⟨by rfl, ?_⟩) ?_ ?_
            rotate_left
            ·intro w';go_simp;with_reducible rfl
            rotate_left
            ·simp only [Act.put, q1_, q2_, q3_, i64_w, i32_w];rfl
            refine one_ (i := 9) (N := some 3) #[Y,Y,Y,Y,Y,Y,Y,Y,Y,Y,Z,Z,Z] rfl rfl (one_of HT_.out (by kernel_rfl)) (by decide) (fun K hK => ?_)
            refine box_step ?hg (N := 3) ?hd (cs := #[.int .i64 0, .int .i64 0, .bool false, .bool false, .int .i64 0]) (t := 28) ?hr ?_; (case hd => rfl); (case hg => rfl); (case hr => first | (go_simp; done) | (go_simp; rfl))
            intro gb139 hg w29 hbox hb
            have n0_ := Aside0.mk (Kd.R_below (kR HO122.out) hb)
            have n1_ := Aside0.mk (Kd.R_below (kR HO137.out) hb)
            have n2_ := Aside0.mk (blk_below (g := gb123) (o := .cells #[.int .i64 2, .slice Ao19 y120.length co19] 24 (0, 0)) (kA BK123.out) hb)
            have n3_ := Aside0.mk (blk_below (g := gb124) (o := .cells #[.string (⟨#[115, 115, 115, 112]⟩ : ByteArray), .int .i64 0, .int .i64 3] 26 (0, 0)) (kA BK124.out) hb)
            have n4_ := Aside0.mk (below_step (kB HB.out) hb)
            have n5_ := Aside0.mk (hbox)
            have n6_ := Aside0.mk ((by rw [hg]; exact (below_size (kB HB.out)) : w.heap.size ≤ gb139))
            have n7_ := Aside0.mk ((by rw [hg]; exact (below_size (kB HB.out)) : w.heap.size ≤ gb139))
            have n8_ := Aside0.mk ((by rw [hg]; exact Nat.ne_of_lt (blk_lt (g := gb123) (o := .cells #[.int .i64 2, .slice Ao19 y120.length co19] 24 (0, 0)) (kA BK123.out)) : gb123 ≠ gb139))
            have n9_ := Aside0.mk ((by rw [hg]; exact Nat.ne_of_gt (blk_lt (g := gb123) (o := .cells #[.int .i64 2, .slice Ao19 y120.length co19] 24 (0, 0)) (kA BK123.out)) : gb139 ≠ gb123))
            have n10_ := Aside0.mk ((by rw [hg]; exact Nat.ne_of_lt (blk_lt (g := gb124) (o := .cells #[.string (⟨#[115, 115, 115, 112]⟩ : ByteArray), .int .i64 0, .int .i64 3] 26 (0, 0)) (kA BK124.out)) : gb124 ≠ gb139))
            have n11_ := Aside0.mk ((by rw [hg]; exact Nat.ne_of_gt (blk_lt (g := gb124) (o := .cells #[.string (⟨#[115, 115, 115, 112]⟩ : ByteArray), .int .i64 0, .int .i64 3] 26 (0, 0)) (kA BK124.out)) : gb139 ≠ gb124))
            clear HO122
            clear HO137
            clear BK123
            clear BK124
            clear HB
            have HO122 := n0_
            have HO137 := n1_
            have BK123 := n2_
            have BK124 := n3_
            have HB := n4_
            have BK139 := n5_
            have GW139 := n6_
            have GE139 := n7_
            have NB123_139 := n8_
            have NB139_123 := n9_
            have NB124_139 := n10_
            have NB139_124 := n11_
            clear n0_ n1_ n2_ n3_ n4_ n5_ n6_ n7_ n8_ n9_ n10_ n11_
            clear hb hbox hg
            refine hK.out _ _ ⟨(blk_cell BK123.out 0).trans rfl, (blk_cell BK123.out 1).trans rfl, (blk_cell BK124.out 0).trans rfl, (blk_cell BK124.out 1).trans rfl, (blk_cell BK124.out 2).trans rfl⟩ (fun hHeld => ?_)
            clear hK K
            refine norm_ (a' := ?_) ?_ ?_
            rotate_left
            ·show Act.put _ (some 3) _ = _
             simp only [Act.put, q1_, q2_, q3_, i64_w, i32_w]
             rfl
            exact norm_ (by simp only [putAll, Act.put, q1_, q2_, q3_]) (hCont (v136, gb139) _ ⟨hHeld, (kR HO122.out), (kR HO137.out), (kA BK123.out), (kA BK124.out), (kA BK139.out), GW139.out, GE139.out, NB123_139.out, NB139_123.out, NB124_139.out, NB139_124.out, (kB HB.out)⟩)
           ·skip
            refine box_step ?hg (N := 3) ?hd (cs := #[.int .i64 0, .int .i64 0, .bool false, .bool false, .int .i64 0]) (t := 28) ?hr ?_; (case hd => rfl); (case hg => rfl); (case hr => first | (go_simp; done) | (go_simp; rfl))
            intro gb139 hg w28 hbox hb
            have n0_ := Aside0.mk (Kd.R_below (kR HO122.out) hb)
            have n1_ := Aside0.mk (blk_below (g := gb123) (o := .cells #[.int .i64 2, .slice Ao19 y120.length co19] 24 (0, 0)) (kA BK123.out) hb)
            have n2_ := Aside0.mk (blk_below (g := gb124) (o := .cells #[.string (⟨#[115, 115, 115, 112]⟩ : ByteArray), .int .i64 0, .int .i64 3] 26 (0, 0)) (kA BK124.out) hb)
            have n3_ := Aside0.mk (below_step (kB HB.out) hb)
            have n4_ := Aside0.mk (hbox)
            have n5_ := Aside0.mk ((by rw [hg]; exact (below_size (kB HB.out)) : w.heap.size ≤ gb139))
            have n6_ := Aside0.mk ((by rw [hg]; exact (below_size (kB HB.out)) : w.heap.size ≤ gb139))
            have n7_ := Aside0.mk ((by rw [hg]; exact Nat.ne_of_lt (blk_lt (g := gb123) (o := .cells #[.int .i64 2, .slice Ao19 y120.length co19] 24 (0, 0)) (kA BK123.out)) : gb123 ≠ gb139))
            have n8_ := Aside0.mk ((by rw [hg]; exact Nat.ne_of_gt (blk_lt (g := gb123) (o := .cells #[.int .i64 2, .slice Ao19 y120.length co19] 24 (0, 0)) (kA BK123.out)) : gb139 ≠ gb123))
            have n9_ := Aside0.mk ((by rw [hg]; exact Nat.ne_of_lt (blk_lt (g := gb124) (o := .cells #[.string (⟨#[115, 115, 115, 112]⟩ : ByteArray), .int .i64 0, .int .i64 3] 26 (0, 0)) (kA BK124.out)) : gb124 ≠ gb139))
            have n10_ := Aside0.mk ((by rw [hg]; exact Nat.ne_of_gt (blk_lt (g := gb124) (o := .cells #[.string (⟨#[115, 115, 115, 112]⟩ : ByteArray), .int .i64 0, .int .i64 3] 26 (0, 0)) (kA BK124.out)) : gb139 ≠ gb124))
            clear HO122
            clear BK123
            clear BK124
            clear HB
            have HO122 := n0_
            have BK123 := n1_
            have BK124 := n2_
            have HB := n3_
            have BK139 := n4_
            have GW139 := n5_
            have GE139 := n6_
            have NB123_139 := n7_
            have NB139_123 := n8_
            have NB124_139 := n9_
            have NB139_124 := n10_
            clear n0_ n1_ n2_ n3_ n4_ n5_ n6_ n7_ n8_ n9_ n10_
            clear hb hbox hg
            refine hK.out _ _ ⟨(blk_cell BK123.out 0).trans rfl, (blk_cell BK123.out 1).trans rfl, (blk_cell BK124.out 0).trans rfl, (blk_cell BK124.out 1).trans rfl, (blk_cell BK124.out 2).trans rfl⟩ (fun hHeld => ?_)
            clear hK K
            refine norm_ (a' := ?_) ?_ ?_
            rotate_left
            ·show Act.put _ (some 3) _ = _
             simp only [Act.put, q1_, q2_, q3_, i64_w, i32_w]
             rfl
            refine one_ (i := 4) (N := some 20) #[Y,Y,Y,Y,Y,Z,Z,Z,Z,Y,Z,Z,Z] rfl rfl (one_of HT_.out (by kernel_rfl)) (by decide) (fun K hK => ?_)
            refine goes_ Try.func12 (by kernel_rfl) rfl #[.agg #[.int .i64 2, .slice Ao19 y120.length co19], .agg #[.string (⟨#[115, 115, 115, 112]⟩ : ByteArray), .int .i64 0, .int .i64 3], .int .i64 0, .agg #[.int .i64 t125, .int .i64 t126, .bool t127, .bool t128, .int .i64 t129]] (by rfl) rfl rfl (by (try simp only [List.map_toArray, List.map_cons, List.map_nil]); first | done | rfl | (simp only [List.length_drop, List.length_take]; rfl)) ?_
            with_reducible refine (prog_Step.calls 2 _ _ y120 (⟨#[115, 115, 115, 112]⟩ : ByteArray) 0 3 0 t125 t126 t127 t128 t129 t130 t131 t132 t133 t134 t135 t138 _ ?side1 ?side2 A2.out).mono ?_
            (case side1 => repeat (first | exact (Kd.R_reads' HO122.out).2.2 | (with_reducible refine Kd.C_alloc ?_ _) | (with_reducible refine Kd.C_drewN ?_ _) | (with_reducible refine Kd.C_drew ?_)))
            (case side2 => exact (Kd.R_reads' HO122.out).2.1)
            rintro e w29 ⟨v136, rfl, ho0, hb⟩
            refine ⟨_, rfl, ?_⟩
            have n0_ := Aside0.mk (Kd.R_below (kR HO122.out) hb)
            have n1_ := Aside0.mk (Kd.R_lower ho0 (below_size (kB HB.out)))
            have n2_ := Aside0.mk (blk_below (g := gb123) (o := .cells #[.int .i64 2, .slice Ao19 y120.length co19] 24 (0, 0)) (kA BK123.out) hb)
            have n3_ := Aside0.mk (blk_below (g := gb124) (o := .cells #[.string (⟨#[115, 115, 115, 112]⟩ : ByteArray), .int .i64 0, .int .i64 3] 26 (0, 0)) (kA BK124.out) hb)
            have n4_ := Aside0.mk (blk_below (g := gb139) (o := .cells #[.int .i64 0, .int .i64 0, .bool false, .bool false, .int .i64 0] 28 (0, 0)) (kA BK139.out) hb)
            have n5_ := Aside0.mk (below_step (kB HB.out) hb)
            clear HO122
            clear BK123
            clear BK124
            clear BK139
            clear HB
            have HO122 := n0_
            have HO137 := n1_
            have BK123 := n2_
            have BK124 := n3_
            have BK139 := n4_
            have HB := n5_
            clear n0_ n1_ n2_ n3_ n4_ n5_
            (try clear hb)
            (try clear hb2)
            (try clear hk)
            (try clear hi)
            (try clear ho0)
            refine hK.out _ _ ⟨(blk_cell BK123.out 0).trans rfl, (blk_cell BK123.out 1).trans rfl, (blk_cell BK124.out 0).trans rfl, (blk_cell BK124.out 1).trans rfl, (blk_cell BK124.out 2).trans rfl⟩ (fun hHeld => ?_)
            clear hK K
            refine norm_ (a' := ?_) ?_ ?_
            rotate_left
            ·show Act.put _ (some 20) _ = _
             simp only [Act.put, q1_, q2_, q3_, i64_w, i32_w]
             rfl
            refine pure_ (i := 5) (N := some 15) (v := ?_) (a' := ?_) #[Y,Y,Y,Y,Y,Y,Z,Z,Z,Y,Z,Z,Z] rfl rfl (any_of HT_.out (by kernel_rfl)) (fun _ _ _ h => h) (Or.inl ⟨by rfl, ?_⟩) ?_ ?_
            rotate_left
            ·intro w';go_simp;with_reducible rfl
            rotate_left
            ·simp only [Act.put, q1_, q2_, q3_, i64_w, i32_w];rfl
            refine pure_ (i := 6) (N := some 21) (v := ?_) (a' := ?_) #[Y,Y,Y,Y,Y,Y,Y,Z,Z,Y,Z,Z,Z] rfl rfl (any_of HT_.out (by kernel_rfl)) (fun _ _ _ h => h) (Or.inl ⟨by rfl, ?_⟩) ?_ ?_
            rotate_left
            ·intro w';go_simp;with_reducible rfl
            rotate_left
            ·simp only [Act.put, q1_, q2_, q3_, i64_w, i32_w];rfl
            refine pure_ (i := 7) (N := some 22) (v := ?_) (a' := ?_) #[Y,Y,Y,Y,Y,Y,Y,Y,Z,Y,Z,Z,Z] rfl rfl (any_of HT_.out (by kernel_rfl)) (fun _ _ _ h => h) (Or.inl ⟨by rfl, ?_⟩) ?_ ?_
            rotate_left
            ·intro w';go_simp;with_reducible rfl
            rotate_left
            ·simp only [Act.put, q1_, q2_, q3_, i64_w, i32_w];rfl
            refine pure_ (i := 8) (N := some 23) (v := ?_) (a' := ?_) #[Y,Y,Y,Y,Y,Y,Y,Y,Y,Y,Z,Z,Z] rfl rfl (any_of HT_.out (by kernel_rfl)) (fun _ _ _ h => h) (Or.inl ⟨by rfl, ?_⟩) ?_ ?_
            rotate_left
            ·intro w';go_simp;with_reducible rfl
            rotate_left
            ·simp only [Act.put, q1_, q2_, q3_, i64_w, i32_w];rfl
            exact norm_ (by simp only [putAll, Act.put, q1_, q2_, q3_]) (hCont (v136, gb139) _ ⟨hHeld, (kR HO122.out), (kR HO137.out), (kA BK123.out), (kA BK124.out), (kA BK139.out), GW139.out, GE139.out, NB123_139.out, NB139_123.out, NB124_139.out, NB139_124.out, (kB HB.out)⟩)
          ·skip
           refine box_step ?hg (N := 3) ?hd (cs := #[.int .i64 0, .int .i64 0, .bool false, .bool false, .int .i64 0]) (t := 28) ?hr ?_; (case hd => rfl); (case hg => rfl); (case hr => first | (go_simp; done) | (go_simp; rfl))
           intro gb139 hg w27 hbox hb
           have n0_ := Aside0.mk (Kd.R_below (kR HO122.out) hb)
           have n1_ := Aside0.mk (blk_below (g := gb123) (o := .cells #[.int .i64 2, .slice Ao19 y120.length co19] 24 (0, 0)) (kA BK123.out) hb)
           have n2_ := Aside0.mk (blk_below (g := gb124) (o := .cells #[.string (⟨#[115, 115, 115, 112]⟩ : ByteArray), .int .i64 0, .int .i64 3] 26 (0, 0)) (kA BK124.out) hb)
           have n3_ := Aside0.mk (below_step (kB HB.out) hb)
           have n4_ := Aside0.mk (hbox)
           have n5_ := Aside0.mk ((by rw [hg]; exact (below_size (kB HB.out)) : w.heap.size ≤ gb139))
           have n6_ := Aside0.mk ((by rw [hg]; exact (below_size (kB HB.out)) : w.heap.size ≤ gb139))
           have n7_ := Aside0.mk ((by rw [hg]; exact Nat.ne_of_lt (blk_lt (g := gb123) (o := .cells #[.int .i64 2, .slice Ao19 y120.length co19] 24 (0, 0)) (kA BK123.out)) : gb123 ≠ gb139))
           have n8_ := Aside0.mk ((by rw [hg]; exact Nat.ne_of_gt (blk_lt (g := gb123) (o := .cells #[.int .i64 2, .slice Ao19 y120.length co19] 24 (0, 0)) (kA BK123.out)) : gb139 ≠ gb123))
           have n9_ := Aside0.mk ((by rw [hg]; exact Nat.ne_of_lt (blk_lt (g := gb124) (o := .cells #[.string (⟨#[115, 115, 115, 112]⟩ : ByteArray), .int .i64 0, .int .i64 3] 26 (0, 0)) (kA BK124.out)) : gb124 ≠ gb139))
           have n10_ := Aside0.mk ((by rw [hg]; exact Nat.ne_of_gt (blk_lt (g := gb124) (o := .cells #[.string (⟨#[115, 115, 115, 112]⟩ : ByteArray), .int .i64 0, .int .i64 3] 26 (0, 0)) (kA BK124.out)) : gb139 ≠ gb124))
           clear HO122
           clear BK123
           clear BK124
           clear HB
           have HO122 := n0_
           have BK123 := n1_
           have BK124 := n2_
           have HB := n3_
           have BK139 := n4_
           have GW139 := n5_
           have GE139 := n6_
           have NB123_139 := n7_
           have NB139_123 := n8_
           have NB124_139 := n9_
           have NB139_124 := n10_
           clear n0_ n1_ n2_ n3_ n4_ n5_ n6_ n7_ n8_ n9_ n10_
           clear hb hbox hg
           refine hK.out _ _ ⟨(blk_cell BK123.out 0).trans rfl, (blk_cell BK123.out 1).trans rfl, (blk_cell BK124.out 0).trans rfl, (blk_cell BK124.out 1).trans rfl, (blk_cell BK124.out 2).trans rfl⟩ (fun hHeld => ?_)
           clear hK K
           refine norm_ (a' := ?_) ?_ ?_
           rotate_left
           ·show Act.put _ (some 3) _ = _
            simp only [Act.put, q1_, q2_, q3_, i64_w, i32_w]
            rfl
           refine one_ (i := 3) (N := some 19) #[Y,Y,Y,Y,Z,Z,Z,Z,Z,Y,Z,Z,Z] rfl rfl (one_of HT_.out (by kernel_rfl)) (by decide) (fun K hK => ?_)
           refine goes_ Try.func17 (by kernel_rfl) rfl #[.agg #[.string (⟨#[115, 115, 115, 112]⟩ : ByteArray), .int .i64 0, .int .i64 3], .int .i64 0] (by rfl) rfl rfl (by (try simp only [List.map_toArray, List.map_cons, List.map_nil]); first | done | rfl | (simp only [List.length_drop, List.length_take]; rfl)) ?_
           with_reducible refine (prog_First.calls (⟨#[115, 115, 115, 112]⟩ : ByteArray) 0 3 0 t125 t126 t127 t128 t129 _ A1.out).mono ?_
           rintro e w28 ⟨rfl, hb⟩
           refine ⟨_, rfl, ?_⟩
           have n0_ := Aside0.mk (Kd.R_below (kR HO122.out) hb)
           have n1_ := Aside0.mk (blk_below (g := gb123) (o := .cells #[.int .i64 2, .slice Ao19 y120.length co19] 24 (0, 0)) (kA BK123.out) hb)
           have n2_ := Aside0.mk (blk_below (g := gb124) (o := .cells #[.string (⟨#[115, 115, 115, 112]⟩ : ByteArray), .int .i64 0, .int .i64 3] 26 (0, 0)) (kA BK124.out) hb)
           have n3_ := Aside0.mk (blk_below (g := gb139) (o := .cells #[.int .i64 0, .int .i64 0, .bool false, .bool false, .int .i64 0] 28 (0, 0)) (kA BK139.out) hb)
           have n4_ := Aside0.mk (below_step (kB HB.out) hb)
           clear HO122
           clear BK123
           clear BK124
           clear BK139
           clear HB
           have HO122 := n0_
           have BK123 := n1_
           have BK124 := n2_
           have BK139 := n3_
           have HB := n4_
           clear n0_ n1_ n2_ n3_ n4_
           (try clear hb)
           (try clear hb2)
           (try clear hk)
           (try clear hi)
           refine hK.out _ _ ⟨(blk_cell BK123.out 0).trans rfl, (blk_cell BK123.out 1).trans rfl, (blk_cell BK124.out 0).trans rfl, (blk_cell BK124.out 1).trans rfl, (blk_cell BK124.out 2).trans rfl⟩ (fun hHeld => ?_)
           clear hK K
           refine norm_ (a' := ?_) ?_ ?_
           rotate_left
           ·show Act.put _ (some 19) _ = _
            simp only [Act.put, q1_, q2_, q3_, i64_w, i32_w]
            rfl
           refine one_ (i := 4) (N := some 20) #[Y,Y,Y,Y,Y,Z,Z,Z,Z,Y,Z,Z,Z] rfl rfl (one_of HT_.out (by kernel_rfl)) (by decide) (fun K hK => ?_)
           refine goes_ Try.func12 (by kernel_rfl) rfl #[.agg #[.int .i64 2, .slice Ao19 y120.length co19], .agg #[.string (⟨#[115, 115, 115, 112]⟩ : ByteArray), .int .i64 0, .int .i64 3], .int .i64 0, .agg #[.int .i64 t125, .int .i64 t126, .bool t127, .bool t128, .int .i64 t129]] (by rfl) rfl rfl (by (try simp only [List.map_toArray, List.map_cons, List.map_nil]); first | done | rfl | (simp only [List.length_drop, List.length_take]; rfl)) ?_
           with_reducible refine (prog_Step.calls 2 _ _ y120 (⟨#[115, 115, 115, 112]⟩ : ByteArray) 0 3 0 t125 t126 t127 t128 t129 t130 t131 t132 t133 t134 t135 t138 _ ?side1 ?side2 A2.out).mono ?_
           (case side1 => repeat (first | exact (Kd.R_reads' HO122.out).2.2 | (with_reducible refine Kd.C_alloc ?_ _) | (with_reducible refine Kd.C_drewN ?_ _) | (with_reducible refine Kd.C_drew ?_)))
           (case side2 => exact (Kd.R_reads' HO122.out).2.1)
           rintro e w29 ⟨v136, rfl, ho0, hb⟩
           refine ⟨_, rfl, ?_⟩
           have n0_ := Aside0.mk (Kd.R_below (kR HO122.out) hb)
           have n1_ := Aside0.mk (Kd.R_lower ho0 (below_size (kB HB.out)))
           have n2_ := Aside0.mk (blk_below (g := gb123) (o := .cells #[.int .i64 2, .slice Ao19 y120.length co19] 24 (0, 0)) (kA BK123.out) hb)
           have n3_ := Aside0.mk (blk_below (g := gb124) (o := .cells #[.string (⟨#[115, 115, 115, 112]⟩ : ByteArray), .int .i64 0, .int .i64 3] 26 (0, 0)) (kA BK124.out) hb)
           have n4_ := Aside0.mk (blk_below (g := gb139) (o := .cells #[.int .i64 0, .int .i64 0, .bool false, .bool false, .int .i64 0] 28 (0, 0)) (kA BK139.out) hb)
           have n5_ := Aside0.mk (below_step (kB HB.out) hb)
           clear HO122
           clear BK123
           clear BK124
           clear BK139
           clear HB
           have HO122 := n0_
           have HO137 := n1_
           have BK123 := n2_
           have BK124 := n3_
           have BK139 := n4_
           have HB := n5_
           clear n0_ n1_ n2_ n3_ n4_ n5_
           (try clear hb)
           (try clear hb2)
           (try clear hk)
           (try clear hi)
           (try clear ho0)
           refine hK.out _ _ ⟨(blk_cell BK123.out 0).trans rfl, (blk_cell BK123.out 1).trans rfl, (blk_cell BK124.out 0).trans rfl, (blk_cell BK124.out 1).trans rfl, (blk_cell BK124.out 2).trans rfl⟩ (fun hHeld => ?_)
           clear hK K
           refine norm_ (a' := ?_) ?_ ?_
           rotate_left
           ·show Act.put _ (some 20) _ = _
            simp only [Act.put, q1_, q2_, q3_, i64_w, i32_w]
            rfl
           refine pure_ (i := 5) (N := some 15) (v := ?_) (a' := ?_) #[Y,Y,Y,Y,Y,Y,Z,Z,Z,Y,Z,Z,Z] rfl rfl (any_of HT_.out (by kernel_rfl)) (fun _ _ _ h => h) (Or.inl ⟨by rfl, ?_⟩) ?_ ?_
           rotate_left
           ·intro w';go_simp;with_reducible rfl
           rotate_left
           ·simp only [Act.put, q1_, q2_, q3_, i64_w, i32_w];rfl
           refine pure_ (i := 6) (N := some 21) (v := ?_) (a' := ?_) #[Y,Y,Y,Y,Y,Y,Y,Z,Z,Y,Z,Z,Z] rfl rfl (any_of HT_.out (by kernel_rfl)) (fun _ _ _ h => h) (Or.inl ⟨by rfl, ?_⟩) ?_ ?_
           rotate_left
           ·intro w';go_simp;with_reducible rfl
           rotate_left
           ·simp only [Act.put, q1_, q2_, q3_, i64_w, i32_w];rfl
           refine pure_ (i := 7) (N := some 22) (v := ?_) (a' := ?_) #[Y,Y,Y,Y,Y,Y,Y,Y,Z,Y,Z,Z,Z] rfl rfl (any_of HT_.out (by kernel_rfl)) (fun _ _ _ h => h) (Or.inl ⟨by rfl, ?_⟩) ?_ ?_
           rotate_left
           ·intro w';go_simp;with_reducible rfl
           rotate_left
           ·simp only [Act.put, q1_, q2_, q3_, i64_w, i32_w];rfl
           refine pure_ (i := 8) (N := some 23) (v := ?_) (a' := ?_) #[Y,Y,Y,Y,Y,Y,Y,Y,Y,Y,Z,Z,Z] rfl rfl (any_of HT_.out (by kernel_rfl)) (fun _ _ _ h => h) (Or.inl ⟨by rfl, ?_⟩) ?_ ?_
           rotate_left
           ·intro w';go_simp;with_reducible rfl
           rotate_left
           ·simp only [Act.put, q1_, q2_, q3_, i64_w, i32_w];rfl
           exact norm_ (by simp only [putAll, Act.put, q1_, q2_, q3_]) (hCont (v136, gb139) _ ⟨hHeld, (kR HO122.out), (kR HO137.out), (kA BK123.out), (kA BK124.out), (kA BK139.out), GW139.out, GE139.out, NB123_139.out, NB139_123.out, NB124_139.out, NB139_124.out, (kB HB.out)⟩)
         rintro ⟨v136, gb139⟩ w30 ⟨hS_, h0_, h1_, h2_, h3_, h4_, h5_, h6_, h7_, h8_, h9_, h10_, h11_⟩
         have n0_ : Aside0 (Kd.R k46 46 w30 w.heap.size (fun _ => True) (.slice Ao19 y120.length co19) y120) := ⟨h0_⟩
         have n1_ : Aside0 (Kd.R k48 48 w30 w.heap.size (fun _ => True) v136 t135) := ⟨h1_⟩
         have n2_ : Aside0 (w30.heap[gb123]? = some (.cells #[.int .i64 2, .slice Ao19 y120.length co19] 24 (0, 0))) := ⟨h2_⟩
         have n3_ : Aside0 (w30.heap[gb124]? = some (.cells #[.string (⟨#[115, 115, 115, 112]⟩ : ByteArray), .int .i64 0, .int .i64 3] 26 (0, 0))) := ⟨h3_⟩
         have n4_ : Aside0 (w30.heap[gb139]? = some (.cells #[.int .i64 0, .int .i64 0, .bool false, .bool false, .int .i64 0] 28 (0, 0))) := ⟨h4_⟩
         have n5_ : Aside0 (w.heap.size ≤ gb139) := ⟨h5_⟩
         have n6_ : Aside0 (w.heap.size ≤ gb139) := ⟨h6_⟩
         have n7_ : Aside0 (gb123 ≠ gb139) := ⟨h7_⟩
         have n8_ : Aside0 (gb139 ≠ gb123) := ⟨h8_⟩
         have n9_ : Aside0 (gb124 ≠ gb139) := ⟨h9_⟩
         have n10_ : Aside0 (gb139 ≠ gb124) := ⟨h10_⟩
         have n11_ : Aside0 (Below w.heap.size w w30) := ⟨h11_⟩
         clear HO122
         clear BK123
         clear BK124
         clear HB
         clear h0_ h1_ h2_ h3_ h4_ h5_ h6_ h7_ h8_ h9_ h10_ h11_
         have HO122 := n0_
         have HO137 := n1_
         have BK123 := n2_
         have BK124 := n3_
         have BK139 := n4_
         have GW139 := n5_
         have GE139 := n6_
         have NB123_139 := n7_
         have NB139_123 := n8_
         have NB124_139 := n9_
         have NB139_124 := n10_
         have HB := n11_
         clear n0_ n1_ n2_ n3_ n4_ n5_ n6_ n7_ n8_ n9_ n10_ n11_
         have hHeld : w30.cell? ⟨gb123, 0, none⟩ = some (.int .i64 2) ∧ w30.cell? ⟨gb123, 1, none⟩ = some (.slice Ao19 y120.length co19) ∧ w30.cell? ⟨gb124, 0, none⟩ = some (.string (⟨#[115, 115, 115, 112]⟩ : ByteArray)) ∧ w30.cell? ⟨gb124, 1, none⟩ = some (.int .i64 0) ∧ w30.cell? ⟨gb124, 2, none⟩ = some (.int .i64 3) := hS_
         refine norm_ (a' := ?_) ?_ ?_
         rotate_left
         ·simp only [putAll, Act.put, q1_, q2_, q3_]
          rfl
         refine one_ (i := 10) (N := none) #[Y,Y,Y,Y,Y,Y,Y,Y,Y,Y,Y,Z,Z] rfl rfl (one_of HT_.out (by kernel_rfl)) (by decide) (fun K hK => ?_)
         have hs31 : w30.cell? ⟨gb139, 0, none⟩ = some (.int .i64 0) := (blk_cell BK139.out 0).trans rfl
         have hfs31 := blk_frozen BK139.out 0
         have hns31_0 := NB123_139.out
         have hns31_1 := NB124_139.out
         have hms31_0 := NB139_123.out
         have hms31_1 := NB139_124.out
         have hs32 : w30.cell? ⟨gb139, 1, none⟩ = some (.int .i64 0) := (blk_cell BK139.out 1).trans rfl
         have hfs32 := blk_frozen BK139.out 1
         have hns32_0 := NB123_139.out
         have hns32_1 := NB124_139.out
         have hms32_0 := NB139_123.out
         have hms32_1 := NB139_124.out
         have hs33 : w30.cell? ⟨gb139, 2, none⟩ = some (.bool false) := (blk_cell BK139.out 2).trans rfl
         have hfs33 := blk_frozen BK139.out 2
         have hns33_0 := NB123_139.out
         have hns33_1 := NB124_139.out
         have hms33_0 := NB139_123.out
         have hms33_1 := NB139_124.out
         have hs34 : w30.cell? ⟨gb139, 3, none⟩ = some (.bool false) := (blk_cell BK139.out 3).trans rfl
         have hfs34 := blk_frozen BK139.out 3
         have hns34_0 := NB123_139.out
         have hns34_1 := NB124_139.out
         have hms34_0 := NB139_123.out
         have hms34_1 := NB139_124.out
         have hs35 : w30.cell? ⟨gb139, 4, none⟩ = some (.int .i64 0) := (blk_cell BK139.out 4).trans rfl
         have hfs35 := blk_frozen BK139.out 4
         have hns35_0 := NB123_139.out
         have hns35_1 := NB124_139.out
         have hms35_0 := NB139_123.out
         have hms35_1 := NB139_124.out
         refine skip_ (w1 := ?_) (by rfl) rfl ?_ ?_
         rotate_left
         ·go_simp
          rfl
         refine hK.out _ _ ⟨((cell_far (p := ⟨gb139, _, none⟩) NB123_139.out _).trans (((cell_far (p := ⟨gb139, _, none⟩) NB123_139.out _).trans (((cell_far (p := ⟨gb139, _, none⟩) NB123_139.out _).trans (((cell_far (p := ⟨gb139, _, none⟩) NB123_139.out _).trans (((cell_far (p := ⟨gb139, _, none⟩) NB123_139.out _).trans (hHeld.1)))))))))), ((cell_far (p := ⟨gb139, _, none⟩) NB123_139.out _).trans (((cell_far (p := ⟨gb139, _, none⟩) NB123_139.out _).trans (((cell_far (p := ⟨gb139, _, none⟩) NB123_139.out _).trans (((cell_far (p := ⟨gb139, _, none⟩) NB123_139.out _).trans (((cell_far (p := ⟨gb139, _, none⟩) NB123_139.out _).trans (hHeld.2.1)))))))))), ((cell_far (p := ⟨gb139, _, none⟩) NB124_139.out _).trans (((cell_far (p := ⟨gb139, _, none⟩) NB124_139.out _).trans (((cell_far (p := ⟨gb139, _, none⟩) NB124_139.out _).trans (((cell_far (p := ⟨gb139, _, none⟩) NB124_139.out _).trans (((cell_far (p := ⟨gb139, _, none⟩) NB124_139.out _).trans (hHeld.2.2.1)))))))))), ((cell_far (p := ⟨gb139, _, none⟩) NB124_139.out _).trans (((cell_far (p := ⟨gb139, _, none⟩) NB124_139.out _).trans (((cell_far (p := ⟨gb139, _, none⟩) NB124_139.out _).trans (((cell_far (p := ⟨gb139, _, none⟩) NB124_139.out _).trans (((cell_far (p := ⟨gb139, _, none⟩) NB124_139.out _).trans (hHeld.2.2.2.1)))))))))), ((cell_far (p := ⟨gb139, _, none⟩) NB124_139.out _).trans (((cell_far (p := ⟨gb139, _, none⟩) NB124_139.out _).trans (((cell_far (p := ⟨gb139, _, none⟩) NB124_139.out _).trans (((cell_far (p := ⟨gb139, _, none⟩) NB124_139.out _).trans (((cell_far (p := ⟨gb139, _, none⟩) NB124_139.out _).trans (hHeld.2.2.2.2))))))))))⟩ (fun hHeld => ?_)
         clear hK K
         refine pure_ (i := 11) (N := some 4) (v := ?_) (a' := ?_) #[Y,Y,Y,Y,Y,Y,Y,Y,Y,Y,Y,Y,Z] rfl rfl (any_of HT_.out (by kernel_rfl)) (fun _ _ _ h => h) (Or.inl ⟨by rfl, ?_⟩) ?_ ?_
         rotate_left
         ·intro w';go_simp;with_reducible rfl
         rotate_left
         ·simp only [Act.put, q1_, q2_, q3_, i64_w, i32_w];rfl
         refine pure_ (i := 12) (N := some 5) (v := ?_) (a' := ?_) #[Y,Y,Y,Y,Y,Y,Y,Y,Y,Y,Y,Y,Y] rfl rfl (any_of HT_.out (by kernel_rfl)) (fun _ _ _ h => h) (Or.inl ⟨by rfl, ?_⟩) ?_ ?_
         rotate_left
         ·intro w';go_simp;with_reducible rfl
         rotate_left
         ·simp only [Act.put, q1_, q2_, q3_, i64_w, i32_w];rfl
         refine done_ (done_of HT_.out (by kernel_rfl)) ?_
         have hnb36 := NB123_139.out
         have hnc36 := NB139_123.out
         have hcz37_0 : w30.cell? ⟨gb123, 0, none⟩ = some (.int .i64 2) := (blk_cell BK123.out 0).trans rfl
         have hcz37_1 : w30.cell? ⟨gb123, 1, none⟩ = some (.slice Ao19 y120.length co19) := (blk_cell BK123.out 1).trans rfl
         have hfz37_0 := blk_frozen BK123.out 0
         have hfz37_1 := blk_frozen BK123.out 1
         have hnb38 := NB124_139.out
         have hnc38 := NB139_124.out
         have hcz39_0 : w30.cell? ⟨gb124, 0, none⟩ = some (.string (⟨#[115, 115, 115, 112]⟩ : ByteArray)) := (blk_cell BK124.out 0).trans rfl
         have hcz39_1 : w30.cell? ⟨gb124, 1, none⟩ = some (.int .i64 0) := (blk_cell BK124.out 1).trans rfl
         have hcz39_2 : w30.cell? ⟨gb124, 2, none⟩ = some (.int .i64 3) := (blk_cell BK124.out 2).trans rfl
         have hfz39_0 := blk_frozen BK124.out 0
         have hfz39_1 := blk_frozen BK124.out 1
         have hfz39_2 := blk_frozen BK124.out 2
         try go_wp2_with (first | ((with_reducible refine gate_callee (f := 12) rfl ?_); refine goesL_ (some 28) rfl rfl Try.func12 (by kernel_rfl) rfl #[.agg #[.int .i64 2, .slice Ao19 y120.length co19], .agg #[.string (⟨#[115, 115, 115, 112]⟩ : ByteArray), .int .i64 0, .int .i64 3], .int .i64 1, .agg #[.int .i64 1, .int .i64 (-1), .bool false, .bool true, .int .i64 5]] rfl (by (try simp only [List.map_toArray, List.map_cons, List.map_nil]); first | done | rfl | (simp only [List.length_drop, List.length_take]; rfl)) ?_; (with_reducible refine (prog_Step.calls 2 _ _ y120 (⟨#[115, 115, 115, 112]⟩ : ByteArray) 0 3 1 1 (-1) false true 5 t140 t141 t142 t143 t144 t145 t148 _ ?side1 ?side2 A3.out).mono ?_); (case side1 => refine (Kd.R_reads' (e := 46) (base := w.heap.size) (ok := fun k_ => True) (n := y120.length) (c := co19) ?_).2.2; exact (by (with_reducible repeat (first | apply Kd.R_alloc | apply Kd.R_drewN | apply Kd.R_drew)); exact (Kd.R_mono (Kd.R_far (p := ⟨gb139, 4, none⟩) (Kd.R_far (p := ⟨gb139, 3, none⟩) (Kd.R_far (p := ⟨gb139, 2, none⟩) (Kd.R_far (p := ⟨gb139, 1, none⟩) (Kd.R_far (p := ⟨gb139, 0, none⟩) (Kd.R_types HO122.out BK139.out (by decide)) (fun _ hk => hk.2) (.int .i64 t130)) (fun _ hk => hk.2) (.int .i64 t131)) (fun _ hk => hk.2) (.bool t132)) (fun _ hk => hk.2) (.bool t133)) (fun _ hk => hk.2) (.int .i64 t134)) (fun _ h_ => h_.1)))); (case side2 => exact (Kd.R_reads' HO122.out).2.1); rintro e w40 ⟨v146, rfl, ho0, hb⟩; refine ⟨_, rfl, ?_⟩; have n0_ := Aside0.mk (Kd.R_below (by (with_reducible repeat (first | apply Kd.R_alloc | apply Kd.R_drewN | apply Kd.R_drew)); exact (Kd.R_mono (Kd.R_far (p := ⟨gb139, 4, none⟩) (Kd.R_far (p := ⟨gb139, 3, none⟩) (Kd.R_far (p := ⟨gb139, 2, none⟩) (Kd.R_far (p := ⟨gb139, 1, none⟩) (Kd.R_far (p := ⟨gb139, 0, none⟩) (Kd.R_types HO122.out BK139.out (by decide)) (fun _ hk => hk.2) (.int .i64 t130)) (fun _ hk => hk.2) (.int .i64 t131)) (fun _ hk => hk.2) (.bool t132)) (fun _ hk => hk.2) (.bool t133)) (fun _ hk => hk.2) (.int .i64 t134)) (fun _ h_ => h_.1))) hb); have n1_ := Aside0.mk (Kd.R_elder' (by (with_reducible repeat (first | apply Kd.R_alloc | apply Kd.R_drewN | apply Kd.R_drew)); exact (Kd.R_mono (Kd.R_far (p := ⟨gb139, 4, none⟩) (Kd.R_far (p := ⟨gb139, 3, none⟩) (Kd.R_far (p := ⟨gb139, 2, none⟩) (Kd.R_far (p := ⟨gb139, 1, none⟩) (Kd.R_far (p := ⟨gb139, 0, none⟩) (Kd.R_types HO137.out BK139.out (by decide)) (fun _ hk => hk.2) (.int .i64 t130)) (fun _ hk => hk.2) (.int .i64 t131)) (fun _ hk => hk.2) (.bool t132)) (fun _ hk => hk.2) (.bool t133)) (fun _ hk => hk.2) (.int .i64 t134)) (fun _ h_ => h_.1))) (Kd.R_base ho0) hb); have n2_ := Aside0.mk (Kd.R_lower (Kd.R_new' ho0 (Kd.R_lt (by (with_reducible repeat (first | apply Kd.R_alloc | apply Kd.R_drewN | apply Kd.R_drew)); exact (Kd.R_mono (Kd.R_far (p := ⟨gb139, 4, none⟩) (Kd.R_far (p := ⟨gb139, 3, none⟩) (Kd.R_far (p := ⟨gb139, 2, none⟩) (Kd.R_far (p := ⟨gb139, 1, none⟩) (Kd.R_far (p := ⟨gb139, 0, none⟩) (Kd.R_types HO137.out BK139.out (by decide)) (fun _ hk => hk.2) (.int .i64 t130)) (fun _ hk => hk.2) (.int .i64 t131)) (fun _ hk => hk.2) (.bool t132)) (fun _ hk => hk.2) (.bool t133)) (fun _ hk => hk.2) (.int .i64 t134)) (fun _ h_ => h_.1))))) (below_size (kB HB.out))); have n3_ := Aside0.mk (blk_below (g := gb123) (o := .cells #[.int .i64 2, .slice Ao19 y120.length co19] 24 (0, 0)) (kF NB123_139.out BK123.out) hb); have n4_ := Aside0.mk (blk_below (g := gb124) (o := .cells #[.string (⟨#[115, 115, 115, 112]⟩ : ByteArray), .int .i64 0, .int .i64 3] 26 (0, 0)) (kF NB124_139.out BK124.out) hb); have n5_ := Aside0.mk (blk_below (g := gb139) (o := .cells #[.int .i64 t130, .int .i64 t131, .bool t132, .bool t133, .int .i64 t134] 28 (0, 0)) (by (with_reducible repeat (first | refine blk_drewN ?_ _ | refine blk_drew ?_ | refine blk_alloc ?_ _)); refine blk_put (cs := #[.int .i64 t130, .int .i64 t131, .bool t132, .bool t133, .int .i64 0]) ?_ 4 _ rfl; refine blk_put (cs := #[.int .i64 t130, .int .i64 t131, .bool t132, .bool false, .int .i64 0]) ?_ 3 _ rfl; refine blk_put (cs := #[.int .i64 t130, .int .i64 t131, .bool false, .bool false, .int .i64 0]) ?_ 2 _ rfl; refine blk_put (cs := #[.int .i64 t130, .int .i64 0, .bool false, .bool false, .int .i64 0]) ?_ 1 _ rfl; refine blk_put (cs := #[.int .i64 0, .int .i64 0, .bool false, .bool false, .int .i64 0]) ?_ 0 _ rfl; exact kA BK139.out) hb); have n6_ := Aside0.mk (below_step (kB HB.out) hb); clear HO122; clear HO137; clear BK123; clear BK124; clear BK139; clear HB; have HO122 := n0_; have HO137 := n1_; have HO147 := n2_; have BK123 := n3_; have BK124 := n4_; have BK139 := n5_; have HB := n6_; clear n0_ n1_ n2_ n3_ n4_ n5_ n6_; (try clear hb); (try clear hb2); (try clear hk); (try clear hi); (try clear ho0)) | ((with_reducible refine gate_dst (N := 6) rfl ?_); (try (refine gate_guard (by rfl) ?_; dsimp only)); refine box_event ?hg (N := 6) ?hd (cs := #[.int .i64 0, .int .i64 0, .bool false, .bool false, .int .i64 0]) (t := 28) ?hr ?_; (case hd => rfl); (case hg => rfl); (case hr => first | (go_simp; done) | (go_simp; rfl)); intro gb149 hg w41 hbox hb; have n0_ := Aside0.mk (Kd.R_below (kR HO122.out) hb); have n1_ := Aside0.mk (Kd.R_below (kR HO137.out) hb); have n2_ := Aside0.mk (Kd.R_below (kR HO147.out) hb); have n3_ := Aside0.mk (blk_below (g := gb123) (o := .cells #[.int .i64 2, .slice Ao19 y120.length co19] 24 (0, 0)) (kA BK123.out) hb); have n4_ := Aside0.mk (blk_below (g := gb124) (o := .cells #[.string (⟨#[115, 115, 115, 112]⟩ : ByteArray), .int .i64 0, .int .i64 3] 26 (0, 0)) (kA BK124.out) hb); have n5_ := Aside0.mk (blk_below (g := gb139) (o := .cells #[.int .i64 t130, .int .i64 t131, .bool t132, .bool t133, .int .i64 t134] 28 (0, 0)) (kA BK139.out) hb); have n6_ := Aside0.mk (below_step (kB HB.out) hb); have n7_ := Aside0.mk (hbox); have n8_ := Aside0.mk ((by rw [hg]; exact (below_size (kB HB.out)) : w.heap.size ≤ gb149)); have n9_ := Aside0.mk ((by rw [hg]; exact (below_size (kB HB.out)) : w.heap.size ≤ gb149)); have n10_ := Aside0.mk ((by rw [hg]; exact Nat.ne_of_lt (blk_lt (g := gb123) (o := .cells #[.int .i64 2, .slice Ao19 y120.length co19] 24 (0, 0)) (kA BK123.out)) : gb123 ≠ gb149)); have n11_ := Aside0.mk ((by rw [hg]; exact Nat.ne_of_gt (blk_lt (g := gb123) (o := .cells #[.int .i64 2, .slice Ao19 y120.length co19] 24 (0, 0)) (kA BK123.out)) : gb149 ≠ gb123)); have n12_ := Aside0.mk ((by rw [hg]; exact Nat.ne_of_lt (blk_lt (g := gb124) (o := .cells #[.string (⟨#[115, 115, 115, 112]⟩ : ByteArray), .int .i64 0, .int .i64 3] 26 (0, 0)) (kA BK124.out)) : gb124 ≠ gb149)); have n13_ := Aside0.mk ((by rw [hg]; exact Nat.ne_of_gt (blk_lt (g := gb124) (o := .cells #[.string (⟨#[115, 115, 115, 112]⟩ : ByteArray), .int .i64 0, .int .i64 3] 26 (0, 0)) (kA BK124.out)) : gb149 ≠ gb124)); have n14_ := Aside0.mk ((by rw [hg]; exact Nat.ne_of_lt (blk_lt (g := gb139) (o := .cells #[.int .i64 t130, .int .i64 t131, .bool t132, .bool t133, .int .i64 t134] 28 (0, 0)) (kA BK139.out)) : gb139 ≠ gb149)); have n15_ := Aside0.mk ((by rw [hg]; exact Nat.ne_of_gt (blk_lt (g := gb139) (o := .cells #[.int .i64 t130, .int .i64 t131, .bool t132, .bool t133, .int .i64 t134] 28 (0, 0)) (kA BK139.out)) : gb149 ≠ gb139)); clear HO122; clear HO137; clear HO147; clear BK123; clear BK124; clear BK139; clear HB; have HO122 := n0_; have HO137 := n1_; have HO147 := n2_; have BK123 := n3_; have BK124 := n4_; have BK139 := n5_; have HB := n6_; have BK149 := n7_; have GW149 := n8_; have GE149 := n9_; have NB123_149 := n10_; have NB149_123 := n11_; have NB124_149 := n12_; have NB149_124 := n13_; have NB139_149 := n14_; have NB149_139 := n15_; clear n0_ n1_ n2_ n3_ n4_ n5_ n6_ n7_ n8_ n9_ n10_ n11_ n12_ n13_ n14_ n15_; clear hb hbox hg; have hnb42 := NB149_123.out; have hnc42 := NB123_149.out; have hnb43 := NB149_124.out; have hnc43 := NB124_149.out; have hnb44 := NB149_139.out; have hnc44 := NB139_149.out; have hcz45_0 : w41.cell? ⟨gb149, 0, none⟩ = some (.int .i64 0) := (blk_cell BK149.out 0).trans rfl; have hcz45_1 : w41.cell? ⟨gb149, 1, none⟩ = some (.int .i64 0) := (blk_cell BK149.out 1).trans rfl; have hcz45_2 : w41.cell? ⟨gb149, 2, none⟩ = some (.bool false) := (blk_cell BK149.out 2).trans rfl; have hcz45_3 : w41.cell? ⟨gb149, 3, none⟩ = some (.bool false) := (blk_cell BK149.out 3).trans rfl; have hcz45_4 : w41.cell? ⟨gb149, 4, none⟩ = some (.int .i64 0) := (blk_cell BK149.out 4).trans rfl; have hfz45_0 := blk_frozen BK149.out 0; have hfz45_1 := blk_frozen BK149.out 1; have hfz45_2 := blk_frozen BK149.out 2; have hfz45_3 := blk_frozen BK149.out 3; have hfz45_4 := blk_frozen BK149.out 4) | ((with_reducible refine gate_callee (f := 21) rfl ?_); refine goesL_ (some 33) rfl rfl Try.func21 (by kernel_rfl) rfl #[.string (⟨#[109, 97, 120]⟩ : ByteArray), .int .i64 3, .int .i64 4] rfl (by (try simp only [List.map_toArray, List.map_cons, List.map_nil]); first | done | rfl | (simp only [List.length_drop, List.length_take]; rfl)) ?_; (with_reducible refine (prog_Fold.calls k (⟨#[109, 97, 120]⟩ : ByteArray) 3 4 t150 t151 _ A4.out).mono ?_); rintro e w46 ⟨rfl, hb⟩; refine ⟨_, rfl, ?_⟩; have n0_ := Aside0.mk (Kd.R_below (by (with_reducible repeat (first | apply Kd.R_alloc | apply Kd.R_drewN | apply Kd.R_drew)); exact (Kd.R_mono (Kd.R_far (p := ⟨gb149, 4, none⟩) (Kd.R_far (p := ⟨gb149, 3, none⟩) (Kd.R_far (p := ⟨gb149, 2, none⟩) (Kd.R_far (p := ⟨gb149, 1, none⟩) (Kd.R_far (p := ⟨gb149, 0, none⟩) (Kd.R_types HO122.out BK149.out (by decide)) (fun _ hk => hk.2) (.int .i64 t140)) (fun _ hk => hk.2) (.int .i64 t141)) (fun _ hk => hk.2) (.bool t142)) (fun _ hk => hk.2) (.bool t143)) (fun _ hk => hk.2) (.int .i64 t144)) (fun _ h_ => h_.1))) hb); have n1_ := Aside0.mk (Kd.R_below (by (with_reducible repeat (first | apply Kd.R_alloc | apply Kd.R_drewN | apply Kd.R_drew)); exact (Kd.R_mono (Kd.R_far (p := ⟨gb149, 4, none⟩) (Kd.R_far (p := ⟨gb149, 3, none⟩) (Kd.R_far (p := ⟨gb149, 2, none⟩) (Kd.R_far (p := ⟨gb149, 1, none⟩) (Kd.R_far (p := ⟨gb149, 0, none⟩) (Kd.R_types HO137.out BK149.out (by decide)) (fun _ hk => hk.2) (.int .i64 t140)) (fun _ hk => hk.2) (.int .i64 t141)) (fun _ hk => hk.2) (.bool t142)) (fun _ hk => hk.2) (.bool t143)) (fun _ hk => hk.2) (.int .i64 t144)) (fun _ h_ => h_.1))) hb); have n2_ := Aside0.mk (Kd.R_below (by (with_reducible repeat (first | apply Kd.R_alloc | apply Kd.R_drewN | apply Kd.R_drew)); exact (Kd.R_mono (Kd.R_far (p := ⟨gb149, 4, none⟩) (Kd.R_far (p := ⟨gb149, 3, none⟩) (Kd.R_far (p := ⟨gb149, 2, none⟩) (Kd.R_far (p := ⟨gb149, 1, none⟩) (Kd.R_far (p := ⟨gb149, 0, none⟩) (Kd.R_types HO147.out BK149.out (by decide)) (fun _ hk => hk.2) (.int .i64 t140)) (fun _ hk => hk.2) (.int .i64 t141)) (fun _ hk => hk.2) (.bool t142)) (fun _ hk => hk.2) (.bool t143)) (fun _ hk => hk.2) (.int .i64 t144)) (fun _ h_ => h_.1))) hb); have n3_ := Aside0.mk (blk_below (g := gb123) (o := .cells #[.int .i64 2, .slice Ao19 y120.length co19] 24 (0, 0)) (kF NB123_149.out BK123.out) hb); have n4_ := Aside0.mk (blk_below (g := gb124) (o := .cells #[.string (⟨#[115, 115, 115, 112]⟩ : ByteArray), .int .i64 0, .int .i64 3] 26 (0, 0)) (kF NB124_149.out BK124.out) hb); have n5_ := Aside0.mk (blk_below (g := gb139) (o := .cells #[.int .i64 t130, .int .i64 t131, .bool t132, .bool t133, .int .i64 t134] 28 (0, 0)) (kF NB139_149.out BK139.out) hb); have n6_ := Aside0.mk (blk_below (g := gb149) (o := .cells #[.int .i64 t140, .int .i64 t141, .bool t142, .bool t143, .int .i64 t144] 28 (0, 0)) (by (with_reducible repeat (first | refine blk_drewN ?_ _ | refine blk_drew ?_ | refine blk_alloc ?_ _)); refine blk_put (cs := #[.int .i64 t140, .int .i64 t141, .bool t142, .bool t143, .int .i64 0]) ?_ 4 _ rfl; refine blk_put (cs := #[.int .i64 t140, .int .i64 t141, .bool t142, .bool false, .int .i64 0]) ?_ 3 _ rfl; refine blk_put (cs := #[.int .i64 t140, .int .i64 t141, .bool false, .bool false, .int .i64 0]) ?_ 2 _ rfl; refine blk_put (cs := #[.int .i64 t140, .int .i64 0, .bool false, .bool false, .int .i64 0]) ?_ 1 _ rfl; refine blk_put (cs := #[.int .i64 0, .int .i64 0, .bool false, .bool false, .int .i64 0]) ?_ 0 _ rfl; exact kA BK149.out) hb); have n7_ := Aside0.mk (below_step (kB HB.out) hb); clear HO122; clear HO137; clear HO147; clear BK123; clear BK124; clear BK139; clear BK149; clear HB; have HO122 := n0_; have HO137 := n1_; have HO147 := n2_; have BK123 := n3_; have BK124 := n4_; have BK139 := n5_; have BK149 := n6_; have HB := n7_; clear n0_ n1_ n2_ n3_ n4_ n5_ n6_ n7_; (try clear hb); (try clear hb2); (try clear hk); (try clear hi); have hcz47_0 : w46.cell? ⟨gb123, 0, none⟩ = some (.int .i64 2) := (blk_cell BK123.out 0).trans rfl; have hcz47_1 : w46.cell? ⟨gb123, 1, none⟩ = some (.slice Ao19 y120.length co19) := (blk_cell BK123.out 1).trans rfl; have hfz47_0 := blk_frozen BK123.out 0; have hfz47_1 := blk_frozen BK123.out 1; have hcz48_0 : w46.cell? ⟨gb124, 0, none⟩ = some (.string (⟨#[115, 115, 115, 112]⟩ : ByteArray)) := (blk_cell BK124.out 0).trans rfl; have hcz48_1 : w46.cell? ⟨gb124, 1, none⟩ = some (.int .i64 0) := (blk_cell BK124.out 1).trans rfl; have hcz48_2 : w46.cell? ⟨gb124, 2, none⟩ = some (.int .i64 3) := (blk_cell BK124.out 2).trans rfl; have hfz48_0 := blk_frozen BK124.out 0; have hfz48_1 := blk_frozen BK124.out 1; have hfz48_2 := blk_frozen BK124.out 2) | ((with_reducible refine gate_callee (f := 15) rfl ?_); refine goesL_ (some 38) rfl rfl Try.func15 (by kernel_rfl) rfl #[.agg #[.int .i64 2, .slice Ao19 y120.length co19], .agg #[.string (⟨#[115, 115, 115, 112]⟩ : ByteArray), .int .i64 0, .int .i64 3]] rfl (by (try simp only [List.map_toArray, List.map_cons, List.map_nil]); first | done | rfl | (simp only [List.length_drop, List.length_take]; rfl)) ?_; (with_reducible refine (prog_Check.calls k 2 _ _ y120 (⟨#[115, 115, 115, 112]⟩ : ByteArray) 0 3 t152 _ ?side1 ?side2 A5.out).mono ?_); (case side1 => repeat (first | exact (Kd.R_reads' HO122.out).2.2 | (with_reducible refine Kd.C_alloc ?_ _) | (with_reducible refine Kd.C_drewN ?_ _) | (with_reducible refine Kd.C_drew ?_))); (case side2 => exact (Kd.R_reads' HO122.out).2.1); rintro e w49 ⟨rfl, hb⟩; refine ⟨_, rfl, ?_⟩; have n0_ := Aside0.mk (Kd.R_below (kR HO122.out) hb); have n1_ := Aside0.mk (Kd.R_below (kR HO137.out) hb); have n2_ := Aside0.mk (Kd.R_below (kR HO147.out) hb); have n3_ := Aside0.mk (blk_below (g := gb123) (o := .cells #[.int .i64 2, .slice Ao19 y120.length co19] 24 (0, 0)) (kA BK123.out) hb); have n4_ := Aside0.mk (blk_below (g := gb124) (o := .cells #[.string (⟨#[115, 115, 115, 112]⟩ : ByteArray), .int .i64 0, .int .i64 3] 26 (0, 0)) (kA BK124.out) hb); have n5_ := Aside0.mk (blk_below (g := gb139) (o := .cells #[.int .i64 t130, .int .i64 t131, .bool t132, .bool t133, .int .i64 t134] 28 (0, 0)) (kA BK139.out) hb); have n6_ := Aside0.mk (blk_below (g := gb149) (o := .cells #[.int .i64 t140, .int .i64 t141, .bool t142, .bool t143, .int .i64 t144] 28 (0, 0)) (kA BK149.out) hb); have n7_ := Aside0.mk (below_step (kB HB.out) hb); clear HO122; clear HO137; clear HO147; clear BK123; clear BK124; clear BK139; clear BK149; clear HB; have HO122 := n0_; have HO137 := n1_; have HO147 := n2_; have BK123 := n3_; have BK124 := n4_; have BK139 := n5_; have BK149 := n6_; have HB := n7_; clear n0_ n1_ n2_ n3_ n4_ n5_ n6_ n7_; (try clear hb); (try clear hb2); (try clear hk); (try clear hi)) | ((with_reducible refine gate_dst (N := 47) rfl ?_); (try (refine gate_guard (by rfl) ?_; dsimp only)); refine Kd.R_lit k48 _ 48 ?hg (N := 47) ?hd (xs := ([(⟨0, 1, 5⟩ : S48)] : List (S48))) (inner := [.int .i64 0, .int .i64 1, .int .i64 5]) (ok := fun _ => True) (okp := fun _ => True) ?hr ?hp (fun _ hk => hk) trivial (Below.refl _ _) (Nat.le_refl _) (by simp) ?_; (case hd => rfl); (case hg => rfl); (case hr => first | (go_simp; done) | (go_simp; rfl)); (case hp => exact (Reps.c3 (show Kd.M k48 _ _ _ (⟨0, 1, 5⟩ : S48) [.int .i64 0, .int .i64 1, .int .i64 5] from (k48_mkM _ _ _ (⟨0, 1, 5⟩ : S48) )) (Reps.none _ _))); intro v154 w50 ho51 hb hg_ hnew_; clear hg_ hnew_; (first | rw [← Ny153.out] at ho51 | (simp only [Int.reduceToNat] at ho51; rw [← Ny153.out] at ho51)); have n0_ := Aside0.mk (Kd.R_below (kR HO122.out) hb); have n1_ := Aside0.mk (Kd.R_elder' (kR HO137.out) (Kd.R_base ho51) hb); have n2_ := Aside0.mk (Kd.R_elder' (kR HO147.out) (Kd.R_base ho51) hb); have n3_ := Aside0.mk (Kd.R_lower (Kd.R_new' (Kd.R_new' ho51 (Kd.R_lt (kR HO137.out))) (Kd.R_lt (kR HO147.out))) (below_size (kB HB.out))); have n4_ := Aside0.mk (blk_below (g := gb123) (o := .cells #[.int .i64 2, .slice Ao19 y120.length co19] 24 (0, 0)) (kA BK123.out) hb); have n5_ := Aside0.mk (blk_below (g := gb124) (o := .cells #[.string (⟨#[115, 115, 115, 112]⟩ : ByteArray), .int .i64 0, .int .i64 3] 26 (0, 0)) (kA BK124.out) hb); have n6_ := Aside0.mk (blk_below (g := gb139) (o := .cells #[.int .i64 t130, .int .i64 t131, .bool t132, .bool t133, .int .i64 t134] 28 (0, 0)) (kA BK139.out) hb); have n7_ := Aside0.mk (blk_below (g := gb149) (o := .cells #[.int .i64 t140, .int .i64 t141, .bool t142, .bool t143, .int .i64 t144] 28 (0, 0)) (kA BK149.out) hb); have n8_ := Aside0.mk (below_step (kB HB.out) hb); clear HO122; clear HO137; clear HO147; clear BK123; clear BK124; clear BK139; clear BK149; clear HB; have HO122 := n0_; have HO137 := n1_; have HO147 := n2_; have HO155 := n3_; have BK123 := n4_; have BK124 := n5_; have BK139 := n6_; have BK149 := n7_; have HB := n8_; clear n0_ n1_ n2_ n3_ n4_ n5_ n6_ n7_ n8_; clear hb ho51; obtain ⟨Ao52, co52, eo52⟩ := Kd.R_slice HO137.out; subst eo52; obtain ⟨Ao53, co53, eo53⟩ := Kd.R_slice HO155.out; subst eo53) | (go_at_call 16; (with_reducible refine (modillionref07_Same.calls k _ _ t135 _ _ y153 true _ ?side1 ?side2 ?side3 ?side4 A8.out).mono ?_); (case side1 => repeat (first | exact (Kd.R_reads' HO137.out).2.2 | (with_reducible refine Kd.C_alloc ?_ _) | (with_reducible refine Kd.C_drewN ?_ _) | (with_reducible refine Kd.C_drew ?_))); (case side2 => exact (Kd.R_reads' HO137.out).2.1); (case side3 => repeat (first | exact (Kd.R_reads' HO155.out).2.2 | (with_reducible refine Kd.C_alloc ?_ _) | (with_reducible refine Kd.C_drewN ?_ _) | (with_reducible refine Kd.C_drew ?_))); (case side4 => exact (Kd.R_reads' HO155.out).2.1); rintro e w' ⟨rfl, ⟨nd, rfl⟩⟩; have hcz54_0 : w50.cell? ⟨gb149, 0, none⟩ = some (.int .i64 t140) := (blk_cell BK149.out 0).trans rfl; have hcz54_1 : w50.cell? ⟨gb149, 1, none⟩ = some (.int .i64 t141) := (blk_cell BK149.out 1).trans rfl; have hcz54_2 : w50.cell? ⟨gb149, 2, none⟩ = some (.bool t142) := (blk_cell BK149.out 2).trans rfl; have hcz54_3 : w50.cell? ⟨gb149, 3, none⟩ = some (.bool t143) := (blk_cell BK149.out 3).trans rfl; have hcz54_4 : w50.cell? ⟨gb149, 4, none⟩ = some (.int .i64 t144) := (blk_cell BK149.out 4).trans rfl; have hfz54_0 := blk_frozen BK149.out 0; have hfz54_1 := blk_frozen BK149.out 1; have hfz54_2 := blk_frozen BK149.out 2; have hfz54_3 := blk_frozen BK149.out 3; have hfz54_4 := blk_frozen BK149.out 4) | (go_at_call 19; (with_reducible refine (prog_Known.calls k (⟨#[114, 97, 110, 107]⟩ : ByteArray) true _ A14.out).mono ?_); rintro e w55 ⟨rfl, hb⟩; have n0_ := Aside0.mk (Kd.R_below (kR HO122.out) hb); have n1_ := Aside0.mk (Kd.R_below (kR HO137.out) hb); have n2_ := Aside0.mk (Kd.R_below (kR HO147.out) hb); have n3_ := Aside0.mk (Kd.R_below (kR HO155.out) hb); have n4_ := Aside0.mk (blk_below (g := gb123) (o := .cells #[.int .i64 2, .slice Ao19 y120.length co19] 24 (0, 0)) (kA BK123.out) hb); have n5_ := Aside0.mk (blk_below (g := gb124) (o := .cells #[.string (⟨#[115, 115, 115, 112]⟩ : ByteArray), .int .i64 0, .int .i64 3] 26 (0, 0)) (kA BK124.out) hb); have n6_ := Aside0.mk (blk_below (g := gb139) (o := .cells #[.int .i64 t130, .int .i64 t131, .bool t132, .bool t133, .int .i64 t134] 28 (0, 0)) (kA BK139.out) hb); have n7_ := Aside0.mk (blk_below (g := gb149) (o := .cells #[.int .i64 t140, .int .i64 t141, .bool t142, .bool t143, .int .i64 t144] 28 (0, 0)) (kA BK149.out) hb); have n8_ := Aside0.mk (below_step (kB HB.out) hb); clear HO122; clear HO137; clear HO147; clear HO155; clear BK123; clear BK124; clear BK139; clear BK149; clear HB; have HO122 := n0_; have HO137 := n1_; have HO147 := n2_; have HO155 := n3_; have BK123 := n4_; have BK124 := n5_; have BK139 := n6_; have BK149 := n7_; have HB := n8_; clear n0_ n1_ n2_ n3_ n4_ n5_ n6_ n7_ n8_; (try clear hb); (try clear hb2); (try clear hk); (try clear hi); (try clear A14); (try clear A14)) | (go_at_call 19; (with_reducible refine (prog_Known.calls k (⟨#[120]⟩ : ByteArray) t158 _ A16.out).mono ?_); rintro e w56 ⟨rfl, hb⟩; have n0_ := Aside0.mk (Kd.R_below (kR HO122.out) hb); have n1_ := Aside0.mk (Kd.R_below (kR HO137.out) hb); have n2_ := Aside0.mk (Kd.R_below (kR HO147.out) hb); have n3_ := Aside0.mk (Kd.R_below (kR HO155.out) hb); have n4_ := Aside0.mk (blk_below (g := gb123) (o := .cells #[.int .i64 2, .slice Ao19 y120.length co19] 24 (0, 0)) (kA BK123.out) hb); have n5_ := Aside0.mk (blk_below (g := gb124) (o := .cells #[.string (⟨#[115, 115, 115, 112]⟩ : ByteArray), .int .i64 0, .int .i64 3] 26 (0, 0)) (kA BK124.out) hb); have n6_ := Aside0.mk (blk_below (g := gb139) (o := .cells #[.int .i64 t130, .int .i64 t131, .bool t132, .bool t133, .int .i64 t134] 28 (0, 0)) (kA BK139.out) hb); have n7_ := Aside0.mk (blk_below (g := gb149) (o := .cells #[.int .i64 t140, .int .i64 t141, .bool t142, .bool t143, .int .i64 t144] 28 (0, 0)) (kA BK149.out) hb); have n8_ := Aside0.mk (below_step (kB HB.out) hb); clear HO122; clear HO137; clear HO147; clear HO155; clear BK123; clear BK124; clear BK139; clear BK149; clear HB; have HO122 := n0_; have HO137 := n1_; have HO147 := n2_; have HO155 := n3_; have BK123 := n4_; have BK124 := n5_; have BK139 := n6_; have BK149 := n7_; have HB := n8_; clear n0_ n1_ n2_ n3_ n4_ n5_ n6_ n7_ n8_; (try clear hb); (try clear hb2); (try clear hk); (try clear hi); (try clear A16); (try clear A16)))
         go_ret
         exact ⟨by first | rfl | (simp [errW_none, errW_some] <;> rfl) | (simp [*, errW_none, errW_some] <;> rfl), by exact kB HB.out⟩
        ·rw [if_neg c15] at H; cases H
       ·rw [if_neg c13] at H; cases H
      ·rw [if_neg c12] at H; cases H
     ·rw [if_neg c11] at H; cases H
    ·rw [if_neg c10] at H; cases H
   ·rw [if_neg c9] at H; cases H
  ·rw [if_neg c7] at H; cases H
 ·rw [if_neg c6] at H; cases H
end

/-! ### modillionref07_Known: function 20 -/
def modillionref07_Known.f (a0 : ByteArray) : Option (Bool) := if a0.toList = ([109, 97, 120] : List UInt8) then (some true) else (if a0.toList = ([108, 97, 98, 101, 108] : List UInt8) then (some true) else (if a0.toList = ([115, 115, 115, 112] : List UInt8) then (some true) else (if a0.toList = ([98, 102, 115] : List UInt8) then (some true) else (if a0.toList = ([100, 101, 103, 114, 101, 101] : List UInt8) then (some true) else (if a0.toList = ([114, 97, 110, 107] : List UInt8) then (some true) else (some (a0.toList == ([119, 97, 108, 107, 115] : List UInt8))))))))
set_option maxHeartbeats 8000000 in
set_option maxRecDepth 100000 in
theorem modillionref07_Known.calls (a0 : ByteArray) (r : Bool) (w : World) (h : modillionref07_Known.f a0 = some r) :
  Calls Try.prog 20 #[.string a0] w fun e w' => e = .returned (.bool r) ∧ Drawn0 w w' := by
 have H : (if a0.toList = ([109, 97, 120] : List UInt8) then (some true) else (if a0.toList = ([108, 97, 98, 101, 108] : List UInt8) then (some true) else (if a0.toList = ([115, 115, 115, 112] : List UInt8) then (some true) else (if a0.toList = ([98, 102, 115] : List UInt8) then (some true) else (if a0.toList = ([100, 101, 103, 114, 101, 101] : List UInt8) then (some true) else (if a0.toList = ([114, 97, 110, 107] : List UInt8) then (some true) else (some (a0.toList == ([119, 97, 108, 107, 115] : List UInt8))))))))) = some r := h
 clear h
 by_cases c2 : a0.toList = ([109, 97, 120] : List UInt8)
 ·rw [if_pos c2] at H
  have c2b0 : (a0.toList == ([109, 97, 120] : List UInt8)) = true := beq_iff_eq.mpr c2
  have c2b1 : (a0.toList != ([109, 97, 120] : List UInt8)) = false := bne_eq_false_iff_eq.mpr c2
  clear c2
  obtain rfl := Option.some.inj H
  go_enter Try.func20, Try.ntmps20
  go_wp2
  go_ret
  exact ⟨by first | rfl | (simp; done) | (simp [*]; done), by repeat (first | exact Drawn0.refl _ | apply Drawn0.step)⟩
 ·rw [if_neg c2] at H
  have c2b0 : (a0.toList == ([109, 97, 120] : List UInt8)) = false := beq_eq_false_iff_ne.mpr c2
  have c2b1 : (a0.toList != ([109, 97, 120] : List UInt8)) = true := bne_iff_ne.mpr c2
  by_cases c3 : a0.toList = ([108, 97, 98, 101, 108] : List UInt8)
  ·rw [if_pos c3] at H
   have c3b0 : (a0.toList == ([108, 97, 98, 101, 108] : List UInt8)) = true := beq_iff_eq.mpr c3
   have c3b1 : (a0.toList != ([108, 97, 98, 101, 108] : List UInt8)) = false := bne_eq_false_iff_eq.mpr c3
   clear c3
   obtain rfl := Option.some.inj H
   go_enter Try.func20, Try.ntmps20
   go_wp2
   go_ret
   exact ⟨by first | rfl | (simp; done) | (simp [*]; done), by repeat (first | exact Drawn0.refl _ | apply Drawn0.step)⟩
  ·rw [if_neg c3] at H
   have c3b0 : (a0.toList == ([108, 97, 98, 101, 108] : List UInt8)) = false := beq_eq_false_iff_ne.mpr c3
   have c3b1 : (a0.toList != ([108, 97, 98, 101, 108] : List UInt8)) = true := bne_iff_ne.mpr c3
   by_cases c4 : a0.toList = ([115, 115, 115, 112] : List UInt8)
   ·rw [if_pos c4] at H
    have c4b0 : (a0.toList == ([115, 115, 115, 112] : List UInt8)) = true := beq_iff_eq.mpr c4
    have c4b1 : (a0.toList != ([115, 115, 115, 112] : List UInt8)) = false := bne_eq_false_iff_eq.mpr c4
    clear c4
    obtain rfl := Option.some.inj H
    go_enter Try.func20, Try.ntmps20
    go_wp2
    go_ret
    exact ⟨by first | rfl | (simp; done) | (simp [*]; done), by repeat (first | exact Drawn0.refl _ | apply Drawn0.step)⟩
   ·rw [if_neg c4] at H
    have c4b0 : (a0.toList == ([115, 115, 115, 112] : List UInt8)) = false := beq_eq_false_iff_ne.mpr c4
    have c4b1 : (a0.toList != ([115, 115, 115, 112] : List UInt8)) = true := bne_iff_ne.mpr c4
    by_cases c5 : a0.toList = ([98, 102, 115] : List UInt8)
    ·rw [if_pos c5] at H
     have c5b0 : (a0.toList == ([98, 102, 115] : List UInt8)) = true := beq_iff_eq.mpr c5
     have c5b1 : (a0.toList != ([98, 102, 115] : List UInt8)) = false := bne_eq_false_iff_eq.mpr c5
     clear c5
     obtain rfl := Option.some.inj H
     go_enter Try.func20, Try.ntmps20
     go_wp2
     go_ret
     exact ⟨by first | rfl | (simp; done) | (simp [*]; done), by repeat (first | exact Drawn0.refl _ | apply Drawn0.step)⟩
    ·rw [if_neg c5] at H
     have c5b0 : (a0.toList == ([98, 102, 115] : List UInt8)) = false := beq_eq_false_iff_ne.mpr c5
     have c5b1 : (a0.toList != ([98, 102, 115] : List UInt8)) = true := bne_iff_ne.mpr c5
     by_cases c6 : a0.toList = ([100, 101, 103, 114, 101, 101] : List UInt8)
     ·rw [if_pos c6] at H
      have c6b0 : (a0.toList == ([100, 101, 103, 114, 101, 101] : List UInt8)) = true := beq_iff_eq.mpr c6
      have c6b1 : (a0.toList != ([100, 101, 103, 114, 101, 101] : List UInt8)) = false := bne_eq_false_iff_eq.mpr c6
      clear c6
      obtain rfl := Option.some.inj H
      go_enter Try.func20, Try.ntmps20
      go_wp2
      go_ret
      exact ⟨by first | rfl | (simp; done) | (simp [*]; done), by repeat (first | exact Drawn0.refl _ | apply Drawn0.step)⟩
     ·rw [if_neg c6] at H
      have c6b0 : (a0.toList == ([100, 101, 103, 114, 101, 101] : List UInt8)) = false := beq_eq_false_iff_ne.mpr c6
      have c6b1 : (a0.toList != ([100, 101, 103, 114, 101, 101] : List UInt8)) = true := bne_iff_ne.mpr c6
      by_cases c7 : a0.toList = ([114, 97, 110, 107] : List UInt8)
      ·rw [if_pos c7] at H
       have c7b0 : (a0.toList == ([114, 97, 110, 107] : List UInt8)) = true := beq_iff_eq.mpr c7
       have c7b1 : (a0.toList != ([114, 97, 110, 107] : List UInt8)) = false := bne_eq_false_iff_eq.mpr c7
       clear c7
       obtain rfl := Option.some.inj H
       go_enter Try.func20, Try.ntmps20
       go_wp2
       go_ret
       exact ⟨by first | rfl | (simp; done) | (simp [*]; done), by repeat (first | exact Drawn0.refl _ | apply Drawn0.step)⟩
      ·rw [if_neg c7] at H
       have c7b0 : (a0.toList == ([114, 97, 110, 107] : List UInt8)) = false := beq_eq_false_iff_ne.mpr c7
       have c7b1 : (a0.toList != ([114, 97, 110, 107] : List UInt8)) = true := bne_iff_ne.mpr c7
       obtain rfl := Option.some.inj H
       go_enter Try.func20, Try.ntmps20
       go_wp2
       go_ret
       exact ⟨by first | rfl | (simp; done) | (simp [*]; done), by repeat (first | exact Drawn0.refl _ | apply Drawn0.step)⟩

end Go.Proofs.Ytdmihkffjbapjaa.P
