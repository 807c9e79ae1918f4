/- Printed by a program of this session (wip/myprint.py) over the print of the kit: what the Go functions of this seat compute, as Lean functions, and that they do; for the functions that take or make function values the contracts are by hand. No condition. -/
import Derived.Test.YtgdkemgilmfkfaaPx0
import Derived.Test.YtgdkemgilmfkfaaPx1
import Derived.Test.YtgdkemgilmfkfaaPx2
import Derived.Test.YtgdkemgilmfkfaaPx5
import Derived.Test.YtgdkemgilmfkfaaPx6
namespace Go.Proofs.Ytgdkemgilmfkfaa.P
open Go.RowKit Go.Proofs.YtgdkemgilmfkfaaW.PrintWords Go.Proofs.YtgdkemgilmfkfaaW.PrintLast Go.Proofs.YtgdkemgilmfkfaaW.PrintMore
attribute [local go_sem] max2_int min2_int max_two min_two max_three min_three max_four min_four   -- for this text's walks alone
set_option linter.unusedVariables false
set_option linter.unusedSimpArgs false
set_option linter.unnecessarySimpa false

attribute [local go_sem high] eqA41
/-! ### modillionlaw08_FoldRises: function 7 -/
mutual
def modillionlaw08_FoldRises.j0 : Nat → List (S41) → Bool → Option (Bool)
  | 0, _, _ => none
  | k + 1, x0, x18 => if x18 = true then ((modillionlaw08_awakes.f x0).bind fun t160 => (some t160)) else ((modillionlaw08_own.f x0).bind fun t161 => ((fold_Sort.f t161).bind fun t164 => (modillionlaw08_FoldRises.l0 k x0 t164 1)))
def modillionlaw08_FoldRises.l0 : Nat → List (S41) → List (S41) → Int → Option (Bool)
  | 0, _, _, _ => none
  | k + 1, x0, x3, x4 => if x4 < (x3.length : Int) then (if 0 ≤ (wrap64 (x4 - 1)) then (if (wrap64 (x4 - 1)) < (x3.length : Int) then (if 0 ≤ x4 then (if ((rd_T41 x3 (wrap64 (x4 - 1))).f1) > ((rd_T41 x3 x4).f1) then (some false) else (if ((rd_T41 x3 (wrap64 (x4 - 1))).f1) = ((rd_T41 x3 x4).f1) then (if ((rd_T41 x3 (wrap64 (x4 - 1))).f0) > ((rd_T41 x3 x4).f0) then (some false) else (if ((rd_T41 x3 (wrap64 (x4 - 1))).f0) = ((rd_T41 x3 x4).f0) then (if ((rd_T41 x3 (wrap64 (x4 - 1))).f2) > ((rd_T41 x3 x4).f2) then (some false) else (modillionlaw08_FoldRises.l0 k x0 x3 (wrap64 (x4 + 1)))) else (modillionlaw08_FoldRises.l0 k x0 x3 (wrap64 (x4 + 1))))) else (modillionlaw08_FoldRises.l0 k x0 x3 (wrap64 (x4 + 1))))) else (none)) else (none)) else (none)) else (modillionlaw08_FoldRises.l1 k x0 x3 0)
def modillionlaw08_FoldRises.l1 : Nat → List (S41) → List (S41) → Int → Option (Bool)
  | 0, _, _, _ => none
  | k + 1, x0, x3, x7 => if x7 < (x0.length : Int) then (modillionlaw08_FoldRises.l2 k x0 x3 x7 0 0 0) else (if (x3.length : Int) = (x0.length : Int) then ((fold_Sort.f x3).bind fun t171 => ((modillionref07_Same.f k t171 x3).bind fun t174 => (some t174))) else (some false))
def modillionlaw08_FoldRises.l2 : Nat → List (S41) → List (S41) → Int → Int → Int → Int → Option (Bool)
  | 0, _, _, _, _, _, _ => none
  | k + 1, x0, x3, x7, x8, x9, x10 => if x10 < (x0.length : Int) then (if 0 ≤ x10 then (if 0 ≤ x7 then (if x7 < (x0.length : Int) then (if (((rd_T41 x0 x10).f0) == ((rd_T41 x0 x7).f0) && (((rd_T41 x0 x10).f1) == ((rd_T41 x0 x7).f1) && (((rd_T41 x0 x10).f2) == ((rd_T41 x0 x7).f2)))) = true then (if x10 < (x3.length : Int) then (if (((rd_T41 x3 x10).f0) == ((rd_T41 x0 x7).f0) && (((rd_T41 x3 x10).f1) == ((rd_T41 x0 x7).f1) && (((rd_T41 x3 x10).f2) == ((rd_T41 x0 x7).f2)))) = true then (modillionlaw08_FoldRises.l2 k x0 x3 x7 (wrap64 (x8 + 1)) (wrap64 (x9 + 1)) (wrap64 (x10 + 1))) else (modillionlaw08_FoldRises.l2 k x0 x3 x7 (wrap64 (x8 + 1)) x9 (wrap64 (x10 + 1)))) else (modillionlaw08_FoldRises.l2 k x0 x3 x7 (wrap64 (x8 + 1)) x9 (wrap64 (x10 + 1)))) else (if x10 < (x3.length : Int) then (if (((rd_T41 x3 x10).f0) == ((rd_T41 x0 x7).f0) && (((rd_T41 x3 x10).f1) == ((rd_T41 x0 x7).f1) && (((rd_T41 x3 x10).f2) == ((rd_T41 x0 x7).f2)))) = true then (modillionlaw08_FoldRises.l2 k x0 x3 x7 x8 (wrap64 (x9 + 1)) (wrap64 (x10 + 1))) else (modillionlaw08_FoldRises.l2 k x0 x3 x7 x8 x9 (wrap64 (x10 + 1)))) else (modillionlaw08_FoldRises.l2 k x0 x3 x7 x8 x9 (wrap64 (x10 + 1))))) else (none)) else (none)) else (none)) else (if x8 = x9 then (modillionlaw08_FoldRises.l1 k x0 x3 (wrap64 (x7 + 1))) else (some false))
end
def modillionlaw08_FoldRises.f (k : Nat) (l0 : List (S41)) : Option (Bool) := (modillionlaw08_awakes.f l0).bind fun t159 => (if t159 = true then (modillionlaw08_FoldRises.j0 k l0 (decide ((l0.length : Int) > 40))) else (modillionlaw08_FoldRises.j0 k l0 true))
theorem modillionlaw08_FoldRises.mono_l : ∀ k, (∀ y0 y1, LeO (modillionlaw08_FoldRises.j0 k y0 y1) (modillionlaw08_FoldRises.j0 (k + 1) y0 y1)) ∧ (∀ y0 y1 y2, LeO (modillionlaw08_FoldRises.l0 k y0 y1 y2) (modillionlaw08_FoldRises.l0 (k + 1) y0 y1 y2)) ∧ (∀ y0 y1 y2, LeO (modillionlaw08_FoldRises.l1 k y0 y1 y2) (modillionlaw08_FoldRises.l1 (k + 1) y0 y1 y2)) ∧ (∀ y0 y1 y2 y3 y4 y5, LeO (modillionlaw08_FoldRises.l2 k y0 y1 y2 y3 y4 y5) (modillionlaw08_FoldRises.l2 (k + 1) y0 y1 y2 y3 y4 y5))
  | 0 => ⟨fun _ _ r h => by simp [modillionlaw08_FoldRises.j0] at h, fun _ _ _ r h => by simp [modillionlaw08_FoldRises.l0] at h, fun _ _ _ r h => by simp [modillionlaw08_FoldRises.l1] at h, fun _ _ _ _ _ _ r h => by simp [modillionlaw08_FoldRises.l2] at h⟩
  | k + 1 => by
    obtain ⟨ih0, ih1, ih2, ih3⟩ := modillionlaw08_FoldRises.mono_l k
    refine ⟨?_, ?_, ?_, ?_⟩
    · intro y0 y1
      unfold modillionlaw08_FoldRises.j0
      repeat' first
      | (with_reducible exact ih0 _ _)
      | (with_reducible exact ih1 _ _ _)
      | (with_reducible exact ih2 _ _ _)
      | (with_reducible exact ih3 _ _ _ _ _ _)
      | (with_reducible exact modillionref07_Same.mono _ _ _)
      | (with_reducible exact LeO.refl _)
      | (with_reducible exact LeO.none _)
      | (with_reducible refine LeO.ite ?_ ?_)
      | (with_reducible refine LeO.bind ?_ (fun _ => ?_))
      | exact ih0 _ _
      | exact ih1 _ _ _
      | exact ih2 _ _ _
      | exact ih3 _ _ _ _ _ _
      | exact modillionref07_Same.mono _ _ _
      | exact LeO.none _
      | refine LeO.ite ?_ ?_
      | refine LeO.bind ?_ (fun _ => ?_)
    · intro y0 y1 y2
      unfold modillionlaw08_FoldRises.l0
      repeat' first
      | (with_reducible exact ih0 _ _)
      | (with_reducible exact ih1 _ _ _)
      | (with_reducible exact ih2 _ _ _)
      | (with_reducible exact ih3 _ _ _ _ _ _)
      | (with_reducible exact modillionref07_Same.mono _ _ _)
      | (with_reducible exact LeO.refl _)
      | (with_reducible exact LeO.none _)
      | (with_reducible refine LeO.ite ?_ ?_)
      | (with_reducible refine LeO.bind ?_ (fun _ => ?_))
      | exact ih0 _ _
      | exact ih1 _ _ _
      | exact ih2 _ _ _
      | exact ih3 _ _ _ _ _ _
      | exact modillionref07_Same.mono _ _ _
      | exact LeO.none _
      | refine LeO.ite ?_ ?_
      | refine LeO.bind ?_ (fun _ => ?_)
    · intro y0 y1 y2
      unfold modillionlaw08_FoldRises.l1
      repeat' first
      | (with_reducible exact ih0 _ _)
      | (with_reducible exact ih1 _ _ _)
      | (with_reducible exact ih2 _ _ _)
      | (with_reducible exact ih3 _ _ _ _ _ _)
      | (with_reducible exact modillionref07_Same.mono _ _ _)
      | (with_reducible exact LeO.refl _)
      | (with_reducible exact LeO.none _)
      | (with_reducible refine LeO.ite ?_ ?_)
      | (with_reducible refine LeO.bind ?_ (fun _ => ?_))
      | exact ih0 _ _
      | exact ih1 _ _ _
      | exact ih2 _ _ _
      | exact ih3 _ _ _ _ _ _
      | exact modillionref07_Same.mono _ _ _
      | exact LeO.none _
      | refine LeO.ite ?_ ?_
      | refine LeO.bind ?_ (fun _ => ?_)
    · intro y0 y1 y2 y3 y4 y5
      unfold modillionlaw08_FoldRises.l2
      repeat' first
      | (with_reducible exact ih0 _ _)
      | (with_reducible exact ih1 _ _ _)
      | (with_reducible exact ih2 _ _ _)
      | (with_reducible exact ih3 _ _ _ _ _ _)
      | (with_reducible exact modillionref07_Same.mono _ _ _)
      | (with_reducible exact LeO.refl _)
      | (with_reducible exact LeO.none _)
      | (with_reducible refine LeO.ite ?_ ?_)
      | (with_reducible refine LeO.bind ?_ (fun _ => ?_))
      | exact ih0 _ _
      | exact ih1 _ _ _
      | exact ih2 _ _ _
      | exact ih3 _ _ _ _ _ _
      | exact modillionref07_Same.mono _ _ _
      | exact LeO.none _
      | refine LeO.ite ?_ ?_
      | refine LeO.bind ?_ (fun _ => ?_)
theorem modillionlaw08_FoldRises.mono : ∀ a0 k, LeO (modillionlaw08_FoldRises.f k a0) (modillionlaw08_FoldRises.f (k + 1) a0) := by
  intro a0 k
  obtain ⟨ih0, ih1, ih2, ih3⟩ := modillionlaw08_FoldRises.mono_l k
  unfold modillionlaw08_FoldRises.f
  repeat' first
      | (with_reducible exact ih0 _ _)
      | (with_reducible exact ih1 _ _ _)
      | (with_reducible exact ih2 _ _ _)
      | (with_reducible exact ih3 _ _ _ _ _ _)
      | (with_reducible exact modillionref07_Same.mono _ _ _)
      | (with_reducible exact LeO.refl _)
      | (with_reducible exact LeO.none _)
      | (with_reducible refine LeO.ite ?_ ?_)
      | (with_reducible refine LeO.bind ?_ (fun _ => ?_))
      | exact ih0 _ _
      | exact ih1 _ _ _
      | exact ih2 _ _ _
      | exact ih3 _ _ _ _ _ _
      | exact modillionref07_Same.mono _ _ _
      | exact LeO.none _
      | refine LeO.ite ?_ ?_
      | refine LeO.bind ?_ (fun _ => ?_)
def modillionlaw08_FoldRises.T7 : Bool × List (List Nat × List Nat) := (true, [([], []), ([], []), ([1], [1]), ([0, 2], [0, 2]), ([3], [3]), ([], []), ([], []), ([5, 6], [5, 6]), ([7], [7]), ([], []), ([], []), ([9, 4, 0, 1, 2, 3, 4, 9, 10], [4, 9]), ([10, 8, 11, 0, 1, 2, 3, 4, 5, 6, 7, 8, 9, 10, 11], [8, 10])])
def modillionlaw08_FoldRises.B7 : List Nat := [0, 0, 2, 7, 15, 0, 0, 96, 224, 0, 0, 1567, 4095]
theorem modillionlaw08_FoldRises.tab7 : rtab .any (opsOf Try.f7 7) = modillionlaw08_FoldRises.T7 := by kernel_rfl
theorem modillionlaw08_FoldRises.bits7 : waitsOk modillionlaw08_FoldRises.T7.2 modillionlaw08_FoldRises.B7 = true := by kernel_rfl
def modillionlaw08_FoldRises.T17 : Bool × List (List Nat × List Nat) := (true, [([], []), ([], []), ([0, 1], [0, 1]), ([2], [2]), ([], []), ([], []), ([4, 5], [4, 5]), ([6], [6]), ([3, 7], [3, 7])])
def modillionlaw08_FoldRises.B17 : List Nat := [0, 0, 3, 7, 0, 0, 48, 112, 255]
theorem modillionlaw08_FoldRises.tab17 : rtab .any (opsOf Try.f7 17) = modillionlaw08_FoldRises.T17 := by kernel_rfl
theorem modillionlaw08_FoldRises.bits17 : waitsOk modillionlaw08_FoldRises.T17.2 modillionlaw08_FoldRises.B17 = true := by kernel_rfl
def modillionlaw08_FoldRises.T19 : Bool × List (List Nat × List Nat) := (true, [([], []), ([], []), ([1], [1]), ([0, 2], [0, 2]), ([3], [3]), ([4], [4]), ([4], [4]), ([5, 6, 4], [4, 5, 6]), ([7, 4], [4, 7]), ([4], [4]), ([4], [4]), ([9, 10, 4], [4, 9, 10]), ([11, 4], [4, 11]), ([8, 12, 4], [4, 8, 12]), ([4, 13], [4, 13])])
def modillionlaw08_FoldRises.B19 : List Nat := [0, 0, 2, 7, 15, 31, 31, 127, 255, 31, 31, 1567, 3615, 8191, 16383]
theorem modillionlaw08_FoldRises.tab19 : rtab .any (opsOf Try.f7 19) = modillionlaw08_FoldRises.T19 := by kernel_rfl
theorem modillionlaw08_FoldRises.bits19 : waitsOk modillionlaw08_FoldRises.T19.2 modillionlaw08_FoldRises.B19 = true := by kernel_rfl
set_option maxHeartbeats 8000000 in
set_option maxRecDepth 100000 in
theorem modillionlaw08_FoldRises.calls (k : Nat) (A0 : Option Addr) (c0 : Nat) (l0 : List (S41)) (r : Bool) (w : World) (hr0 : Kd.C k41 w A0 l0.length l0) (hc0 : l0.length ≤ c0) (h : modillionlaw08_FoldRises.f k l0 = some r) :
    Calls Try.prog 7 #[.slice A0 l0.length c0] w fun e w' => e = .returned (.bool r) ∧ Below w.heap.size w w' := by
  have hu41 := Try.underlying41
  have HR0 := Aside0.mk hr0
  have HC0 := Aside0.mk hc0
  clear hr0 hc0
  have HB := Aside0.mk (Below.refl w.heap.size w)
  have H : ((modillionlaw08_awakes.f l0).bind fun t159 => (if t159 = true then (modillionlaw08_FoldRises.j0 k l0 (decide ((l0.length : Int) > 40))) else (modillionlaw08_FoldRises.j0 k l0 true))) = some r := h
  clear h
  have HC2 := Aside0.mk H
  clear H
  go_enter Try.func7, Try.ntmps7
  go_upto_region 1 with (fail)
  go_cut [18] (fun v18 wc => ∃ (kq : Nat) (x18_1 : Bool), v18 = .bool x18_1 ∧ Aside0 (modillionlaw08_FoldRises.j0 kq l0 x18_1 = some r) ∧ Aside0 (kq ≤ k) ∧ Aside0 (Below w.heap.size w wc))
  case first =>
    have H := HC2.out
    clear HC2
    replace H := Option.bind_eq_some_iff.mp H
    obtain ⟨t159, A30, H⟩ := H
    replace H : (if t159 = true then (modillionlaw08_FoldRises.j0 k l0 (decide ((l0.length : Int) > 40))) else (modillionlaw08_FoldRises.j0 k l0 true)) = some r := H
    have A3 := Aside0.mk A30
    clear A30
    by_cases c4 : t159 = true
    · subst c4
      have H1 : (modillionlaw08_FoldRises.j0 k l0 (decide ((l0.length : Int) > 40))) = some r := by rw [if_pos rfl] at H; exact H
      clear H
      have H := H1
      clear H1
      have H' := Aside0.mk H
      clear H
      go_wp2_with (first | ((with_reducible refine gate_callee (f := 9) rfl ?_); refine goesL_ (some 12) rfl rfl Try.func9 (by kernel_rfl) rfl #[.slice A0 l0.length c0] rfl (by (try simp only [List.map_toArray, List.map_cons, List.map_nil]); first | done | rfl | (simp only [List.length_drop, List.length_take]; rfl)) ?_; (with_reducible refine (modillionlaw08_awakes.calls _ _ l0 true _ ?side1 ?side2 A3.out).mono ?_); (case side1 => repeat (first | exact (Kd.C_below HR0.out HB.out) | (with_reducible refine Kd.C_alloc ?_ _) | (with_reducible refine Kd.C_drewN ?_ _) | (with_reducible refine Kd.C_drew ?_))); (case side2 => exact HC0.out); rintro e w5 ⟨rfl, hb⟩; refine ⟨_, rfl, ?_⟩; have n0_ := Aside0.mk (below_step (by repeat (first | (with_reducible first | exact HB.out | apply below_alloc | apply pw_below_drewN | apply below_drew1) | exact HB.out)) hb); clear HB; have HB := n0_; clear n0_; (try clear hb); (try clear hb2); (try clear hk); (try clear hi)))
      go_meet
      case rel => exact ⟨_, (decide ((l0.length : Int) > 40)), (by first | rfl | (simp; done) | (simp [*]; done)), H', ⟨by first | omega | exact Nat.le_refl _⟩, ⟨by repeat (first | (with_reducible first | exact HB.out | apply below_alloc | apply pw_below_drewN | apply below_drew1) | exact HB.out)⟩⟩
    · replace c4 := Bool.eq_false_iff.mpr c4
      subst c4
      have H1 : (modillionlaw08_FoldRises.j0 k l0 true) = some r := by rw [if_neg (show ¬ (false = true) by decide)] at H; exact H
      clear H
      have H := H1
      clear H1
      have H' := Aside0.mk H
      clear H
      go_wp2_with (first | ((with_reducible refine gate_callee (f := 9) rfl ?_); refine goesL_ (some 12) rfl rfl Try.func9 (by kernel_rfl) rfl #[.slice A0 l0.length c0] rfl (by (try simp only [List.map_toArray, List.map_cons, List.map_nil]); first | done | rfl | (simp only [List.length_drop, List.length_take]; rfl)) ?_; (with_reducible refine (modillionlaw08_awakes.calls _ _ l0 false _ ?side1 ?side2 A3.out).mono ?_); (case side1 => repeat (first | exact (Kd.C_below HR0.out HB.out) | (with_reducible refine Kd.C_alloc ?_ _) | (with_reducible refine Kd.C_drewN ?_ _) | (with_reducible refine Kd.C_drew ?_))); (case side2 => exact HC0.out); rintro e w6 ⟨rfl, hb⟩; refine ⟨_, rfl, ?_⟩; have n0_ := Aside0.mk (below_step (by repeat (first | (with_reducible first | exact HB.out | apply below_alloc | apply pw_below_drewN | apply below_drew1) | exact HB.out)) hb); clear HB; have HB := n0_; clear n0_; (try clear hb); (try clear hb2); (try clear hk); (try clear hi)))
      go_meet
      case rel => exact ⟨_, (true), (by first | rfl | (simp; done) | (simp [*]; done)), H', ⟨by first | omega | exact Nat.le_refl _⟩, ⟨by repeat (first | (with_reducible first | exact HB.out | apply below_alloc | apply pw_below_drewN | apply below_drew1) | exact HB.out)⟩⟩
  case rest =>
    clear HC2
    try clear p2
    try clear c4
    obtain ⟨kq, x18_1, rfl, HA, HJ1, HB⟩ := hcut
    cases kq with
    | zero => exact absurd HA.out (by simp [modillionlaw08_FoldRises.j0])
    | succ kj1 =>
      have H := HA.out
      clear HA
      simp only [modillionlaw08_FoldRises.j0] at H
      by_cases c7 : x18_1 = true
      · subst c7
        have H1 : ((modillionlaw08_awakes.f l0).bind fun t160 => (some t160)) = some r := by rw [if_pos rfl] at H; exact H
        clear H
        have H := H1
        clear H1
        replace H := Option.bind_eq_some_iff.mp H
        obtain ⟨t160, A80, H⟩ := H
        replace H : (some t160) = some r := H
        have A8 := Aside0.mk A80
        clear A80
        obtain rfl := Option.some.inj H
        go_wp2_with (first | ((with_reducible refine gate_callee (f := 9) rfl ?_); refine goesL_ (some 20) rfl rfl Try.func9 (by kernel_rfl) rfl #[.slice A0 l0.length c0] rfl (by (try simp only [List.map_toArray, List.map_cons, List.map_nil]); first | done | rfl | (simp only [List.length_drop, List.length_take]; rfl)) ?_; (with_reducible refine (modillionlaw08_awakes.calls _ _ l0 t160 _ ?side1 ?side2 A8.out).mono ?_); (case side1 => repeat (first | exact (Kd.C_below HR0.out HB.out) | (with_reducible refine Kd.C_alloc ?_ _) | (with_reducible refine Kd.C_drewN ?_ _) | (with_reducible refine Kd.C_drew ?_))); (case side2 => exact HC0.out); rintro e w9 ⟨rfl, hb⟩; refine ⟨_, rfl, ?_⟩; have n0_ := Aside0.mk (below_step (by repeat (first | (with_reducible first | exact HB.out | apply below_alloc | apply pw_below_drewN | apply below_drew1) | exact HB.out)) hb); clear HB; have HB := n0_; clear n0_; (try clear hb); (try clear hb2); (try clear hk); (try clear hi)))
        go_ret
        exact ⟨by first | rfl | (simp [errW_none, errW_some] <;> rfl) | (simp [*, errW_none, errW_some] <;> rfl), by repeat (first | (with_reducible first | exact HB.out | apply below_alloc | apply pw_below_drewN | apply below_drew1) | exact HB.out)⟩
      · replace c7 := Bool.eq_false_iff.mpr c7
        subst c7
        have H1 : ((modillionlaw08_own.f l0).bind fun t161 => ((fold_Sort.f t161).bind fun t164 => (modillionlaw08_FoldRises.l0 kj1 l0 t164 1))) = some r := by rw [if_neg (show ¬ (false = true) by decide)] at H; exact H
        clear H
        have H := H1
        clear H1
        replace H := Option.bind_eq_some_iff.mp H
        obtain ⟨t161, A100, H⟩ := H
        replace H : ((fold_Sort.f t161).bind fun t164 => (modillionlaw08_FoldRises.l0 kj1 l0 t164 1)) = some r := H
        have A10 := Aside0.mk A100
        clear A100
        replace H := Option.bind_eq_some_iff.mp H
        obtain ⟨t164, A110, H⟩ := H
        replace H : (modillionlaw08_FoldRises.l0 kj1 l0 t164 1) = some r := H
        have A11 := Aside0.mk A110
        clear A110
        have H' := Aside0.mk H
        clear H
        go_wp2_with (first | ((with_reducible refine gate_callee (f := 12) rfl ?_); refine goesL_ (some 22) rfl rfl Try.func12 (by kernel_rfl) rfl #[.slice A0 l0.length c0] rfl (by (try simp only [List.map_toArray, List.map_cons, List.map_nil]); first | done | rfl | (simp only [List.length_drop, List.length_take]; rfl)) ?_; (with_reducible refine (modillionlaw08_own.calls _ _ l0 t161 _ ?side1 ?side2 A10.out).mono ?_); (case side1 => repeat (first | exact (Kd.C_below HR0.out HB.out) | (with_reducible refine Kd.C_alloc ?_ _) | (with_reducible refine Kd.C_drewN ?_ _) | (with_reducible refine Kd.C_drew ?_))); (case side2 => exact HC0.out); rintro e w12 ⟨v162, rfl, ho0, hb⟩; refine ⟨_, rfl, ?_⟩; have n0_ := Aside0.mk (Kd.R_lower ho0 (below_size (by repeat (first | (with_reducible first | exact HB.out | apply below_alloc | apply pw_below_drewN | apply below_drew1) | exact HB.out)))); have n1_ := Aside0.mk (below_step (by repeat (first | (with_reducible first | exact HB.out | apply below_alloc | apply pw_below_drewN | apply below_drew1) | exact HB.out)) hb); clear HB; have HO163 := n0_; have HB := n1_; clear n0_ n1_; (try clear hb); (try clear hb2); (try clear hk); (try clear hi); (try clear ho0); obtain ⟨Ao13, co13, eo13⟩ := Kd.R_slice HO163.out; subst eo13) | ((with_reducible refine gate_callee (f := 11) rfl ?_); refine goesL_ (some 23) rfl rfl Try.func11 (by kernel_rfl) rfl #[.slice Ao13 t161.length co13] rfl (by (try simp only [List.map_toArray, List.map_cons, List.map_nil]); first | done | rfl | (simp only [List.length_drop, List.length_take]; rfl)) ?_; (with_reducible refine (fold_Sort.calls _ _ t161 t164 _ ?side1 ?side2 A11.out).mono ?_); (case side1 => repeat (first | exact (Kd.R_reads' HO163.out).2.2 | (with_reducible refine Kd.C_alloc ?_ _) | (with_reducible refine Kd.C_drewN ?_ _) | (with_reducible refine Kd.C_drew ?_))); (case side2 => exact (Kd.R_reads' HO163.out).2.1); rintro e w14 ⟨v165, rfl, ho0, hb⟩; refine ⟨_, rfl, ?_⟩; have n0_ := Aside0.mk (Kd.R_elder' (by (with_reducible repeat (first | apply Kd.R_alloc | apply Kd.R_drewN | apply Kd.R_drew)); exact HO163.out) (Kd.R_base ho0) hb); have n1_ := Aside0.mk (Kd.R_lower (Kd.R_new' ho0 (Kd.R_lt (by (with_reducible repeat (first | apply Kd.R_alloc | apply Kd.R_drewN | apply Kd.R_drew)); exact HO163.out))) (below_size (by repeat (first | (with_reducible first | exact HB.out | apply below_alloc | apply pw_below_drewN | apply below_drew1) | exact HB.out)))); have n2_ := Aside0.mk (below_step (by repeat (first | (with_reducible first | exact HB.out | apply below_alloc | apply pw_below_drewN | apply below_drew1) | exact HB.out)) hb); clear HO163; clear HB; have HO163 := n0_; have HO166 := n1_; have HB := n2_; clear n0_ n1_ n2_; (try clear hb); (try clear hb2); (try clear hk); (try clear hi); (try clear ho0)))
        go_loopg [4] kj1 (fun kq v4 w' => ∃ (x4_2 : Int), v4 = .int .i64 x4_2 ∧ Aside0 (modillionlaw08_FoldRises.l0 kq l0 t164 x4_2 = some r) ∧ Aside0 (kq ≤ kj1) ∧ Aside0 (Kd.R k41 41 w' w.heap.size (fun _ => True) v165 t164) ∧ Aside0 (Below w.heap.size w w'))
        case atStart => exact ⟨(1), (by first | rfl | (simp; done) | (simp [*]; done)), H', ⟨Nat.le_refl _⟩, ⟨by (with_reducible repeat (first | apply Kd.R_alloc | apply Kd.R_drewN | apply Kd.R_drew)); exact Kd.R_mono HO166.out (fun _ hk => trivial)⟩, ⟨by repeat (first | (with_reducible first | exact HB.out | apply below_alloc | apply pw_below_drewN | apply below_drew1) | exact HB.out)⟩⟩
        case round =>
          clear H'
          try clear c1
          try clear p2
          try clear c4
          try clear c7
          try clear c9
          try clear c11
          try clear c12
          try clear p2
          obtain ⟨x4_2, rfl, HA, HK2, HO_3, HB⟩ := hrel
          cases gk with
          | zero => exact absurd HA.out (by simp [modillionlaw08_FoldRises.l0])
          | succ k2 =>
            have H := HA.out
            clear HA
            simp only [modillionlaw08_FoldRises.l0] at H
            by_cases c15 : x4_2 < (t164.length : Int)
            · rw [if_pos c15] at H
              have c15b0 : decide (x4_2 < (t164.length : Int)) = true := decide_eq_true c15
              clear c15
              obtain ⟨ji16, hji16⟩ : ∃ j_ : Int, (wrap64 (x4_2 - 1)) = j_ := ⟨_, rfl⟩
              replace H : (if 0 ≤ (ji16) then (if (ji16) < (t164.length : Int) then (if 0 ≤ x4_2 then (if ((rd_T41 t164 (ji16)).f1) > ((rd_T41 t164 x4_2).f1) then (some false) else (if ((rd_T41 t164 (ji16)).f1) = ((rd_T41 t164 x4_2).f1) then (if ((rd_T41 t164 (ji16)).f0) > ((rd_T41 t164 x4_2).f0) then (some false) else (if ((rd_T41 t164 (ji16)).f0) = ((rd_T41 t164 x4_2).f0) then (if ((rd_T41 t164 (ji16)).f2) > ((rd_T41 t164 x4_2).f2) then (some false) else (modillionlaw08_FoldRises.l0 k2 l0 t164 (wrap64 (x4_2 + 1)))) else (modillionlaw08_FoldRises.l0 k2 l0 t164 (wrap64 (x4_2 + 1))))) else (modillionlaw08_FoldRises.l0 k2 l0 t164 (wrap64 (x4_2 + 1))))) else (none)) else (none)) else (none)) = some r := by first | (rw [hji16] at H; exact H) | (simp only [hji16] at H ⊢; exact H)
              have hji16w : (IntKind.i64.wrap (x4_2 - 1)) = ji16 := (i64_w _).trans hji16
              by_cases c17 : 0 ≤ (ji16)
              · rw [if_pos c17] at H
                have c17b0 : decide (0 ≤ (ji16)) = true := decide_eq_true c17
                clear c17
                by_cases c18 : (ji16) < (t164.length : Int)
                · rw [if_pos c18] at H
                  have c18b0 : decide ((ji16) < (t164.length : Int)) = true := decide_eq_true c18
                  clear c18
                  by_cases c19 : 0 ≤ x4_2
                  · rw [if_pos c19] at H
                    have c19b0 : decide (0 ≤ x4_2) = true := decide_eq_true c19
                    clear c19
                    have HH_ := Aside0.mk H
                    clear H
                    obtain ⟨Ao21, co21, eo21⟩ := Kd.R_slice HO_3.out
                    subst eo21
                    try go_wp2
                    have n0_ := Aside0.mk (Kd.R_drew HO_3.out)
                    have n1_ := Aside0.mk (below_drew1 HB.out)
                    clear HO_3
                    clear HB
                    have HO_3 := n0_
                    have HB := n1_
                    clear n0_ n1_
                    have p167 : 0 ≤ ((ji16) : Int) := of_decide_eq_true (by first | (with_reducible assumption) | assumption)
                    have q167 : (ji16) < (t164.length : Int) := of_decide_eq_true (by first | (with_reducible assumption) | assumption)
                    obtain ⟨ad167, e167, hx167_0, hx167_1, hx167_2⟩ := at_T41 (Kd.R_reads' HO_3.out).2.2 (ji16) p167 q167
                    cases e167
                    replace p167 := eq_true p167
                    replace q167 := eq_true q167
                    have p168 : 0 ≤ (x4_2 : Int) := of_decide_eq_true (by first | (with_reducible assumption) | assumption)
                    have q168 : x4_2 < (t164.length : Int) := of_decide_eq_true (by first | (with_reducible assumption) | assumption)
                    obtain ⟨ad168, e168, hx168_0, hx168_1, hx168_2⟩ := at_T41 (Kd.R_reads' HO_3.out).2.2 x4_2 p168 q168
                    obtain rfl : ad167 = ad168 := (by injection e168)
                    replace p168 := eq_true p168
                    replace q168 := eq_true q168
                    refine start_ (n := 13) (S := fun w' => w'.cell? (ad167.add (((ji16)).toNat * 3)) = some (.int .i64 ((rd_T41 t164 (ji16)).f0)) ∧ w'.cell? ⟨(ad167.add (((ji16)).toNat * 3)).block, (ad167.add (((ji16)).toNat * 3)).off + 1, none⟩ = some (.int .i64 ((rd_T41 t164 (ji16)).f1)) ∧ w'.cell? ⟨(ad167.add (((ji16)).toNat * 3)).block, (ad167.add (((ji16)).toNat * 3)).off + 2, none⟩ = some (.int .i64 ((rd_T41 t164 (ji16)).f2)) ∧ w'.cell? (ad167.add ((x4_2).toNat * 3)) = some (.int .i64 ((rd_T41 t164 x4_2).f0)) ∧ w'.cell? ⟨(ad167.add ((x4_2).toNat * 3)).block, (ad167.add ((x4_2).toNat * 3)).off + 1, none⟩ = some (.int .i64 ((rd_T41 t164 x4_2).f1)) ∧ w'.cell? ⟨(ad167.add ((x4_2).toNat * 3)).block, (ad167.add ((x4_2).toNat * 3)).off + 2, none⟩ = some (.int .i64 ((rd_T41 t164 x4_2).f2))) (ds := []) #[false, false, false, false, false, false, false, false, false, false, false, false, false] (by kernel_rfl) rfl rfl ⟨hx167_0, hx167_1, hx167_2, hx168_0, hx168_1, hx168_2⟩ (fun hHeld => ?_); refine with_tabW modillionlaw08_FoldRises.tab7 modillionlaw08_FoldRises.bits7 (fun HT_ HW_ => ?_)
                    generalize wr.drew = w22 at HO_3 HB hx167_0 hx167_1 hx167_2 hx168_0 hx168_1 hx168_2 hHeld ⊢
                    refine pure_ (i := 0) (N := some 30) (v := ?_) (a' := ?_) #[true, false, false, false, false, false, false, false, false, false, false, false, false] rfl rfl (any_of HT_.out (by kernel_rfl)) (fun _ _ _ h => h) (Or.inl ⟨by rfl, ?_⟩) ?_ ?_
                    rotate_left
                    · intro w'
                      go_simp
                      with_reducible rfl
                    rotate_left
                    · simp only [Act.put, List.setIfInBounds_toArray, List.set_cons_zero, List.set_cons_succ, i64_w, i32_w]
                      rfl
                    refine pure_ (i := 1) (N := some 31) (v := ?_) (a' := ?_) #[true, true, false, false, false, false, false, false, false, false, false, false, false] rfl rfl (any_of HT_.out (by kernel_rfl)) (fun _ _ _ h => h) (Or.inl ⟨by rfl, ?_⟩) ?_ ?_
                    rotate_left
                    · intro w'
                      go_simp
                      with_reducible rfl
                    rotate_left
                    · simp only [Act.put, List.setIfInBounds_toArray, List.set_cons_zero, List.set_cons_succ, i64_w, i32_w]
                      rfl
                    refine pure_ (i := 2) (N := some 32) (v := ?_) (a' := ?_) #[true, true, true, false, false, false, false, false, false, false, false, false, false] rfl rfl (any_of HT_.out (by kernel_rfl)) (fun _ _ _ h => h) (Or.inl ⟨by rfl, ?_⟩) ?_ ?_
                    rotate_left
                    · intro w'
                      go_simp
                      with_reducible rfl
                    rotate_left
                    · simp only [Act.put, List.setIfInBounds_toArray, List.set_cons_zero, List.set_cons_succ, i64_w, i32_w]
                      rfl
                    refine pure_ (i := 3) (N := some 33) (v := ?_) (a' := ?_) #[true, true, true, true, false, false, false, false, false, false, false, false, false] rfl rfl (any_of HT_.out (by kernel_rfl)) (fun _ _ _ h => h) (Or.inl ⟨by rfl, ?_⟩) ?_ ?_
                    rotate_left
                    · intro w'
                      go_simp
                      with_reducible rfl
                    rotate_left
                    · simp only [Act.put, List.setIfInBounds_toArray, List.set_cons_zero, List.set_cons_succ, i64_w, i32_w]
                      rfl
                    refine pure_ (i := 5) (N := some 35) (v := ?_) (a' := ?_) #[true, true, true, true, false, true, false, false, false, false, false, false, false] rfl rfl (any_of HT_.out (by kernel_rfl)) (fun _ _ _ h => h) (Or.inl ⟨by rfl, ?_⟩) ?_ ?_
                    rotate_left
                    · intro w'
                      go_simp
                      with_reducible rfl
                    rotate_left
                    · simp only [Act.put, List.setIfInBounds_toArray, List.set_cons_zero, List.set_cons_succ, i64_w, i32_w]
                      rfl
                    refine pure_ (i := 6) (N := some 36) (v := ?_) (a' := ?_) #[true, true, true, true, false, true, true, false, false, false, false, false, false] rfl rfl (any_of HT_.out (by kernel_rfl)) (fun _ _ _ h => h) (Or.inl ⟨by rfl, ?_⟩) ?_ ?_
                    rotate_left
                    · intro w'
                      go_simp
                      with_reducible rfl
                    rotate_left
                    · simp only [Act.put, List.setIfInBounds_toArray, List.set_cons_zero, List.set_cons_succ, i64_w, i32_w]
                      rfl
                    refine pure_ (i := 7) (N := some 37) (v := ?_) (a' := ?_) #[true, true, true, true, false, true, true, true, false, false, false, false, false] rfl rfl (any_of HT_.out (by kernel_rfl)) (fun _ _ _ h => h) (Or.inl ⟨by rfl, ?_⟩) ?_ ?_
                    rotate_left
                    · intro w'
                      go_simp
                      with_reducible rfl
                    rotate_left
                    · simp only [Act.put, List.setIfInBounds_toArray, List.set_cons_zero, List.set_cons_succ, i64_w, i32_w]
                      rfl
                    refine take_ (i := 4) (N := some 34) (v := ?_) (a' := ?_) #[true, true, true, true, true, true, true, true, false, false, false, false, false] rfl rfl (take_ofW HT_.out HW_.out (by kernel_rfl)) (fun _ _ _ h => h) (Or.inl ⟨by rfl, ?_⟩) hHeld ?_ ?_
                    rotate_left
                    · rintro w' ⟨s0, s1, s2, s3, s4, s5⟩
                      go_simp
                      with_reducible rfl
                    rotate_left
                    · simp only [Act.put, List.setIfInBounds_toArray, List.set_cons_zero, List.set_cons_succ, i64_w, i32_w]
                      rfl
                    refine take_ (i := 8) (N := some 38) (v := ?_) (a' := ?_) #[true, true, true, true, true, true, true, true, true, false, false, false, false] rfl rfl (take_ofW HT_.out HW_.out (by kernel_rfl)) (fun _ _ _ h => h) (Or.inl ⟨by rfl, ?_⟩) hHeld ?_ ?_
                    rotate_left
                    · rintro w' ⟨s0, s1, s2, s3, s4, s5⟩
                      go_simp
                      with_reducible rfl
                    rotate_left
                    · simp only [Act.put, List.setIfInBounds_toArray, List.set_cons_zero, List.set_cons_succ, i64_w, i32_w]
                      rfl
                    refine join_ (σ := Nat × Nat) 2 #[true, true, true, true, true, true, true, true, true, true, true, false, false] (fun s_ => [(5, .pointer (some ⟨s_.1, 0, none⟩)), (6, .pointer (some ⟨s_.2, 0, none⟩))]) (fun s_ w' => (w'.cell? (ad167.add (((ji16)).toNat * 3)) = some (.int .i64 ((rd_T41 t164 (ji16)).f0)) ∧ w'.cell? ⟨(ad167.add (((ji16)).toNat * 3)).block, (ad167.add (((ji16)).toNat * 3)).off + 1, none⟩ = some (.int .i64 ((rd_T41 t164 (ji16)).f1)) ∧ w'.cell? ⟨(ad167.add (((ji16)).toNat * 3)).block, (ad167.add (((ji16)).toNat * 3)).off + 2, none⟩ = some (.int .i64 ((rd_T41 t164 (ji16)).f2)) ∧ w'.cell? (ad167.add ((x4_2).toNat * 3)) = some (.int .i64 ((rd_T41 t164 x4_2).f0)) ∧ w'.cell? ⟨(ad167.add ((x4_2).toNat * 3)).block, (ad167.add ((x4_2).toNat * 3)).off + 1, none⟩ = some (.int .i64 ((rd_T41 t164 x4_2).f1)) ∧ w'.cell? ⟨(ad167.add ((x4_2).toNat * 3)).block, (ad167.add ((x4_2).toNat * 3)).off + 2, none⟩ = some (.int .i64 ((rd_T41 t164 x4_2).f2))) ∧ (Kd.R k41 41 w' w.heap.size (fun k_ => k_ ≠ s_.1 ∧ k_ ≠ s_.2) (.slice (some ad167) t164.length co21) t164) ∧ (w'.heap[s_.1]? = some (.cells #[.int .i64 0, .int .i64 0, .int .i64 0] 41 (0, 0))) ∧ (w'.heap[s_.2]? = some (.cells #[.int .i64 0, .int .i64 0, .int .i64 0] 41 (0, 0))) ∧ (w.heap.size ≤ s_.1) ∧ (w.heap.size ≤ s_.1) ∧ (s_.2 ≠ s_.1) ∧ (s_.1 ≠ s_.2) ∧ (w.heap.size ≤ s_.2) ∧ (w.heap.size ≤ s_.2) ∧ (Below w.heap.size w w')) ?_ ?_
                    rotate_left
                    · intro hCont
                      refine two_ (i := 9) (j := 10) (Ni := some 5) (Nj := some 6) #[true, true, true, true, true, true, true, true, true, true, false, false, false] #[true, true, true, true, true, true, true, true, true, false, true, false, false] rfl rfl rfl rfl (two_of HT_.out (by kernel_rfl)) (by decide) (by decide) (fun K hK => ?_) (fun K hK => ?_)
                      · skip
                        refine box_step ?hg (N := 5) ?hd (cs := #[.int .i64 0, .int .i64 0, .int .i64 0]) (t := 41) ?hr ?_; (case hd => rfl); (case hg => rfl); (case hr => first | (go_simp; done) | (go_simp; rfl))
                        intro gb169 hg w23 hbox hb
                        have HS0_ := (hb.cell (World.block_lt_of_cell? _ _ (hHeld.1))).trans (hHeld.1)
                        have HS1_ := (hb.cell (World.block_lt_of_cell? _ _ (hHeld.2.1))).trans (hHeld.2.1)
                        have HS2_ := (hb.cell (World.block_lt_of_cell? _ _ (hHeld.2.2.1))).trans (hHeld.2.2.1)
                        have HS3_ := (hb.cell (World.block_lt_of_cell? _ _ (hHeld.2.2.2.1))).trans (hHeld.2.2.2.1)
                        have HS4_ := (hb.cell (World.block_lt_of_cell? _ _ (hHeld.2.2.2.2.1))).trans (hHeld.2.2.2.2.1)
                        have HS5_ := (hb.cell (World.block_lt_of_cell? _ _ (hHeld.2.2.2.2.2))).trans (hHeld.2.2.2.2.2)
                        have n0_ := Aside0.mk (Kd.R_below (Kd.R_elderB (by (with_reducible repeat (first | apply Kd.R_alloc | apply Kd.R_drewN | apply Kd.R_drew)); exact HO_3.out) gb169 (Nat.le_of_eq hg.symm)) hb)
                        have n1_ := Aside0.mk (below_step (by repeat (first | (with_reducible first | exact HB.out | apply below_alloc | apply pw_below_drewN | apply below_drew1) | exact HB.out)) hb)
                        have n2_ := Aside0.mk (hbox)
                        have n3_ := Aside0.mk ((by rw [hg]; exact (below_size (by repeat (first | (with_reducible first | exact HB.out | apply below_alloc | apply pw_below_drewN | apply below_drew1) | exact HB.out))) : w.heap.size ≤ gb169))
                        have n4_ := Aside0.mk ((by rw [hg]; exact (below_size (by repeat (first | (with_reducible first | exact HB.out | apply below_alloc | apply pw_below_drewN | apply below_drew1) | exact HB.out))) : w.heap.size ≤ gb169))
                        clear HO_3
                        clear HB
                        have HO_3 := n0_
                        have HB := n1_
                        have BK169 := n2_
                        have GW169 := n3_
                        have GE169 := n4_
                        clear n0_ n1_ n2_ n3_ n4_
                        clear hb hbox hg
                        refine hK.out _ _ ⟨HS0_, HS1_, HS2_, HS3_, HS4_, HS5_⟩ (fun hHeld => ?_)
                        clear hK K
                        refine norm_ (a' := ?_) ?_ ?_
                        rotate_left
                        · show Act.put _ (some 5) _ = _
                          simp only [Act.put, List.setIfInBounds_toArray, List.set_cons_zero, List.set_cons_succ, i64_w, i32_w]
                          rfl
                        refine one_ (i := 10) (N := some 6) #[true, true, true, true, true, true, true, true, true, true, true, false, false] rfl rfl (one_of HT_.out (by kernel_rfl)) (by decide) (fun K hK => ?_)
                        refine box_step ?hg (N := 6) ?hd (cs := #[.int .i64 0, .int .i64 0, .int .i64 0]) (t := 41) ?hr ?_; (case hd => rfl); (case hg => rfl); (case hr => first | (go_simp; done) | (go_simp; rfl))
                        intro gb170 hg w24 hbox hb
                        have HS0_ := (hb.cell (World.block_lt_of_cell? _ _ (hHeld.1))).trans (hHeld.1)
                        have HS1_ := (hb.cell (World.block_lt_of_cell? _ _ (hHeld.2.1))).trans (hHeld.2.1)
                        have HS2_ := (hb.cell (World.block_lt_of_cell? _ _ (hHeld.2.2.1))).trans (hHeld.2.2.1)
                        have HS3_ := (hb.cell (World.block_lt_of_cell? _ _ (hHeld.2.2.2.1))).trans (hHeld.2.2.2.1)
                        have HS4_ := (hb.cell (World.block_lt_of_cell? _ _ (hHeld.2.2.2.2.1))).trans (hHeld.2.2.2.2.1)
                        have HS5_ := (hb.cell (World.block_lt_of_cell? _ _ (hHeld.2.2.2.2.2))).trans (hHeld.2.2.2.2.2)
                        have n0_ := Aside0.mk (Kd.R_below (Kd.R_elderB (by (with_reducible repeat (first | apply Kd.R_alloc | apply Kd.R_drewN | apply Kd.R_drew)); exact HO_3.out) gb170 (Nat.le_of_eq hg.symm)) hb)
                        have n1_ := Aside0.mk (blk_below (g := gb169) (o := .cells #[.int .i64 0, .int .i64 0, .int .i64 0] 41 (0, 0)) (by (with_reducible repeat (first | refine blk_drewN ?_ _ | refine blk_drew ?_ | refine blk_alloc ?_ _)); exact BK169.out) hb)
                        have n2_ := Aside0.mk (below_step (by repeat (first | (with_reducible first | exact HB.out | apply below_alloc | apply pw_below_drewN | apply below_drew1 | refine below_set ?_ GE169.out) | exact HB.out)) hb)
                        have n3_ := Aside0.mk (hbox)
                        have n4_ := Aside0.mk ((by rw [hg]; exact (below_size (by repeat (first | (with_reducible first | exact HB.out | apply below_alloc | apply pw_below_drewN | apply below_drew1 | refine below_set ?_ GE169.out) | exact HB.out))) : w.heap.size ≤ gb170))
                        have n5_ := Aside0.mk ((by rw [hg]; exact (below_size (by repeat (first | (with_reducible first | exact HB.out | apply below_alloc | apply pw_below_drewN | apply below_drew1 | refine below_set ?_ GE169.out) | exact HB.out))) : w.heap.size ≤ gb170))
                        have n6_ := Aside0.mk ((by rw [hg]; exact Nat.ne_of_lt (blk_lt (g := gb169) (o := .cells #[.int .i64 0, .int .i64 0, .int .i64 0] 41 (0, 0)) (by (with_reducible repeat (first | refine blk_drewN ?_ _ | refine blk_drew ?_ | refine blk_alloc ?_ _)); exact BK169.out)) : gb169 ≠ gb170))
                        have n7_ := Aside0.mk ((by rw [hg]; exact Nat.ne_of_gt (blk_lt (g := gb169) (o := .cells #[.int .i64 0, .int .i64 0, .int .i64 0] 41 (0, 0)) (by (with_reducible repeat (first | refine blk_drewN ?_ _ | refine blk_drew ?_ | refine blk_alloc ?_ _)); exact BK169.out)) : gb170 ≠ gb169))
                        clear HO_3
                        clear BK169
                        clear HB
                        have HO_3 := n0_
                        have BK169 := n1_
                        have HB := n2_
                        have BK170 := n3_
                        have GW170 := n4_
                        have GE170 := n5_
                        have NB169_170 := n6_
                        have NB170_169 := n7_
                        clear n0_ n1_ n2_ n3_ n4_ n5_ n6_ n7_
                        clear hb hbox hg
                        refine hK.out _ _ ⟨HS0_, HS1_, HS2_, HS3_, HS4_, HS5_⟩ (fun hHeld => ?_)
                        clear hK K
                        refine norm_ (a' := ?_) ?_ ?_
                        rotate_left
                        · show Act.put _ (some 6) _ = _
                          simp only [Act.put, List.setIfInBounds_toArray, List.set_cons_zero, List.set_cons_succ, i64_w, i32_w]
                          rfl
                        exact norm_ (by simp only [putAll, Act.put, List.setIfInBounds_toArray, List.set_cons_zero, List.set_cons_succ]) (hCont (gb169, gb170) _ ⟨hHeld, (by (with_reducible repeat (first | apply Kd.R_alloc | apply Kd.R_drewN | apply Kd.R_drew)); exact Kd.R_mono HO_3.out (fun _ hk => ⟨hk.1.2, hk.2⟩)), (by (with_reducible repeat (first | refine blk_drewN ?_ _ | refine blk_drew ?_ | refine blk_alloc ?_ _)); exact BK169.out), (by (with_reducible repeat (first | refine blk_drewN ?_ _ | refine blk_drew ?_ | refine blk_alloc ?_ _)); exact BK170.out), GW169.out, GE169.out, NB170_169.out, NB169_170.out, GW170.out, GE170.out, (by repeat (first | (with_reducible first | exact HB.out | apply below_alloc | apply pw_below_drewN | apply below_drew1 | refine below_set ?_ GE169.out | refine below_set ?_ GE170.out) | exact HB.out))⟩)
                      · skip
                        refine box_step ?hg (N := 6) ?hd (cs := #[.int .i64 0, .int .i64 0, .int .i64 0]) (t := 41) ?hr ?_; (case hd => rfl); (case hg => rfl); (case hr => first | (go_simp; done) | (go_simp; rfl))
                        intro gb170 hg w23 hbox hb
                        have HS0_ := (hb.cell (World.block_lt_of_cell? _ _ (hHeld.1))).trans (hHeld.1)
                        have HS1_ := (hb.cell (World.block_lt_of_cell? _ _ (hHeld.2.1))).trans (hHeld.2.1)
                        have HS2_ := (hb.cell (World.block_lt_of_cell? _ _ (hHeld.2.2.1))).trans (hHeld.2.2.1)
                        have HS3_ := (hb.cell (World.block_lt_of_cell? _ _ (hHeld.2.2.2.1))).trans (hHeld.2.2.2.1)
                        have HS4_ := (hb.cell (World.block_lt_of_cell? _ _ (hHeld.2.2.2.2.1))).trans (hHeld.2.2.2.2.1)
                        have HS5_ := (hb.cell (World.block_lt_of_cell? _ _ (hHeld.2.2.2.2.2))).trans (hHeld.2.2.2.2.2)
                        have n0_ := Aside0.mk (Kd.R_below (Kd.R_elderB (by (with_reducible repeat (first | apply Kd.R_alloc | apply Kd.R_drewN | apply Kd.R_drew)); exact HO_3.out) gb170 (Nat.le_of_eq hg.symm)) hb)
                        have n1_ := Aside0.mk (below_step (by repeat (first | (with_reducible first | exact HB.out | apply below_alloc | apply pw_below_drewN | apply below_drew1) | exact HB.out)) hb)
                        have n2_ := Aside0.mk (hbox)
                        have n3_ := Aside0.mk ((by rw [hg]; exact (below_size (by repeat (first | (with_reducible first | exact HB.out | apply below_alloc | apply pw_below_drewN | apply below_drew1) | exact HB.out))) : w.heap.size ≤ gb170))
                        have n4_ := Aside0.mk ((by rw [hg]; exact (below_size (by repeat (first | (with_reducible first | exact HB.out | apply below_alloc | apply pw_below_drewN | apply below_drew1) | exact HB.out))) : w.heap.size ≤ gb170))
                        clear HO_3
                        clear HB
                        have HO_3 := n0_
                        have HB := n1_
                        have BK170 := n2_
                        have GW170 := n3_
                        have GE170 := n4_
                        clear n0_ n1_ n2_ n3_ n4_
                        clear hb hbox hg
                        refine hK.out _ _ ⟨HS0_, HS1_, HS2_, HS3_, HS4_, HS5_⟩ (fun hHeld => ?_)
                        clear hK K
                        refine norm_ (a' := ?_) ?_ ?_
                        rotate_left
                        · show Act.put _ (some 6) _ = _
                          simp only [Act.put, List.setIfInBounds_toArray, List.set_cons_zero, List.set_cons_succ, i64_w, i32_w]
                          rfl
                        refine one_ (i := 9) (N := some 5) #[true, true, true, true, true, true, true, true, true, true, true, false, false] rfl rfl (one_of HT_.out (by kernel_rfl)) (by decide) (fun K hK => ?_)
                        refine box_step ?hg (N := 5) ?hd (cs := #[.int .i64 0, .int .i64 0, .int .i64 0]) (t := 41) ?hr ?_; (case hd => rfl); (case hg => rfl); (case hr => first | (go_simp; done) | (go_simp; rfl))
                        intro gb169 hg w24 hbox hb
                        have HS0_ := (hb.cell (World.block_lt_of_cell? _ _ (hHeld.1))).trans (hHeld.1)
                        have HS1_ := (hb.cell (World.block_lt_of_cell? _ _ (hHeld.2.1))).trans (hHeld.2.1)
                        have HS2_ := (hb.cell (World.block_lt_of_cell? _ _ (hHeld.2.2.1))).trans (hHeld.2.2.1)
                        have HS3_ := (hb.cell (World.block_lt_of_cell? _ _ (hHeld.2.2.2.1))).trans (hHeld.2.2.2.1)
                        have HS4_ := (hb.cell (World.block_lt_of_cell? _ _ (hHeld.2.2.2.2.1))).trans (hHeld.2.2.2.2.1)
                        have HS5_ := (hb.cell (World.block_lt_of_cell? _ _ (hHeld.2.2.2.2.2))).trans (hHeld.2.2.2.2.2)
                        have n0_ := Aside0.mk (Kd.R_below (Kd.R_elderB (by (with_reducible repeat (first | apply Kd.R_alloc | apply Kd.R_drewN | apply Kd.R_drew)); exact HO_3.out) gb169 (Nat.le_of_eq hg.symm)) hb)
                        have n1_ := Aside0.mk (blk_below (g := gb170) (o := .cells #[.int .i64 0, .int .i64 0, .int .i64 0] 41 (0, 0)) (by (with_reducible repeat (first | refine blk_drewN ?_ _ | refine blk_drew ?_ | refine blk_alloc ?_ _)); exact BK170.out) hb)
                        have n2_ := Aside0.mk (below_step (by repeat (first | (with_reducible first | exact HB.out | apply below_alloc | apply pw_below_drewN | apply below_drew1 | refine below_set ?_ GE170.out) | exact HB.out)) hb)
                        have n3_ := Aside0.mk (hbox)
                        have n4_ := Aside0.mk ((by rw [hg]; exact (below_size (by repeat (first | (with_reducible first | exact HB.out | apply below_alloc | apply pw_below_drewN | apply below_drew1 | refine below_set ?_ GE170.out) | exact HB.out))) : w.heap.size ≤ gb169))
                        have n5_ := Aside0.mk ((by rw [hg]; exact (below_size (by repeat (first | (with_reducible first | exact HB.out | apply below_alloc | apply pw_below_drewN | apply below_drew1 | refine below_set ?_ GE170.out) | exact HB.out))) : w.heap.size ≤ gb169))
                        have n6_ := Aside0.mk ((by rw [hg]; exact Nat.ne_of_lt (blk_lt (g := gb170) (o := .cells #[.int .i64 0, .int .i64 0, .int .i64 0] 41 (0, 0)) (by (with_reducible repeat (first | refine blk_drewN ?_ _ | refine blk_drew ?_ | refine blk_alloc ?_ _)); exact BK170.out)) : gb170 ≠ gb169))
                        have n7_ := Aside0.mk ((by rw [hg]; exact Nat.ne_of_gt (blk_lt (g := gb170) (o := .cells #[.int .i64 0, .int .i64 0, .int .i64 0] 41 (0, 0)) (by (with_reducible repeat (first | refine blk_drewN ?_ _ | refine blk_drew ?_ | refine blk_alloc ?_ _)); exact BK170.out)) : gb169 ≠ gb170))
                        clear HO_3
                        clear BK170
                        clear HB
                        have HO_3 := n0_
                        have BK170 := n1_
                        have HB := n2_
                        have BK169 := n3_
                        have GW169 := n4_
                        have GE169 := n5_
                        have NB170_169 := n6_
                        have NB169_170 := n7_
                        clear n0_ n1_ n2_ n3_ n4_ n5_ n6_ n7_
                        clear hb hbox hg
                        refine hK.out _ _ ⟨HS0_, HS1_, HS2_, HS3_, HS4_, HS5_⟩ (fun hHeld => ?_)
                        clear hK K
                        refine norm_ (a' := ?_) ?_ ?_
                        rotate_left
                        · show Act.put _ (some 5) _ = _
                          simp only [Act.put, List.setIfInBounds_toArray, List.set_cons_zero, List.set_cons_succ, i64_w, i32_w]
                          rfl
                        exact norm_ (by simp only [putAll, Act.put, List.setIfInBounds_toArray, List.set_cons_zero, List.set_cons_succ]) (hCont (gb169, gb170) _ ⟨hHeld, (by (with_reducible repeat (first | apply Kd.R_alloc | apply Kd.R_drewN | apply Kd.R_drew)); exact Kd.R_mono HO_3.out (fun _ hk => ⟨hk.2, hk.1.2⟩)), (by (with_reducible repeat (first | refine blk_drewN ?_ _ | refine blk_drew ?_ | refine blk_alloc ?_ _)); exact BK169.out), (by (with_reducible repeat (first | refine blk_drewN ?_ _ | refine blk_drew ?_ | refine blk_alloc ?_ _)); exact BK170.out), GW169.out, GE169.out, NB170_169.out, NB169_170.out, GW170.out, GE170.out, (by repeat (first | (with_reducible first | exact HB.out | apply below_alloc | apply pw_below_drewN | apply below_drew1 | refine below_set ?_ GE170.out | refine below_set ?_ GE169.out) | exact HB.out))⟩)
                    rintro ⟨gb169, gb170⟩ w25 ⟨hS_, h0_, h1_, h2_, h3_, h4_, h5_, h6_, h7_, h8_, h9_⟩
                    have n0_ : Aside0 (Kd.R k41 41 w25 w.heap.size (fun k_ => k_ ≠ gb169 ∧ k_ ≠ gb170) (.slice (some ad167) t164.length co21) t164) := ⟨h0_⟩
                    have n1_ : Aside0 (w25.heap[gb169]? = some (.cells #[.int .i64 0, .int .i64 0, .int .i64 0] 41 (0, 0))) := ⟨h1_⟩
                    have n2_ : Aside0 (w25.heap[gb170]? = some (.cells #[.int .i64 0, .int .i64 0, .int .i64 0] 41 (0, 0))) := ⟨h2_⟩
                    have n3_ : Aside0 (w.heap.size ≤ gb169) := ⟨h3_⟩
                    have n4_ : Aside0 (w.heap.size ≤ gb169) := ⟨h4_⟩
                    have n5_ : Aside0 (gb170 ≠ gb169) := ⟨h5_⟩
                    have n6_ : Aside0 (gb169 ≠ gb170) := ⟨h6_⟩
                    have n7_ : Aside0 (w.heap.size ≤ gb170) := ⟨h7_⟩
                    have n8_ : Aside0 (w.heap.size ≤ gb170) := ⟨h8_⟩
                    have n9_ : Aside0 (Below w.heap.size w w25) := ⟨h9_⟩
                    clear HO_3
                    clear HB
                    clear h0_ h1_ h2_ h3_ h4_ h5_ h6_ h7_ h8_ h9_
                    have HO_3 := n0_
                    have BK169 := n1_
                    have BK170 := n2_
                    have GW169 := n3_
                    have GE169 := n4_
                    have NB170_169 := n5_
                    have NB169_170 := n6_
                    have GW170 := n7_
                    have GE170 := n8_
                    have HB := n9_
                    clear n0_ n1_ n2_ n3_ n4_ n5_ n6_ n7_ n8_ n9_
                    have hHeld : w25.cell? (ad167.add (((ji16)).toNat * 3)) = some (.int .i64 ((rd_T41 t164 (ji16)).f0)) ∧ w25.cell? ⟨(ad167.add (((ji16)).toNat * 3)).block, (ad167.add (((ji16)).toNat * 3)).off + 1, none⟩ = some (.int .i64 ((rd_T41 t164 (ji16)).f1)) ∧ w25.cell? ⟨(ad167.add (((ji16)).toNat * 3)).block, (ad167.add (((ji16)).toNat * 3)).off + 2, none⟩ = some (.int .i64 ((rd_T41 t164 (ji16)).f2)) ∧ w25.cell? (ad167.add ((x4_2).toNat * 3)) = some (.int .i64 ((rd_T41 t164 x4_2).f0)) ∧ w25.cell? ⟨(ad167.add ((x4_2).toNat * 3)).block, (ad167.add ((x4_2).toNat * 3)).off + 1, none⟩ = some (.int .i64 ((rd_T41 t164 x4_2).f1)) ∧ w25.cell? ⟨(ad167.add ((x4_2).toNat * 3)).block, (ad167.add ((x4_2).toNat * 3)).off + 2, none⟩ = some (.int .i64 ((rd_T41 t164 x4_2).f2)) := hS_
                    refine norm_ (a' := ?_) ?_ ?_
                    rotate_left
                    · simp only [putAll, Act.put, List.setIfInBounds_toArray, List.set_cons_zero, List.set_cons_succ]
                      rfl
                    refine one_ (i := 11) (N := none) #[true, true, true, true, true, true, true, true, true, true, true, true, false] rfl rfl (one_of HT_.out (by kernel_rfl)) (by decide) (fun K hK => ?_)
                    have hs26 : w25.cell? ⟨gb169, 0, none⟩ = some (.int .i64 0) := (blk_cell BK169.out 0).trans rfl
                    have hfs26 := blk_frozen BK169.out 0
                    have hns26_1 := NB170_169.out
                    have hms26_1 := NB169_170.out
                    have hs27 : w25.cell? ⟨gb169, 1, none⟩ = some (.int .i64 0) := (blk_cell BK169.out 1).trans rfl
                    have hfs27 := blk_frozen BK169.out 1
                    have hns27_1 := NB170_169.out
                    have hms27_1 := NB169_170.out
                    have hs28 : w25.cell? ⟨gb169, 2, none⟩ = some (.int .i64 0) := (blk_cell BK169.out 2).trans rfl
                    have hfs28 := blk_frozen BK169.out 2
                    have hns28_1 := NB170_169.out
                    have hms28_1 := NB169_170.out
                    refine skip_ (w1 := ?_) (by rfl) rfl ?_ ?_
                    rotate_left
                    · go_simp
                      rfl
                    refine hK.out _ _ ⟨((cell_far (p := ⟨gb169, _, none⟩) (by first | exact Kd.own_blk (Kd.R_away HO_3.out (fun _ hk => hk.1)) | (rw [add_block]; exact Kd.own_blk (Kd.R_away HO_3.out (fun _ hk => hk.1))) | (show (Addr.add _ _).block ≠ _; rw [add_block]; exact Kd.own_blk (Kd.R_away HO_3.out (fun _ hk => hk.1))) | (dsimp only; exact Kd.own_blk (Kd.R_away HO_3.out (fun _ hk => hk.1)))) _).trans (((cell_far (p := ⟨gb169, _, none⟩) (by first | exact Kd.own_blk (Kd.R_away HO_3.out (fun _ hk => hk.1)) | (rw [add_block]; exact Kd.own_blk (Kd.R_away HO_3.out (fun _ hk => hk.1))) | (show (Addr.add _ _).block ≠ _; rw [add_block]; exact Kd.own_blk (Kd.R_away HO_3.out (fun _ hk => hk.1))) | (dsimp only; exact Kd.own_blk (Kd.R_away HO_3.out (fun _ hk => hk.1)))) _).trans (((cell_far (p := ⟨gb169, _, none⟩) (by first | exact Kd.own_blk (Kd.R_away HO_3.out (fun _ hk => hk.1)) | (rw [add_block]; exact Kd.own_blk (Kd.R_away HO_3.out (fun _ hk => hk.1))) | (show (Addr.add _ _).block ≠ _; rw [add_block]; exact Kd.own_blk (Kd.R_away HO_3.out (fun _ hk => hk.1))) | (dsimp only; exact Kd.own_blk (Kd.R_away HO_3.out (fun _ hk => hk.1)))) _).trans (hHeld.1)))))), ((cell_far (p := ⟨gb169, _, none⟩) (by first | exact Kd.own_blk (Kd.R_away HO_3.out (fun _ hk => hk.1)) | (rw [add_block]; exact Kd.own_blk (Kd.R_away HO_3.out (fun _ hk => hk.1))) | (show (Addr.add _ _).block ≠ _; rw [add_block]; exact Kd.own_blk (Kd.R_away HO_3.out (fun _ hk => hk.1))) | (dsimp only; exact Kd.own_blk (Kd.R_away HO_3.out (fun _ hk => hk.1)))) _).trans (((cell_far (p := ⟨gb169, _, none⟩) (by first | exact Kd.own_blk (Kd.R_away HO_3.out (fun _ hk => hk.1)) | (rw [add_block]; exact Kd.own_blk (Kd.R_away HO_3.out (fun _ hk => hk.1))) | (show (Addr.add _ _).block ≠ _; rw [add_block]; exact Kd.own_blk (Kd.R_away HO_3.out (fun _ hk => hk.1))) | (dsimp only; exact Kd.own_blk (Kd.R_away HO_3.out (fun _ hk => hk.1)))) _).trans (((cell_far (p := ⟨gb169, _, none⟩) (by first | exact Kd.own_blk (Kd.R_away HO_3.out (fun _ hk => hk.1)) | (rw [add_block]; exact Kd.own_blk (Kd.R_away HO_3.out (fun _ hk => hk.1))) | (show (Addr.add _ _).block ≠ _; rw [add_block]; exact Kd.own_blk (Kd.R_away HO_3.out (fun _ hk => hk.1))) | (dsimp only; exact Kd.own_blk (Kd.R_away HO_3.out (fun _ hk => hk.1)))) _).trans (hHeld.2.1)))))), ((cell_far (p := ⟨gb169, _, none⟩) (by first | exact Kd.own_blk (Kd.R_away HO_3.out (fun _ hk => hk.1)) | (rw [add_block]; exact Kd.own_blk (Kd.R_away HO_3.out (fun _ hk => hk.1))) | (show (Addr.add _ _).block ≠ _; rw [add_block]; exact Kd.own_blk (Kd.R_away HO_3.out (fun _ hk => hk.1))) | (dsimp only; exact Kd.own_blk (Kd.R_away HO_3.out (fun _ hk => hk.1)))) _).trans (((cell_far (p := ⟨gb169, _, none⟩) (by first | exact Kd.own_blk (Kd.R_away HO_3.out (fun _ hk => hk.1)) | (rw [add_block]; exact Kd.own_blk (Kd.R_away HO_3.out (fun _ hk => hk.1))) | (show (Addr.add _ _).block ≠ _; rw [add_block]; exact Kd.own_blk (Kd.R_away HO_3.out (fun _ hk => hk.1))) | (dsimp only; exact Kd.own_blk (Kd.R_away HO_3.out (fun _ hk => hk.1)))) _).trans (((cell_far (p := ⟨gb169, _, none⟩) (by first | exact Kd.own_blk (Kd.R_away HO_3.out (fun _ hk => hk.1)) | (rw [add_block]; exact Kd.own_blk (Kd.R_away HO_3.out (fun _ hk => hk.1))) | (show (Addr.add _ _).block ≠ _; rw [add_block]; exact Kd.own_blk (Kd.R_away HO_3.out (fun _ hk => hk.1))) | (dsimp only; exact Kd.own_blk (Kd.R_away HO_3.out (fun _ hk => hk.1)))) _).trans (hHeld.2.2.1)))))), ((cell_far (p := ⟨gb169, _, none⟩) (by first | exact Kd.own_blk (Kd.R_away HO_3.out (fun _ hk => hk.1)) | (rw [add_block]; exact Kd.own_blk (Kd.R_away HO_3.out (fun _ hk => hk.1))) | (show (Addr.add _ _).block ≠ _; rw [add_block]; exact Kd.own_blk (Kd.R_away HO_3.out (fun _ hk => hk.1))) | (dsimp only; exact Kd.own_blk (Kd.R_away HO_3.out (fun _ hk => hk.1)))) _).trans (((cell_far (p := ⟨gb169, _, none⟩) (by first | exact Kd.own_blk (Kd.R_away HO_3.out (fun _ hk => hk.1)) | (rw [add_block]; exact Kd.own_blk (Kd.R_away HO_3.out (fun _ hk => hk.1))) | (show (Addr.add _ _).block ≠ _; rw [add_block]; exact Kd.own_blk (Kd.R_away HO_3.out (fun _ hk => hk.1))) | (dsimp only; exact Kd.own_blk (Kd.R_away HO_3.out (fun _ hk => hk.1)))) _).trans (((cell_far (p := ⟨gb169, _, none⟩) (by first | exact Kd.own_blk (Kd.R_away HO_3.out (fun _ hk => hk.1)) | (rw [add_block]; exact Kd.own_blk (Kd.R_away HO_3.out (fun _ hk => hk.1))) | (show (Addr.add _ _).block ≠ _; rw [add_block]; exact Kd.own_blk (Kd.R_away HO_3.out (fun _ hk => hk.1))) | (dsimp only; exact Kd.own_blk (Kd.R_away HO_3.out (fun _ hk => hk.1)))) _).trans (hHeld.2.2.2.1)))))), ((cell_far (p := ⟨gb169, _, none⟩) (by first | exact Kd.own_blk (Kd.R_away HO_3.out (fun _ hk => hk.1)) | (rw [add_block]; exact Kd.own_blk (Kd.R_away HO_3.out (fun _ hk => hk.1))) | (show (Addr.add _ _).block ≠ _; rw [add_block]; exact Kd.own_blk (Kd.R_away HO_3.out (fun _ hk => hk.1))) | (dsimp only; exact Kd.own_blk (Kd.R_away HO_3.out (fun _ hk => hk.1)))) _).trans (((cell_far (p := ⟨gb169, _, none⟩) (by first | exact Kd.own_blk (Kd.R_away HO_3.out (fun _ hk => hk.1)) | (rw [add_block]; exact Kd.own_blk (Kd.R_away HO_3.out (fun _ hk => hk.1))) | (show (Addr.add _ _).block ≠ _; rw [add_block]; exact Kd.own_blk (Kd.R_away HO_3.out (fun _ hk => hk.1))) | (dsimp only; exact Kd.own_blk (Kd.R_away HO_3.out (fun _ hk => hk.1)))) _).trans (((cell_far (p := ⟨gb169, _, none⟩) (by first | exact Kd.own_blk (Kd.R_away HO_3.out (fun _ hk => hk.1)) | (rw [add_block]; exact Kd.own_blk (Kd.R_away HO_3.out (fun _ hk => hk.1))) | (show (Addr.add _ _).block ≠ _; rw [add_block]; exact Kd.own_blk (Kd.R_away HO_3.out (fun _ hk => hk.1))) | (dsimp only; exact Kd.own_blk (Kd.R_away HO_3.out (fun _ hk => hk.1)))) _).trans (hHeld.2.2.2.2.1)))))), ((cell_far (p := ⟨gb169, _, none⟩) (by first | exact Kd.own_blk (Kd.R_away HO_3.out (fun _ hk => hk.1)) | (rw [add_block]; exact Kd.own_blk (Kd.R_away HO_3.out (fun _ hk => hk.1))) | (show (Addr.add _ _).block ≠ _; rw [add_block]; exact Kd.own_blk (Kd.R_away HO_3.out (fun _ hk => hk.1))) | (dsimp only; exact Kd.own_blk (Kd.R_away HO_3.out (fun _ hk => hk.1)))) _).trans (((cell_far (p := ⟨gb169, _, none⟩) (by first | exact Kd.own_blk (Kd.R_away HO_3.out (fun _ hk => hk.1)) | (rw [add_block]; exact Kd.own_blk (Kd.R_away HO_3.out (fun _ hk => hk.1))) | (show (Addr.add _ _).block ≠ _; rw [add_block]; exact Kd.own_blk (Kd.R_away HO_3.out (fun _ hk => hk.1))) | (dsimp only; exact Kd.own_blk (Kd.R_away HO_3.out (fun _ hk => hk.1)))) _).trans (((cell_far (p := ⟨gb169, _, none⟩) (by first | exact Kd.own_blk (Kd.R_away HO_3.out (fun _ hk => hk.1)) | (rw [add_block]; exact Kd.own_blk (Kd.R_away HO_3.out (fun _ hk => hk.1))) | (show (Addr.add _ _).block ≠ _; rw [add_block]; exact Kd.own_blk (Kd.R_away HO_3.out (fun _ hk => hk.1))) | (dsimp only; exact Kd.own_blk (Kd.R_away HO_3.out (fun _ hk => hk.1)))) _).trans (hHeld.2.2.2.2.2))))))⟩ (fun hHeld => ?_)
                    clear hK K
                    refine one_ (i := 12) (N := none) #[true, true, true, true, true, true, true, true, true, true, true, true, true] rfl rfl (one_of HT_.out (by kernel_rfl)) (by decide) (fun K hK => ?_)
                    have hs29 : w25.cell? ⟨gb170, 0, none⟩ = some (.int .i64 0) := (blk_cell BK170.out 0).trans rfl
                    have hfs29 := blk_frozen BK170.out 0
                    have hns29_0 := NB169_170.out
                    have hms29_0 := NB170_169.out
                    have hs30 : w25.cell? ⟨gb170, 1, none⟩ = some (.int .i64 0) := (blk_cell BK170.out 1).trans rfl
                    have hfs30 := blk_frozen BK170.out 1
                    have hns30_0 := NB169_170.out
                    have hms30_0 := NB170_169.out
                    have hs31 : w25.cell? ⟨gb170, 2, none⟩ = some (.int .i64 0) := (blk_cell BK170.out 2).trans rfl
                    have hfs31 := blk_frozen BK170.out 2
                    have hns31_0 := NB169_170.out
                    have hms31_0 := NB170_169.out
                    refine skip_ (w1 := ?_) (by rfl) rfl ?_ ?_
                    rotate_left
                    · go_simp
                      rfl
                    refine hK.out _ _ ⟨((cell_far (p := ⟨gb170, _, none⟩) (by first | exact Kd.own_blk (Kd.R_away HO_3.out (fun _ hk => hk.2)) | (rw [add_block]; exact Kd.own_blk (Kd.R_away HO_3.out (fun _ hk => hk.2))) | (show (Addr.add _ _).block ≠ _; rw [add_block]; exact Kd.own_blk (Kd.R_away HO_3.out (fun _ hk => hk.2))) | (dsimp only; exact Kd.own_blk (Kd.R_away HO_3.out (fun _ hk => hk.2)))) _).trans (((cell_far (p := ⟨gb170, _, none⟩) (by first | exact Kd.own_blk (Kd.R_away HO_3.out (fun _ hk => hk.2)) | (rw [add_block]; exact Kd.own_blk (Kd.R_away HO_3.out (fun _ hk => hk.2))) | (show (Addr.add _ _).block ≠ _; rw [add_block]; exact Kd.own_blk (Kd.R_away HO_3.out (fun _ hk => hk.2))) | (dsimp only; exact Kd.own_blk (Kd.R_away HO_3.out (fun _ hk => hk.2)))) _).trans (((cell_far (p := ⟨gb170, _, none⟩) (by first | exact Kd.own_blk (Kd.R_away HO_3.out (fun _ hk => hk.2)) | (rw [add_block]; exact Kd.own_blk (Kd.R_away HO_3.out (fun _ hk => hk.2))) | (show (Addr.add _ _).block ≠ _; rw [add_block]; exact Kd.own_blk (Kd.R_away HO_3.out (fun _ hk => hk.2))) | (dsimp only; exact Kd.own_blk (Kd.R_away HO_3.out (fun _ hk => hk.2)))) _).trans (hHeld.1)))))), ((cell_far (p := ⟨gb170, _, none⟩) (by first | exact Kd.own_blk (Kd.R_away HO_3.out (fun _ hk => hk.2)) | (rw [add_block]; exact Kd.own_blk (Kd.R_away HO_3.out (fun _ hk => hk.2))) | (show (Addr.add _ _).block ≠ _; rw [add_block]; exact Kd.own_blk (Kd.R_away HO_3.out (fun _ hk => hk.2))) | (dsimp only; exact Kd.own_blk (Kd.R_away HO_3.out (fun _ hk => hk.2)))) _).trans (((cell_far (p := ⟨gb170, _, none⟩) (by first | exact Kd.own_blk (Kd.R_away HO_3.out (fun _ hk => hk.2)) | (rw [add_block]; exact Kd.own_blk (Kd.R_away HO_3.out (fun _ hk => hk.2))) | (show (Addr.add _ _).block ≠ _; rw [add_block]; exact Kd.own_blk (Kd.R_away HO_3.out (fun _ hk => hk.2))) | (dsimp only; exact Kd.own_blk (Kd.R_away HO_3.out (fun _ hk => hk.2)))) _).trans (((cell_far (p := ⟨gb170, _, none⟩) (by first | exact Kd.own_blk (Kd.R_away HO_3.out (fun _ hk => hk.2)) | (rw [add_block]; exact Kd.own_blk (Kd.R_away HO_3.out (fun _ hk => hk.2))) | (show (Addr.add _ _).block ≠ _; rw [add_block]; exact Kd.own_blk (Kd.R_away HO_3.out (fun _ hk => hk.2))) | (dsimp only; exact Kd.own_blk (Kd.R_away HO_3.out (fun _ hk => hk.2)))) _).trans (hHeld.2.1)))))), ((cell_far (p := ⟨gb170, _, none⟩) (by first | exact Kd.own_blk (Kd.R_away HO_3.out (fun _ hk => hk.2)) | (rw [add_block]; exact Kd.own_blk (Kd.R_away HO_3.out (fun _ hk => hk.2))) | (show (Addr.add _ _).block ≠ _; rw [add_block]; exact Kd.own_blk (Kd.R_away HO_3.out (fun _ hk => hk.2))) | (dsimp only; exact Kd.own_blk (Kd.R_away HO_3.out (fun _ hk => hk.2)))) _).trans (((cell_far (p := ⟨gb170, _, none⟩) (by first | exact Kd.own_blk (Kd.R_away HO_3.out (fun _ hk => hk.2)) | (rw [add_block]; exact Kd.own_blk (Kd.R_away HO_3.out (fun _ hk => hk.2))) | (show (Addr.add _ _).block ≠ _; rw [add_block]; exact Kd.own_blk (Kd.R_away HO_3.out (fun _ hk => hk.2))) | (dsimp only; exact Kd.own_blk (Kd.R_away HO_3.out (fun _ hk => hk.2)))) _).trans (((cell_far (p := ⟨gb170, _, none⟩) (by first | exact Kd.own_blk (Kd.R_away HO_3.out (fun _ hk => hk.2)) | (rw [add_block]; exact Kd.own_blk (Kd.R_away HO_3.out (fun _ hk => hk.2))) | (show (Addr.add _ _).block ≠ _; rw [add_block]; exact Kd.own_blk (Kd.R_away HO_3.out (fun _ hk => hk.2))) | (dsimp only; exact Kd.own_blk (Kd.R_away HO_3.out (fun _ hk => hk.2)))) _).trans (hHeld.2.2.1)))))), ((cell_far (p := ⟨gb170, _, none⟩) (by first | exact Kd.own_blk (Kd.R_away HO_3.out (fun _ hk => hk.2)) | (rw [add_block]; exact Kd.own_blk (Kd.R_away HO_3.out (fun _ hk => hk.2))) | (show (Addr.add _ _).block ≠ _; rw [add_block]; exact Kd.own_blk (Kd.R_away HO_3.out (fun _ hk => hk.2))) | (dsimp only; exact Kd.own_blk (Kd.R_away HO_3.out (fun _ hk => hk.2)))) _).trans (((cell_far (p := ⟨gb170, _, none⟩) (by first | exact Kd.own_blk (Kd.R_away HO_3.out (fun _ hk => hk.2)) | (rw [add_block]; exact Kd.own_blk (Kd.R_away HO_3.out (fun _ hk => hk.2))) | (show (Addr.add _ _).block ≠ _; rw [add_block]; exact Kd.own_blk (Kd.R_away HO_3.out (fun _ hk => hk.2))) | (dsimp only; exact Kd.own_blk (Kd.R_away HO_3.out (fun _ hk => hk.2)))) _).trans (((cell_far (p := ⟨gb170, _, none⟩) (by first | exact Kd.own_blk (Kd.R_away HO_3.out (fun _ hk => hk.2)) | (rw [add_block]; exact Kd.own_blk (Kd.R_away HO_3.out (fun _ hk => hk.2))) | (show (Addr.add _ _).block ≠ _; rw [add_block]; exact Kd.own_blk (Kd.R_away HO_3.out (fun _ hk => hk.2))) | (dsimp only; exact Kd.own_blk (Kd.R_away HO_3.out (fun _ hk => hk.2)))) _).trans (hHeld.2.2.2.1)))))), ((cell_far (p := ⟨gb170, _, none⟩) (by first | exact Kd.own_blk (Kd.R_away HO_3.out (fun _ hk => hk.2)) | (rw [add_block]; exact Kd.own_blk (Kd.R_away HO_3.out (fun _ hk => hk.2))) | (show (Addr.add _ _).block ≠ _; rw [add_block]; exact Kd.own_blk (Kd.R_away HO_3.out (fun _ hk => hk.2))) | (dsimp only; exact Kd.own_blk (Kd.R_away HO_3.out (fun _ hk => hk.2)))) _).trans (((cell_far (p := ⟨gb170, _, none⟩) (by first | exact Kd.own_blk (Kd.R_away HO_3.out (fun _ hk => hk.2)) | (rw [add_block]; exact Kd.own_blk (Kd.R_away HO_3.out (fun _ hk => hk.2))) | (show (Addr.add _ _).block ≠ _; rw [add_block]; exact Kd.own_blk (Kd.R_away HO_3.out (fun _ hk => hk.2))) | (dsimp only; exact Kd.own_blk (Kd.R_away HO_3.out (fun _ hk => hk.2)))) _).trans (((cell_far (p := ⟨gb170, _, none⟩) (by first | exact Kd.own_blk (Kd.R_away HO_3.out (fun _ hk => hk.2)) | (rw [add_block]; exact Kd.own_blk (Kd.R_away HO_3.out (fun _ hk => hk.2))) | (show (Addr.add _ _).block ≠ _; rw [add_block]; exact Kd.own_blk (Kd.R_away HO_3.out (fun _ hk => hk.2))) | (dsimp only; exact Kd.own_blk (Kd.R_away HO_3.out (fun _ hk => hk.2)))) _).trans (hHeld.2.2.2.2.1)))))), ((cell_far (p := ⟨gb170, _, none⟩) (by first | exact Kd.own_blk (Kd.R_away HO_3.out (fun _ hk => hk.2)) | (rw [add_block]; exact Kd.own_blk (Kd.R_away HO_3.out (fun _ hk => hk.2))) | (show (Addr.add _ _).block ≠ _; rw [add_block]; exact Kd.own_blk (Kd.R_away HO_3.out (fun _ hk => hk.2))) | (dsimp only; exact Kd.own_blk (Kd.R_away HO_3.out (fun _ hk => hk.2)))) _).trans (((cell_far (p := ⟨gb170, _, none⟩) (by first | exact Kd.own_blk (Kd.R_away HO_3.out (fun _ hk => hk.2)) | (rw [add_block]; exact Kd.own_blk (Kd.R_away HO_3.out (fun _ hk => hk.2))) | (show (Addr.add _ _).block ≠ _; rw [add_block]; exact Kd.own_blk (Kd.R_away HO_3.out (fun _ hk => hk.2))) | (dsimp only; exact Kd.own_blk (Kd.R_away HO_3.out (fun _ hk => hk.2)))) _).trans (((cell_far (p := ⟨gb170, _, none⟩) (by first | exact Kd.own_blk (Kd.R_away HO_3.out (fun _ hk => hk.2)) | (rw [add_block]; exact Kd.own_blk (Kd.R_away HO_3.out (fun _ hk => hk.2))) | (show (Addr.add _ _).block ≠ _; rw [add_block]; exact Kd.own_blk (Kd.R_away HO_3.out (fun _ hk => hk.2))) | (dsimp only; exact Kd.own_blk (Kd.R_away HO_3.out (fun _ hk => hk.2)))) _).trans (hHeld.2.2.2.2.2))))))⟩ (fun hHeld => ?_)
                    clear hK K
                    refine done_ (done_of HT_.out (by kernel_rfl)) ?_
                    have hnb32 := NB169_170.out
                    have hnc32 := NB170_169.out
                    have hcz33_0 : w25.cell? ⟨gb169, 0, none⟩ = some (.int .i64 0) := (blk_cell BK169.out 0).trans rfl
                    have hcz33_1 : w25.cell? ⟨gb169, 1, none⟩ = some (.int .i64 0) := (blk_cell BK169.out 1).trans rfl
                    have hcz33_2 : w25.cell? ⟨gb169, 2, none⟩ = some (.int .i64 0) := (blk_cell BK169.out 2).trans rfl
                    have hfz33_0 := blk_frozen BK169.out 0
                    have hfz33_1 := blk_frozen BK169.out 1
                    have hfz33_2 := blk_frozen BK169.out 2
                    have hcz34_0 : w25.cell? ⟨gb170, 0, none⟩ = some (.int .i64 0) := (blk_cell BK170.out 0).trans rfl
                    have hcz34_1 : w25.cell? ⟨gb170, 1, none⟩ = some (.int .i64 0) := (blk_cell BK170.out 1).trans rfl
                    have hcz34_2 : w25.cell? ⟨gb170, 2, none⟩ = some (.int .i64 0) := (blk_cell BK170.out 2).trans rfl
                    have hfz34_0 := blk_frozen BK170.out 0
                    have hfz34_1 := blk_frozen BK170.out 1
                    have hfz34_2 := blk_frozen BK170.out 2
                    have H := HH_.out
                    clear HH_
                    by_cases c20 : ((rd_T41 t164 (ji16)).f1) > ((rd_T41 t164 x4_2).f1)
                    · rw [if_pos c20] at H
                      have c20b0 : decide (((rd_T41 t164 x4_2).f1) < ((rd_T41 t164 (ji16)).f1)) = true := decide_eq_true c20
                      clear c20
                      (first | rw [c20b0] | simp only [c20b0] | skip)
                      obtain rfl := Option.some.inj H
                      try go_wp2
                      go_ret
                      exact ⟨by first | rfl | (simp [errW_none, errW_some] <;> rfl) | (simp only [← hji16]; first | rfl | (simp [errW_none, errW_some] <;> rfl)) | (simp [*, errW_none, errW_some] <;> rfl), by repeat (first | (with_reducible first | exact HB.out | apply below_alloc | apply pw_below_drewN | apply below_drew1 | refine below_set ?_ GE169.out | refine below_set ?_ GE170.out) | exact HB.out)⟩
                    · rw [if_neg c20] at H
                      have c20b0 : decide (((rd_T41 t164 x4_2).f1) < ((rd_T41 t164 (ji16)).f1)) = false := decide_eq_false c20
                      clear c20
                      (first | rw [c20b0] | simp only [c20b0] | skip)
                      by_cases c35 : ((rd_T41 t164 (ji16)).f1) = ((rd_T41 t164 x4_2).f1)
                      · rw [if_pos c35] at H
                        have c35b0 : (((rd_T41 t164 (ji16)).f1) == ((rd_T41 t164 x4_2).f1)) = true := beq_iff_eq.mpr c35
                        have c35b1 : (((rd_T41 t164 (ji16)).f1) != ((rd_T41 t164 x4_2).f1)) = false := bne_eq_false_iff_eq.mpr c35
                        clear c35
                        (first | rw [c35b0] | simp only [c35b0] | skip)
                        by_cases c36 : ((rd_T41 t164 (ji16)).f0) > ((rd_T41 t164 x4_2).f0)
                        · rw [if_pos c36] at H
                          have c36b0 : decide (((rd_T41 t164 x4_2).f0) < ((rd_T41 t164 (ji16)).f0)) = true := decide_eq_true c36
                          clear c36
                          (first | rw [c36b0] | simp only [c36b0] | skip)
                          obtain rfl := Option.some.inj H
                          try go_wp2
                          go_ret
                          exact ⟨by first | rfl | (simp [errW_none, errW_some] <;> rfl) | (simp only [← hji16]; first | rfl | (simp [errW_none, errW_some] <;> rfl)) | (simp [*, errW_none, errW_some] <;> rfl), by repeat (first | (with_reducible first | exact HB.out | apply below_alloc | apply pw_below_drewN | apply below_drew1 | refine below_set ?_ GE169.out | refine below_set ?_ GE170.out) | exact HB.out)⟩
                        · rw [if_neg c36] at H
                          have c36b0 : decide (((rd_T41 t164 x4_2).f0) < ((rd_T41 t164 (ji16)).f0)) = false := decide_eq_false c36
                          clear c36
                          (first | rw [c36b0] | simp only [c36b0] | skip)
                          by_cases c51 : ((rd_T41 t164 (ji16)).f0) = ((rd_T41 t164 x4_2).f0)
                          · rw [if_pos c51] at H
                            have c51b0 : (((rd_T41 t164 (ji16)).f0) == ((rd_T41 t164 x4_2).f0)) = true := beq_iff_eq.mpr c51
                            have c51b1 : (((rd_T41 t164 (ji16)).f0) != ((rd_T41 t164 x4_2).f0)) = false := bne_eq_false_iff_eq.mpr c51
                            clear c51
                            (first | rw [c51b0] | simp only [c51b0] | skip)
                            by_cases c52 : ((rd_T41 t164 (ji16)).f2) > ((rd_T41 t164 x4_2).f2)
                            · rw [if_pos c52] at H
                              have c52b0 : decide (((rd_T41 t164 x4_2).f2) < ((rd_T41 t164 (ji16)).f2)) = true := decide_eq_true c52
                              clear c52
                              (first | rw [c52b0] | simp only [c52b0] | skip)
                              obtain rfl := Option.some.inj H
                              try go_wp2
                              go_ret
                              exact ⟨by first | rfl | (simp [errW_none, errW_some] <;> rfl) | (simp only [← hji16]; first | rfl | (simp [errW_none, errW_some] <;> rfl)) | (simp [*, errW_none, errW_some] <;> rfl), by repeat (first | (with_reducible first | exact HB.out | apply below_alloc | apply pw_below_drewN | apply below_drew1 | refine below_set ?_ GE169.out | refine below_set ?_ GE170.out) | exact HB.out)⟩
                            · rw [if_neg c52] at H
                              have c52b0 : decide (((rd_T41 t164 x4_2).f2) < ((rd_T41 t164 (ji16)).f2)) = false := decide_eq_false c52
                              clear c52
                              (first | rw [c52b0] | simp only [c52b0] | skip)
                              have H' := Aside0.mk H
                              clear H
                              try go_wp2
                              go_roundg k2
                              case measure => have := HJ1.out; have := HK2.out; omega
                              case rel => exact ⟨(wrap64 (x4_2 + 1)), (by first | rfl | (simp; done) | (simp [*]; done)), H', ⟨by have := HJ1.out; have := HK2.out; omega⟩, ⟨by (with_reducible repeat (first | apply Kd.R_alloc | apply Kd.R_drewN | apply Kd.R_drew)); exact Kd.R_mono (Kd.R_far (p := ⟨gb170, 2, none⟩) (Kd.R_far (p := ⟨gb170, 1, none⟩) (Kd.R_far (p := ⟨gb170, 0, none⟩) (Kd.R_far (p := ⟨gb169, 2, none⟩) (Kd.R_far (p := ⟨gb169, 1, none⟩) (Kd.R_far (p := ⟨gb169, 0, none⟩) (Kd.R_mono (Kd.R_mono HO_3.out (fun k_ hk => (⟨hk, hk.1⟩ : _ ∧ k_ ≠ gb169))) (fun k_ hk => (⟨hk, hk.1.2⟩ : _ ∧ k_ ≠ gb170))) (fun _ hk => hk.1.2) (.int .i64 ((rd_T41 t164 (ji16)).f0))) (fun _ hk => hk.1.2) (.int .i64 ((rd_T41 t164 (ji16)).f1))) (fun _ hk => hk.1.2) (.int .i64 ((rd_T41 t164 (ji16)).f2))) (fun _ hk => hk.2) (.int .i64 ((rd_T41 t164 x4_2).f0))) (fun _ hk => hk.2) (.int .i64 ((rd_T41 t164 x4_2).f1))) (fun _ hk => hk.2) (.int .i64 ((rd_T41 t164 x4_2).f2))) (fun _ hk => trivial)⟩, ⟨by repeat (first | (with_reducible first | exact HB.out | apply below_alloc | apply pw_below_drewN | apply below_drew1 | refine below_set ?_ GE169.out | refine below_set ?_ GE170.out) | exact HB.out)⟩⟩
                          · rw [if_neg c51] at H
                            have c51b0 : (((rd_T41 t164 (ji16)).f0) == ((rd_T41 t164 x4_2).f0)) = false := beq_eq_false_iff_ne.mpr c51
                            have c51b1 : (((rd_T41 t164 (ji16)).f0) != ((rd_T41 t164 x4_2).f0)) = true := bne_iff_ne.mpr c51
                            have H' := Aside0.mk H
                            clear H
                            try go_wp2
                            go_roundg k2
                            case measure => have := HJ1.out; have := HK2.out; omega
                            case rel => exact ⟨(wrap64 (x4_2 + 1)), (by first | rfl | (simp; done) | (simp [*]; done)), H', ⟨by have := HJ1.out; have := HK2.out; omega⟩, ⟨by (with_reducible repeat (first | apply Kd.R_alloc | apply Kd.R_drewN | apply Kd.R_drew)); exact Kd.R_mono (Kd.R_far (p := ⟨gb170, 2, none⟩) (Kd.R_far (p := ⟨gb170, 1, none⟩) (Kd.R_far (p := ⟨gb170, 0, none⟩) (Kd.R_far (p := ⟨gb169, 2, none⟩) (Kd.R_far (p := ⟨gb169, 1, none⟩) (Kd.R_far (p := ⟨gb169, 0, none⟩) (Kd.R_mono (Kd.R_mono HO_3.out (fun k_ hk => (⟨hk, hk.1⟩ : _ ∧ k_ ≠ gb169))) (fun k_ hk => (⟨hk, hk.1.2⟩ : _ ∧ k_ ≠ gb170))) (fun _ hk => hk.1.2) (.int .i64 ((rd_T41 t164 (ji16)).f0))) (fun _ hk => hk.1.2) (.int .i64 ((rd_T41 t164 (ji16)).f1))) (fun _ hk => hk.1.2) (.int .i64 ((rd_T41 t164 (ji16)).f2))) (fun _ hk => hk.2) (.int .i64 ((rd_T41 t164 x4_2).f0))) (fun _ hk => hk.2) (.int .i64 ((rd_T41 t164 x4_2).f1))) (fun _ hk => hk.2) (.int .i64 ((rd_T41 t164 x4_2).f2))) (fun _ hk => trivial)⟩, ⟨by repeat (first | (with_reducible first | exact HB.out | apply below_alloc | apply pw_below_drewN | apply below_drew1 | refine below_set ?_ GE169.out | refine below_set ?_ GE170.out) | exact HB.out)⟩⟩
                      · rw [if_neg c35] at H
                        have c35b0 : (((rd_T41 t164 (ji16)).f1) == ((rd_T41 t164 x4_2).f1)) = false := beq_eq_false_iff_ne.mpr c35
                        have c35b1 : (((rd_T41 t164 (ji16)).f1) != ((rd_T41 t164 x4_2).f1)) = true := bne_iff_ne.mpr c35
                        have H' := Aside0.mk H
                        clear H
                        try go_wp2
                        go_roundg k2
                        case measure => have := HJ1.out; have := HK2.out; omega
                        case rel => exact ⟨(wrap64 (x4_2 + 1)), (by first | rfl | (simp; done) | (simp [*]; done)), H', ⟨by have := HJ1.out; have := HK2.out; omega⟩, ⟨by (with_reducible repeat (first | apply Kd.R_alloc | apply Kd.R_drewN | apply Kd.R_drew)); exact Kd.R_mono (Kd.R_far (p := ⟨gb170, 2, none⟩) (Kd.R_far (p := ⟨gb170, 1, none⟩) (Kd.R_far (p := ⟨gb170, 0, none⟩) (Kd.R_far (p := ⟨gb169, 2, none⟩) (Kd.R_far (p := ⟨gb169, 1, none⟩) (Kd.R_far (p := ⟨gb169, 0, none⟩) (Kd.R_mono (Kd.R_mono HO_3.out (fun k_ hk => (⟨hk, hk.1⟩ : _ ∧ k_ ≠ gb169))) (fun k_ hk => (⟨hk, hk.1.2⟩ : _ ∧ k_ ≠ gb170))) (fun _ hk => hk.1.2) (.int .i64 ((rd_T41 t164 (ji16)).f0))) (fun _ hk => hk.1.2) (.int .i64 ((rd_T41 t164 (ji16)).f1))) (fun _ hk => hk.1.2) (.int .i64 ((rd_T41 t164 (ji16)).f2))) (fun _ hk => hk.2) (.int .i64 ((rd_T41 t164 x4_2).f0))) (fun _ hk => hk.2) (.int .i64 ((rd_T41 t164 x4_2).f1))) (fun _ hk => hk.2) (.int .i64 ((rd_T41 t164 x4_2).f2))) (fun _ hk => trivial)⟩, ⟨by repeat (first | (with_reducible first | exact HB.out | apply below_alloc | apply pw_below_drewN | apply below_drew1 | refine below_set ?_ GE169.out | refine below_set ?_ GE170.out) | exact HB.out)⟩⟩
                  · rw [if_neg c19] at H
                    exact absurd H (by simp)
                · rw [if_neg c18] at H
                  exact absurd H (by simp)
              · rw [if_neg c17] at H
                exact absurd H (by simp)
            · rw [if_neg c15] at H
              have c15b0 : decide (x4_2 < (t164.length : Int)) = false := decide_eq_false c15
              clear c15
              have H' := Aside0.mk H
              clear H
              obtain ⟨Ao109, co109, eo109⟩ := Kd.R_slice HO_3.out
              subst eo109
              go_wp2
              go_loopg [7] k2 (fun kq v7 w' => ∃ (x7_3 : Int), v7 = .int .i64 x7_3 ∧ Aside0 (modillionlaw08_FoldRises.l1 kq l0 t164 x7_3 = some r) ∧ Aside0 (kq ≤ k2) ∧ Aside0 (Kd.R k41 41 w' w.heap.size (fun _ => True) (.slice Ao109 t164.length co109) t164) ∧ Aside0 (Below w.heap.size w w'))
              case atStart => exact ⟨(0), (by first | rfl | (simp; done) | (simp [*]; done)), H', ⟨Nat.le_refl _⟩, ⟨by (with_reducible repeat (first | apply Kd.R_alloc | apply Kd.R_drewN | apply Kd.R_drew)); exact HO_3.out⟩, ⟨by repeat (first | (with_reducible first | exact HB.out | apply below_alloc | apply pw_below_drewN | apply below_drew1) | exact HB.out)⟩⟩
              case round =>
                clear H'
                try clear c1
                try clear p1
                try clear q1
                try clear hx1
                try clear p2
                try clear c3
                try clear p6
                try clear c9
                try clear c10
                try clear c15
                try clear c15b0
                try clear p16
                try clear q16
                try clear hx16
                try clear c17
                try clear c18
                try clear c19
                try clear c35
                try clear c35b0
                try clear c35b1
                try clear p64
                try clear c92
                try clear c106
                try clear hcz107_0
                try clear hcz107_1
                try clear hcz107_2
                try clear hcz108_0
                try clear hcz108_1
                try clear hcz108_2
                try clear hcz93_0
                try clear hcz93_1
                try clear hcz93_2
                try clear hcz94_0
                try clear hcz94_1
                try clear hcz94_2
                try clear hfz107_0
                try clear hfz107_1
                try clear hfz107_2
                try clear hfz108_0
                try clear hfz108_1
                try clear hfz108_2
                try clear hfz93_0
                try clear hfz93_1
                try clear hfz93_2
                try clear hfz94_0
                try clear hfz94_1
                try clear hfz94_2
                try clear hx167_0
                try clear hx167_1
                try clear hx167_2
                try clear hx168_0
                try clear hx168_1
                try clear hx168_2
                try clear p167
                try clear p168
                try clear q167
                try clear q168
                obtain ⟨x7_3, rfl, HA, HK3, HO_3, HB⟩ := hrel
                cases gk with
                | zero => exact absurd HA.out (by simp [modillionlaw08_FoldRises.l1])
                | succ k3 =>
                  have H := HA.out
                  clear HA
                  simp only [modillionlaw08_FoldRises.l1] at H
                  by_cases c110 : x7_3 < (l0.length : Int)
                  · rw [if_pos c110] at H
                    have c110b0 : decide (x7_3 < (l0.length : Int)) = true := decide_eq_true c110
                    clear c110
                    have H' := Aside0.mk H
                    clear H
                    go_wp2
                    go_loopg [8, 9, 10] k3 (fun kq v8 v9 v10 w' => ∃ (x8_4 : Int) (x9_4 : Int) (x10_4 : Int), v8 = .int .i64 x8_4 ∧ v9 = .int .i64 x9_4 ∧ v10 = .int .i64 x10_4 ∧ Aside0 (modillionlaw08_FoldRises.l2 kq l0 t164 x7_3 x8_4 x9_4 x10_4 = some r) ∧ Aside0 (kq ≤ k3) ∧ Aside0 (Kd.R k41 41 w' w.heap.size (fun _ => True) (.slice Ao109 t164.length co109) t164) ∧ Aside0 (Below w.heap.size w w'))
                    case atStart => exact ⟨(0), (0), (0), (by first | rfl | (simp; done) | (simp [*]; done)), (by first | rfl | (simp; done) | (simp [*]; done)), (by first | rfl | (simp; done) | (simp [*]; done)), H', ⟨Nat.le_refl _⟩, ⟨by (with_reducible repeat (first | apply Kd.R_alloc | apply Kd.R_drewN | apply Kd.R_drew)); exact HO_3.out⟩, ⟨by repeat (first | (with_reducible first | exact HB.out | apply below_alloc | apply pw_below_drewN | apply below_drew1) | exact HB.out)⟩⟩
                    case round =>
                      clear H'
                      try clear c1
                      try clear p1
                      try clear q1
                      try clear hx1
                      try clear p2
                      try clear c3
                      try clear p6
                      try clear c9
                      try clear c10
                      try clear c11
                      try clear c15
                      try clear c15b0
                      try clear p16
                      try clear q16
                      try clear hx16
                      try clear c17
                      try clear c18
                      try clear c19
                      try clear c35
                      try clear c35b0
                      try clear c35b1
                      try clear p64
                      try clear c92
                      try clear c106
                      try clear c110
                      try clear c110b0
                      try clear hcz107_0
                      try clear hcz107_1
                      try clear hcz107_2
                      try clear hcz108_0
                      try clear hcz108_1
                      try clear hcz108_2
                      try clear hcz93_0
                      try clear hcz93_1
                      try clear hcz93_2
                      try clear hcz94_0
                      try clear hcz94_1
                      try clear hcz94_2
                      try clear hfz107_0
                      try clear hfz107_1
                      try clear hfz107_2
                      try clear hfz108_0
                      try clear hfz108_1
                      try clear hfz108_2
                      try clear hfz93_0
                      try clear hfz93_1
                      try clear hfz93_2
                      try clear hfz94_0
                      try clear hfz94_1
                      try clear hfz94_2
                      try clear hx167_0
                      try clear hx167_1
                      try clear hx167_2
                      try clear hx168_0
                      try clear hx168_1
                      try clear hx168_2
                      try clear p1
                      try clear p16
                      try clear p167
                      try clear p168
                      try clear p2
                      try clear p6
                      try clear p64
                      try clear q1
                      try clear q16
                      try clear q167
                      try clear q168
                      obtain ⟨x8_4, x9_4, x10_4, rfl, rfl, rfl, HA, HK4, HO_3, HB⟩ := hrel
                      cases gk with
                      | zero => exact absurd HA.out (by simp [modillionlaw08_FoldRises.l2])
                      | succ k4 =>
                        have H := HA.out
                        clear HA
                        simp only [modillionlaw08_FoldRises.l2] at H
                        by_cases c111 : x10_4 < (l0.length : Int)
                        · rw [if_pos c111] at H
                          have c111b0 : decide (x10_4 < (l0.length : Int)) = true := decide_eq_true c111
                          clear c111
                          by_cases c112 : 0 ≤ x10_4
                          · rw [if_pos c112] at H
                            have c112b0 : decide (0 ≤ x10_4) = true := decide_eq_true c112
                            clear c112
                            by_cases c113 : 0 ≤ x7_3
                            · rw [if_pos c113] at H
                              have c113b0 : decide (0 ≤ x7_3) = true := decide_eq_true c113
                              clear c113
                              by_cases c114 : x7_3 < (l0.length : Int)
                              · rw [if_pos c114] at H
                                have c114b0 : decide (x7_3 < (l0.length : Int)) = true := decide_eq_true c114
                                clear c114
                                have HH_ := Aside0.mk H
                                clear H
                                try go_wp2
                                have n0_ := Aside0.mk (Kd.R_drew HO_3.out)
                                have n1_ := Aside0.mk (below_drew1 HB.out)
                                clear HO_3
                                clear HB
                                have HO_3 := n0_
                                have HB := n1_
                                clear n0_ n1_
                                have p175 : 0 ≤ (x10_4 : Int) := of_decide_eq_true (by first | (with_reducible assumption) | assumption)
                                have q175 : x10_4 < (l0.length : Int) := of_decide_eq_true (by first | (with_reducible assumption) | assumption)
                                obtain ⟨ad175, e175, hx175_0, hx175_1, hx175_2⟩ := at_T41 HR0.out x10_4 p175 q175
                                have hw175_2 := hx175_2
                                have hw175_1 := hx175_1
                                have hw175_0 := hx175_0
                                cases e175
                                replace hx175_0 := (HB.out.cell (World.block_lt_of_cell? w _ hx175_0)).trans hx175_0
                                replace hx175_1 := (HB.out.cell (World.block_lt_of_cell? w _ hx175_1)).trans hx175_1
                                replace hx175_2 := (HB.out.cell (World.block_lt_of_cell? w _ hx175_2)).trans hx175_2
                                replace p175 := eq_true p175
                                replace q175 := eq_true q175
                                have p176 : 0 ≤ (x7_3 : Int) := of_decide_eq_true (by first | (with_reducible assumption) | assumption)
                                have q176 : x7_3 < (l0.length : Int) := of_decide_eq_true (by first | (with_reducible assumption) | assumption)
                                obtain ⟨ad176, e176, hx176_0, hx176_1, hx176_2⟩ := at_T41 HR0.out x7_3 p176 q176
                                have hw176_2 := hx176_2
                                have hw176_1 := hx176_1
                                have hw176_0 := hx176_0
                                obtain rfl : ad175 = ad176 := (by injection e176)
                                replace hx176_0 := (HB.out.cell (World.block_lt_of_cell? w _ hx176_0)).trans hx176_0
                                replace hx176_1 := (HB.out.cell (World.block_lt_of_cell? w _ hx176_1)).trans hx176_1
                                replace hx176_2 := (HB.out.cell (World.block_lt_of_cell? w _ hx176_2)).trans hx176_2
                                replace p176 := eq_true p176
                                replace q176 := eq_true q176
                                refine start_ (n := 9) (S := fun w' => w'.cell? (ad175.add ((x10_4).toNat * 3)) = some (.int .i64 ((rd_T41 l0 x10_4).f0)) ∧ w'.cell? ⟨(ad175.add ((x10_4).toNat * 3)).block, (ad175.add ((x10_4).toNat * 3)).off + 1, none⟩ = some (.int .i64 ((rd_T41 l0 x10_4).f1)) ∧ w'.cell? ⟨(ad175.add ((x10_4).toNat * 3)).block, (ad175.add ((x10_4).toNat * 3)).off + 2, none⟩ = some (.int .i64 ((rd_T41 l0 x10_4).f2)) ∧ w'.cell? (ad175.add ((x7_3).toNat * 3)) = some (.int .i64 ((rd_T41 l0 x7_3).f0)) ∧ w'.cell? ⟨(ad175.add ((x7_3).toNat * 3)).block, (ad175.add ((x7_3).toNat * 3)).off + 1, none⟩ = some (.int .i64 ((rd_T41 l0 x7_3).f1)) ∧ w'.cell? ⟨(ad175.add ((x7_3).toNat * 3)).block, (ad175.add ((x7_3).toNat * 3)).off + 2, none⟩ = some (.int .i64 ((rd_T41 l0 x7_3).f2))) (ds := []) #[false, false, false, false, false, false, false, false, false] (by kernel_rfl) rfl rfl ⟨((HB.out.cell (World.block_lt_of_cell? w _ hw175_0)).trans hw175_0), ((HB.out.cell (World.block_lt_of_cell? w _ hw175_1)).trans hw175_1), ((HB.out.cell (World.block_lt_of_cell? w _ hw175_2)).trans hw175_2), ((HB.out.cell (World.block_lt_of_cell? w _ hw176_0)).trans hw176_0), ((HB.out.cell (World.block_lt_of_cell? w _ hw176_1)).trans hw176_1), ((HB.out.cell (World.block_lt_of_cell? w _ hw176_2)).trans hw176_2)⟩ (fun hHeld => ?_); refine with_tabW modillionlaw08_FoldRises.tab17 modillionlaw08_FoldRises.bits17 (fun HT_ HW_ => ?_)
                                generalize wr.drew = w118 at HO_3 HB hx175_0 hx175_1 hx175_2 hx176_0 hx176_1 hx176_2 hHeld ⊢
                                refine pure_ (i := 0) (N := some 84) (v := ?_) (a' := ?_) #[true, false, false, false, false, false, false, false, false] rfl rfl (any_of HT_.out (by kernel_rfl)) (fun _ _ _ h => h) (Or.inl ⟨by rfl, ?_⟩) ?_ ?_
                                rotate_left
                                · intro w'
                                  go_simp
                                  with_reducible rfl
                                rotate_left
                                · simp only [Act.put, List.setIfInBounds_toArray, List.set_cons_zero, List.set_cons_succ, i64_w, i32_w]
                                  rfl
                                refine pure_ (i := 1) (N := some 85) (v := ?_) (a' := ?_) #[true, true, false, false, false, false, false, false, false] rfl rfl (any_of HT_.out (by kernel_rfl)) (fun _ _ _ h => h) (Or.inl ⟨by rfl, ?_⟩) ?_ ?_
                                rotate_left
                                · intro w'
                                  go_simp
                                  with_reducible rfl
                                rotate_left
                                · simp only [Act.put, List.setIfInBounds_toArray, List.set_cons_zero, List.set_cons_succ, i64_w, i32_w]
                                  rfl
                                refine pure_ (i := 2) (N := some 86) (v := ?_) (a' := ?_) #[true, true, true, false, false, false, false, false, false] rfl rfl (any_of HT_.out (by kernel_rfl)) (fun _ _ _ h => h) (Or.inl ⟨by rfl, ?_⟩) ?_ ?_
                                rotate_left
                                · intro w'
                                  go_simp
                                  with_reducible rfl
                                rotate_left
                                · simp only [Act.put, List.setIfInBounds_toArray, List.set_cons_zero, List.set_cons_succ, i64_w, i32_w]
                                  rfl
                                refine pure_ (i := 4) (N := some 88) (v := ?_) (a' := ?_) #[true, true, true, false, true, false, false, false, false] rfl rfl (any_of HT_.out (by kernel_rfl)) (fun _ _ _ h => h) (Or.inl ⟨by rfl, ?_⟩) ?_ ?_
                                rotate_left
                                · intro w'
                                  go_simp
                                  with_reducible rfl
                                rotate_left
                                · simp only [Act.put, List.setIfInBounds_toArray, List.set_cons_zero, List.set_cons_succ, i64_w, i32_w]
                                  rfl
                                refine pure_ (i := 5) (N := some 89) (v := ?_) (a' := ?_) #[true, true, true, false, true, true, false, false, false] rfl rfl (any_of HT_.out (by kernel_rfl)) (fun _ _ _ h => h) (Or.inl ⟨by rfl, ?_⟩) ?_ ?_
                                rotate_left
                                · intro w'
                                  go_simp
                                  with_reducible rfl
                                rotate_left
                                · simp only [Act.put, List.setIfInBounds_toArray, List.set_cons_zero, List.set_cons_succ, i64_w, i32_w]
                                  rfl
                                refine pure_ (i := 6) (N := some 90) (v := ?_) (a' := ?_) #[true, true, true, false, true, true, true, false, false] rfl rfl (any_of HT_.out (by kernel_rfl)) (fun _ _ _ h => h) (Or.inl ⟨by rfl, ?_⟩) ?_ ?_
                                rotate_left
                                · intro w'
                                  go_simp
                                  with_reducible rfl
                                rotate_left
                                · simp only [Act.put, List.setIfInBounds_toArray, List.set_cons_zero, List.set_cons_succ, i64_w, i32_w]
                                  rfl
                                refine take_ (i := 3) (N := some 87) (v := ?_) (a' := ?_) #[true, true, true, true, true, true, true, false, false] rfl rfl (take_ofW HT_.out HW_.out (by kernel_rfl)) (fun _ _ _ h => h) (Or.inl ⟨by rfl, ?_⟩) hHeld ?_ ?_
                                rotate_left
                                · rintro w' ⟨s0, s1, s2, s3, s4, s5⟩
                                  go_simp
                                  with_reducible rfl
                                rotate_left
                                · simp only [Act.put, List.setIfInBounds_toArray, List.set_cons_zero, List.set_cons_succ, i64_w, i32_w]
                                  rfl
                                refine take_ (i := 7) (N := some 91) (v := ?_) (a' := ?_) #[true, true, true, true, true, true, true, true, false] rfl rfl (take_ofW HT_.out HW_.out (by kernel_rfl)) (fun _ _ _ h => h) (Or.inl ⟨by rfl, ?_⟩) hHeld ?_ ?_
                                rotate_left
                                · rintro w' ⟨s0, s1, s2, s3, s4, s5⟩
                                  go_simp
                                  with_reducible rfl
                                rotate_left
                                · simp only [Act.put, List.setIfInBounds_toArray, List.set_cons_zero, List.set_cons_succ, i64_w, i32_w]
                                  rfl
                                refine pure_ (i := 8) (N := some 92) (v := ?_) (a' := ?_) #[true, true, true, true, true, true, true, true, true] rfl rfl (any_of HT_.out (by kernel_rfl)) (fun _ _ _ h => h) (Or.inl ⟨by rfl, ?_⟩) ?_ ?_
                                rotate_left
                                · intro w'
                                  go_simp
                                  with_reducible rfl
                                rotate_left
                                · simp only [Act.put, List.setIfInBounds_toArray, List.set_cons_zero, List.set_cons_succ, i64_w, i32_w]
                                  rfl
                                refine done_ (done_of HT_.out (by kernel_rfl)) ?_
                                have H := HH_.out
                                clear HH_
                                by_cases c115 : (((rd_T41 l0 x10_4).f0) == ((rd_T41 l0 x7_3).f0) && (((rd_T41 l0 x10_4).f1) == ((rd_T41 l0 x7_3).f1) && (((rd_T41 l0 x10_4).f2) == ((rd_T41 l0 x7_3).f2)))) = true
                                · rw [if_pos c115] at H
                                  have c115b0 : (((rd_T41 l0 x10_4).f0) == ((rd_T41 l0 x7_3).f0) && (((rd_T41 l0 x10_4).f1) == ((rd_T41 l0 x7_3).f1) && (((rd_T41 l0 x10_4).f2) == ((rd_T41 l0 x7_3).f2)))) = true := c115
                                  (try (have c115b1 : decide (((rd_T41 l0 x10_4).f0) = ((rd_T41 l0 x7_3).f0) && (((rd_T41 l0 x10_4).f1) == ((rd_T41 l0 x7_3).f1) && (((rd_T41 l0 x10_4).f2) == ((rd_T41 l0 x7_3).f2)))) = true := by simpa using c115))
                                  (try (have c115b2 : (((rd_T41 l0 x10_4).f0) == ((rd_T41 l0 x7_3).f0) && (((rd_T41 l0 x10_4).f1) == ((rd_T41 l0 x7_3).f1) && (((rd_T41 l0 x10_4).f2) == ((rd_T41 l0 x7_3).f2)))) = true := by simpa using c115))
                                  clear c115
                                  (first | rw [c115b0] | simp only [c115b0] | skip)
                                  by_cases c116 : x10_4 < (t164.length : Int)
                                  · rw [if_pos c116] at H
                                    have c116b0 : decide (x10_4 < (t164.length : Int)) = true := decide_eq_true c116
                                    clear c116
                                    (first | rw [c116b0] | simp only [c116b0] | skip)
                                    have HH_ := Aside0.mk H
                                    clear H
                                    try go_wp2
                                    have n0_ := Aside0.mk (Kd.R_drew HO_3.out)
                                    have n1_ := Aside0.mk (below_drew1 HB.out)
                                    clear HO_3
                                    clear HB
                                    have HO_3 := n0_
                                    have HB := n1_
                                    clear n0_ n1_
                                    have p177 : 0 ≤ (x10_4 : Int) := of_decide_eq_true (by first | (with_reducible assumption) | assumption)
                                    have q177 : x10_4 < (t164.length : Int) := of_decide_eq_true (by first | (with_reducible assumption) | assumption)
                                    obtain ⟨ad177, e177, hx177_0, hx177_1, hx177_2⟩ := at_T41 (Kd.R_reads' HO_3.out).2.2 x10_4 p177 q177
                                    cases e177
                                    replace p177 := eq_true p177
                                    replace q177 := eq_true q177
                                    have p178 : 0 ≤ (x7_3 : Int) := of_decide_eq_true (by first | (with_reducible assumption) | assumption)
                                    have q178 : x7_3 < (l0.length : Int) := of_decide_eq_true (by first | (with_reducible assumption) | assumption)
                                    obtain ⟨ad178, e178, hx178_0, hx178_1, hx178_2⟩ := at_T41 HR0.out x7_3 p178 q178
                                    have hw178_2 := hx178_2
                                    have hw178_1 := hx178_1
                                    have hw178_0 := hx178_0
                                    obtain rfl : ad175 = ad178 := (by injection e178)
                                    replace hx178_0 := (HB.out.cell (World.block_lt_of_cell? w _ hx178_0)).trans hx178_0
                                    replace hx178_1 := (HB.out.cell (World.block_lt_of_cell? w _ hx178_1)).trans hx178_1
                                    replace hx178_2 := (HB.out.cell (World.block_lt_of_cell? w _ hx178_2)).trans hx178_2
                                    replace p178 := eq_true p178
                                    replace q178 := eq_true q178
                                    refine start_ (n := 15) (S := fun w' => w'.cell? (ad177.add ((x10_4).toNat * 3)) = some (.int .i64 ((rd_T41 t164 x10_4).f0)) ∧ w'.cell? ⟨(ad177.add ((x10_4).toNat * 3)).block, (ad177.add ((x10_4).toNat * 3)).off + 1, none⟩ = some (.int .i64 ((rd_T41 t164 x10_4).f1)) ∧ w'.cell? ⟨(ad177.add ((x10_4).toNat * 3)).block, (ad177.add ((x10_4).toNat * 3)).off + 2, none⟩ = some (.int .i64 ((rd_T41 t164 x10_4).f2)) ∧ w'.cell? (ad175.add ((x7_3).toNat * 3)) = some (.int .i64 ((rd_T41 l0 x7_3).f0)) ∧ w'.cell? ⟨(ad175.add ((x7_3).toNat * 3)).block, (ad175.add ((x7_3).toNat * 3)).off + 1, none⟩ = some (.int .i64 ((rd_T41 l0 x7_3).f1)) ∧ w'.cell? ⟨(ad175.add ((x7_3).toNat * 3)).block, (ad175.add ((x7_3).toNat * 3)).off + 2, none⟩ = some (.int .i64 ((rd_T41 l0 x7_3).f2))) (ds := []) #[false, false, false, false, false, false, false, false, false, false, false, false, false, false, false] (by kernel_rfl) rfl rfl ⟨hx177_0, hx177_1, hx177_2, ((HB.out.cell (World.block_lt_of_cell? w _ hw178_0)).trans hw178_0), ((HB.out.cell (World.block_lt_of_cell? w _ hw178_1)).trans hw178_1), ((HB.out.cell (World.block_lt_of_cell? w _ hw178_2)).trans hw178_2)⟩ (fun hHeld => ?_); refine with_tabW modillionlaw08_FoldRises.tab19 modillionlaw08_FoldRises.bits19 (fun HT_ HW_ => ?_)
                                    generalize w118.drew = w119 at HO_3 HB hx177_0 hx177_1 hx177_2 hx178_0 hx178_1 hx178_2 hHeld ⊢
                                    refine pure_ (i := 0) (N := some 95) (v := ?_) (a' := ?_) #[true, false, false, false, false, false, false, false, false, false, false, false, false, false, false] rfl rfl (any_of HT_.out (by kernel_rfl)) (fun _ _ _ h => h) (Or.inl ⟨by rfl, ?_⟩) ?_ ?_
                                    rotate_left
                                    · intro w'
                                      go_simp
                                      with_reducible rfl
                                    rotate_left
                                    · simp only [Act.put, List.setIfInBounds_toArray, List.set_cons_zero, List.set_cons_succ, i64_w, i32_w]
                                      rfl
                                    refine pure_ (i := 1) (N := some 96) (v := ?_) (a' := ?_) #[true, true, false, false, false, false, false, false, false, false, false, false, false, false, false] rfl rfl (any_of HT_.out (by kernel_rfl)) (fun _ _ _ h => h) (Or.inl ⟨by rfl, ?_⟩) ?_ ?_
                                    rotate_left
                                    · intro w'
                                      go_simp
                                      with_reducible rfl
                                    rotate_left
                                    · simp only [Act.put, List.setIfInBounds_toArray, List.set_cons_zero, List.set_cons_succ, i64_w, i32_w]
                                      rfl
                                    refine pure_ (i := 2) (N := some 97) (v := ?_) (a' := ?_) #[true, true, true, false, false, false, false, false, false, false, false, false, false, false, false] rfl rfl (any_of HT_.out (by kernel_rfl)) (fun _ _ _ h => h) (Or.inl ⟨by rfl, ?_⟩) ?_ ?_
                                    rotate_left
                                    · intro w'
                                      go_simp
                                      with_reducible rfl
                                    rotate_left
                                    · simp only [Act.put, List.setIfInBounds_toArray, List.set_cons_zero, List.set_cons_succ, i64_w, i32_w]
                                      rfl
                                    refine pure_ (i := 3) (N := some 98) (v := ?_) (a' := ?_) #[true, true, true, true, false, false, false, false, false, false, false, false, false, false, false] rfl rfl (any_of HT_.out (by kernel_rfl)) (fun _ _ _ h => h) (Or.inl ⟨by rfl, ?_⟩) ?_ ?_
                                    rotate_left
                                    · intro w'
                                      go_simp
                                      with_reducible rfl
                                    rotate_left
                                    · simp only [Act.put, List.setIfInBounds_toArray, List.set_cons_zero, List.set_cons_succ, i64_w, i32_w]
                                      rfl
                                    refine pure_ (i := 4) (N := some 99) (v := ?_) (a' := ?_) #[true, true, true, true, true, false, false, false, false, false, false, false, false, false, false] rfl rfl (any_of HT_.out (by kernel_rfl)) (fun _ _ _ h => h) (Or.inl ⟨by rfl, ?_⟩) ?_ ?_
                                    rotate_left
                                    · intro w'
                                      go_simp
                                      with_reducible rfl
                                    rotate_left
                                    · simp only [Act.put, List.setIfInBounds_toArray, List.set_cons_zero, List.set_cons_succ, i64_w, i32_w]
                                      rfl
                                    refine pure_ (i := 5) (N := some 100) (v := ?_) (a' := ?_) #[true, true, true, true, true, true, false, false, false, false, false, false, false, false, false] rfl rfl (any_of HT_.out (by kernel_rfl)) (fun _ _ _ h => h) (Or.inl ⟨by rfl, ?_⟩) ?_ ?_
                                    rotate_left
                                    · intro w'
                                      go_simp
                                      with_reducible rfl
                                    rotate_left
                                    · simp only [Act.put, List.setIfInBounds_toArray, List.set_cons_zero, List.set_cons_succ, i64_w, i32_w]
                                      rfl
                                    refine pure_ (i := 6) (N := some 101) (v := ?_) (a' := ?_) #[true, true, true, true, true, true, true, false, false, false, false, false, false, false, false] rfl rfl (any_of HT_.out (by kernel_rfl)) (fun _ _ _ h => h) (Or.inl ⟨by rfl, ?_⟩) ?_ ?_
                                    rotate_left
                                    · intro w'
                                      go_simp
                                      with_reducible rfl
                                    rotate_left
                                    · simp only [Act.put, List.setIfInBounds_toArray, List.set_cons_zero, List.set_cons_succ, i64_w, i32_w]
                                      rfl
                                    refine pure_ (i := 7) (N := some 102) (v := ?_) (a' := ?_) #[true, true, true, true, true, true, true, true, false, false, false, false, false, false, false] rfl rfl (any_of HT_.out (by kernel_rfl)) (fun _ _ _ h => h) (Or.inl ⟨by rfl, ?_⟩) ?_ ?_
                                    rotate_left
                                    · intro w'
                                      go_simp
                                      with_reducible rfl
                                    rotate_left
                                    · simp only [Act.put, List.setIfInBounds_toArray, List.set_cons_zero, List.set_cons_succ, i64_w, i32_w]
                                      rfl
                                    refine pure_ (i := 9) (N := some 104) (v := ?_) (a' := ?_) #[true, true, true, true, true, true, true, true, false, true, false, false, false, false, false] rfl rfl (any_of HT_.out (by kernel_rfl)) (fun _ _ _ h => h) (Or.inl ⟨by rfl, ?_⟩) ?_ ?_
                                    rotate_left
                                    · intro w'
                                      go_simp
                                      with_reducible rfl
                                    rotate_left
                                    · simp only [Act.put, List.setIfInBounds_toArray, List.set_cons_zero, List.set_cons_succ, i64_w, i32_w]
                                      rfl
                                    refine pure_ (i := 10) (N := some 105) (v := ?_) (a' := ?_) #[true, true, true, true, true, true, true, true, false, true, true, false, false, false, false] rfl rfl (any_of HT_.out (by kernel_rfl)) (fun _ _ _ h => h) (Or.inl ⟨by rfl, ?_⟩) ?_ ?_
                                    rotate_left
                                    · intro w'
                                      go_simp
                                      with_reducible rfl
                                    rotate_left
                                    · simp only [Act.put, List.setIfInBounds_toArray, List.set_cons_zero, List.set_cons_succ, i64_w, i32_w]
                                      rfl
                                    refine pure_ (i := 11) (N := some 106) (v := ?_) (a' := ?_) #[true, true, true, true, true, true, true, true, false, true, true, true, false, false, false] rfl rfl (any_of HT_.out (by kernel_rfl)) (fun _ _ _ h => h) (Or.inl ⟨by rfl, ?_⟩) ?_ ?_
                                    rotate_left
                                    · intro w'
                                      go_simp
                                      with_reducible rfl
                                    rotate_left
                                    · simp only [Act.put, List.setIfInBounds_toArray, List.set_cons_zero, List.set_cons_succ, i64_w, i32_w]
                                      rfl
                                    refine take_ (i := 8) (N := some 103) (v := ?_) (a' := ?_) #[true, true, true, true, true, true, true, true, true, true, true, true, false, false, false] rfl rfl (take_ofW HT_.out HW_.out (by kernel_rfl)) (fun _ _ _ h => h) (Or.inl ⟨by rfl, ?_⟩) hHeld ?_ ?_
                                    rotate_left
                                    · rintro w' ⟨s0, s1, s2, s3, s4, s5⟩
                                      go_simp
                                      with_reducible rfl
                                    rotate_left
                                    · simp only [Act.put, List.setIfInBounds_toArray, List.set_cons_zero, List.set_cons_succ, i64_w, i32_w]
                                      rfl
                                    refine take_ (i := 12) (N := some 107) (v := ?_) (a' := ?_) #[true, true, true, true, true, true, true, true, true, true, true, true, true, false, false] rfl rfl (take_ofW HT_.out HW_.out (by kernel_rfl)) (fun _ _ _ h => h) (Or.inl ⟨by rfl, ?_⟩) hHeld ?_ ?_
                                    rotate_left
                                    · rintro w' ⟨s0, s1, s2, s3, s4, s5⟩
                                      go_simp
                                      with_reducible rfl
                                    rotate_left
                                    · simp only [Act.put, List.setIfInBounds_toArray, List.set_cons_zero, List.set_cons_succ, i64_w, i32_w]
                                      rfl
                                    refine pure_ (i := 13) (N := some 108) (v := ?_) (a' := ?_) #[true, true, true, true, true, true, true, true, true, true, true, true, true, true, false] rfl rfl (any_of HT_.out (by kernel_rfl)) (fun _ _ _ h => h) (Or.inl ⟨by rfl, ?_⟩) ?_ ?_
                                    rotate_left
                                    · intro w'
                                      go_simp
                                      with_reducible rfl
                                    rotate_left
                                    · simp only [Act.put, List.setIfInBounds_toArray, List.set_cons_zero, List.set_cons_succ, i64_w, i32_w]
                                      rfl
                                    refine pure_ (i := 14) (N := some 109) (v := ?_) (a' := ?_) #[true, true, true, true, true, true, true, true, true, true, true, true, true, true, true] rfl rfl (any_of HT_.out (by kernel_rfl)) (fun _ _ _ h => h) (Or.inl ⟨by rfl, ?_⟩) ?_ ?_
                                    rotate_left
                                    · intro w'
                                      go_simp
                                      with_reducible rfl
                                    rotate_left
                                    · simp only [Act.put, List.setIfInBounds_toArray, List.set_cons_zero, List.set_cons_succ, i64_w, i32_w]
                                      rfl
                                    refine done_ (done_of HT_.out (by kernel_rfl)) ?_
                                    have H := HH_.out
                                    clear HH_
                                    by_cases c117 : (((rd_T41 t164 x10_4).f0) == ((rd_T41 l0 x7_3).f0) && (((rd_T41 t164 x10_4).f1) == ((rd_T41 l0 x7_3).f1) && (((rd_T41 t164 x10_4).f2) == ((rd_T41 l0 x7_3).f2)))) = true
                                    · rw [if_pos c117] at H
                                      have c117b0 : (((rd_T41 t164 x10_4).f0) == ((rd_T41 l0 x7_3).f0) && (((rd_T41 t164 x10_4).f1) == ((rd_T41 l0 x7_3).f1) && (((rd_T41 t164 x10_4).f2) == ((rd_T41 l0 x7_3).f2)))) = true := c117
                                      (try (have c117b1 : decide (((rd_T41 t164 x10_4).f0) = ((rd_T41 l0 x7_3).f0) && (((rd_T41 t164 x10_4).f1) == ((rd_T41 l0 x7_3).f1) && (((rd_T41 t164 x10_4).f2) == ((rd_T41 l0 x7_3).f2)))) = true := by simpa using c117))
                                      (try (have c117b2 : (((rd_T41 t164 x10_4).f0) == ((rd_T41 l0 x7_3).f0) && (((rd_T41 t164 x10_4).f1) == ((rd_T41 l0 x7_3).f1) && (((rd_T41 t164 x10_4).f2) == ((rd_T41 l0 x7_3).f2)))) = true := by simpa using c117))
                                      clear c117
                                      (first | rw [c117b0] | simp only [c117b0] | skip)
                                      have H' := Aside0.mk H
                                      clear H
                                      try go_wp2
                                      go_roundg k4
                                      case measure => have := HJ1.out; have := HK2.out; have := HK3.out; have := HK4.out; omega
                                      case rel => exact ⟨(wrap64 (x8_4 + 1)), (wrap64 (x9_4 + 1)), (wrap64 (x10_4 + 1)), (by first | rfl | (simp; done) | (simp [*]; done)), (by first | rfl | (simp; done) | (simp [*]; done)), (by first | rfl | (simp; done) | (simp [*]; done)), H', ⟨by have := HJ1.out; have := HK2.out; have := HK3.out; have := HK4.out; omega⟩, ⟨by (with_reducible repeat (first | apply Kd.R_alloc | apply Kd.R_drewN | apply Kd.R_drew)); exact HO_3.out⟩, ⟨by repeat (first | (with_reducible first | exact HB.out | apply below_alloc | apply pw_below_drewN | apply below_drew1) | exact HB.out)⟩⟩
                                    · rw [if_neg c117] at H
                                      have c117b0 : (((rd_T41 t164 x10_4).f0) == ((rd_T41 l0 x7_3).f0) && (((rd_T41 t164 x10_4).f1) == ((rd_T41 l0 x7_3).f1) && (((rd_T41 t164 x10_4).f2) == ((rd_T41 l0 x7_3).f2)))) = false := by simpa using c117
                                      (try (have c117b1 : decide (((rd_T41 t164 x10_4).f0) = ((rd_T41 l0 x7_3).f0) && (((rd_T41 t164 x10_4).f1) == ((rd_T41 l0 x7_3).f1) && (((rd_T41 t164 x10_4).f2) == ((rd_T41 l0 x7_3).f2)))) = false := by simpa using c117))
                                      (try (have c117b2 : (((rd_T41 t164 x10_4).f0) == ((rd_T41 l0 x7_3).f0) && (((rd_T41 t164 x10_4).f1) == ((rd_T41 l0 x7_3).f1) && (((rd_T41 t164 x10_4).f2) == ((rd_T41 l0 x7_3).f2)))) = false := by simpa using c117))
                                      (try (have c117b3 : ¬ (((rd_T41 t164 x10_4).f0) = ((rd_T41 l0 x7_3).f0) && (((rd_T41 t164 x10_4).f1) == ((rd_T41 l0 x7_3).f1) && (((rd_T41 t164 x10_4).f2) == ((rd_T41 l0 x7_3).f2)))) := by simpa using c117))
                                      clear c117
                                      (first | rw [c117b0] | simp only [c117b0] | skip)
                                      have H' := Aside0.mk H
                                      clear H
                                      try go_wp2
                                      go_roundg k4
                                      case measure => have := HJ1.out; have := HK2.out; have := HK3.out; have := HK4.out; omega
                                      case rel => exact ⟨(wrap64 (x8_4 + 1)), (x9_4), (wrap64 (x10_4 + 1)), (by first | rfl | (simp; done) | (simp [*]; done)), (by first | rfl | (simp; done) | (simp [*]; done)), (by first | rfl | (simp; done) | (simp [*]; done)), H', ⟨by have := HJ1.out; have := HK2.out; have := HK3.out; have := HK4.out; omega⟩, ⟨by (with_reducible repeat (first | apply Kd.R_alloc | apply Kd.R_drewN | apply Kd.R_drew)); exact HO_3.out⟩, ⟨by repeat (first | (with_reducible first | exact HB.out | apply below_alloc | apply pw_below_drewN | apply below_drew1) | exact HB.out)⟩⟩
                                  · rw [if_neg c116] at H
                                    have c116b0 : decide (x10_4 < (t164.length : Int)) = false := decide_eq_false c116
                                    clear c116
                                    (first | rw [c116b0] | simp only [c116b0] | skip)
                                    have H' := Aside0.mk H
                                    clear H
                                    try go_wp2
                                    have n0_ := Aside0.mk (Kd.R_drew HO_3.out)
                                    have n1_ := Aside0.mk (below_drew1 HB.out)
                                    clear HO_3
                                    clear HB
                                    have HO_3 := n0_
                                    have HB := n1_
                                    clear n0_ n1_
                                    refine start_ (n := 15) (S := fun w' => True) (ds := []) #[false, false, false, false, false, false, false, false, false, false, false, false, false, false, false] (by kernel_rfl) rfl rfl trivial (fun hHeld => ?_); refine with_tabW modillionlaw08_FoldRises.tab19 modillionlaw08_FoldRises.bits19 (fun HT_ HW_ => ?_)
                                    generalize w118.drew = w123 at HO_3 HB hHeld ⊢
                                    refine pure_ (i := 0) (N := some 95) (v := ?_) (a' := ?_) #[true, false, false, false, false, false, false, false, false, false, false, false, false, false, false] rfl rfl (any_of HT_.out (by kernel_rfl)) (fun _ _ _ h => h) (Or.inl ⟨by rfl, ?_⟩) ?_ ?_
                                    rotate_left
                                    · intro w'
                                      go_simp
                                      with_reducible rfl
                                    rotate_left
                                    · simp only [Act.put, List.setIfInBounds_toArray, List.set_cons_zero, List.set_cons_succ, i64_w, i32_w]
                                      rfl
                                    refine pure_ (i := 1) (N := some 96) (v := ?_) (a' := ?_) #[true, true, false, false, false, false, false, false, false, false, false, false, false, false, false] rfl rfl (any_of HT_.out (by kernel_rfl)) (fun _ _ _ h => h) (Or.inl ⟨by rfl, ?_⟩) ?_ ?_
                                    rotate_left
                                    · intro w'
                                      go_simp
                                      with_reducible rfl
                                    rotate_left
                                    · simp only [Act.put, List.setIfInBounds_toArray, List.set_cons_zero, List.set_cons_succ, i64_w, i32_w]
                                      rfl
                                    refine pure_ (i := 2) (N := some 97) (v := ?_) (a' := ?_) #[true, true, true, false, false, false, false, false, false, false, false, false, false, false, false] rfl rfl (any_of HT_.out (by kernel_rfl)) (fun _ _ _ h => h) (Or.inl ⟨by rfl, ?_⟩) ?_ ?_
                                    rotate_left
                                    · intro w'
                                      go_simp
                                      with_reducible rfl
                                    rotate_left
                                    · simp only [Act.put, List.setIfInBounds_toArray, List.set_cons_zero, List.set_cons_succ, i64_w, i32_w]
                                      rfl
                                    refine pure_ (i := 3) (N := some 98) (v := ?_) (a' := ?_) #[true, true, true, true, false, false, false, false, false, false, false, false, false, false, false] rfl rfl (any_of HT_.out (by kernel_rfl)) (fun _ _ _ h => h) (Or.inl ⟨by rfl, ?_⟩) ?_ ?_
                                    rotate_left
                                    · intro w'
                                      go_simp
                                      with_reducible rfl
                                    rotate_left
                                    · simp only [Act.put, List.setIfInBounds_toArray, List.set_cons_zero, List.set_cons_succ, i64_w, i32_w]
                                      rfl
                                    refine pure_ (i := 4) (N := some 99) (v := ?_) (a' := ?_) #[true, true, true, true, true, false, false, false, false, false, false, false, false, false, false] rfl rfl (any_of HT_.out (by kernel_rfl)) (fun _ _ _ h => h) (Or.inl ⟨by rfl, ?_⟩) ?_ ?_
                                    rotate_left
                                    · intro w'
                                      go_simp
                                      with_reducible rfl
                                    rotate_left
                                    · simp only [Act.put, List.setIfInBounds_toArray, List.set_cons_zero, List.set_cons_succ, i64_w, i32_w]
                                      rfl
                                    refine pure_ (i := 5) (N := some 100) (v := undef) (a' := ?_) #[true, true, true, true, true, true, false, false, false, false, false, false, false, false, false] rfl rfl (any_of HT_.out (by kernel_rfl)) (fun _ _ _ h => h) (Or.inr ⟨by rfl, rfl⟩) ?_ ?_
                                    rotate_left
                                    · simp only [Act.put, List.setIfInBounds_toArray, List.set_cons_zero, List.set_cons_succ, i64_w, i32_w]
                                      rfl
                                    refine pure_ (i := 6) (N := some 101) (v := undef) (a' := ?_) #[true, true, true, true, true, true, true, false, false, false, false, false, false, false, false] rfl rfl (any_of HT_.out (by kernel_rfl)) (fun _ _ _ h => h) (Or.inr ⟨by rfl, rfl⟩) ?_ ?_
                                    rotate_left
                                    · simp only [Act.put, List.setIfInBounds_toArray, List.set_cons_zero, List.set_cons_succ, i64_w, i32_w]
                                      rfl
                                    refine pure_ (i := 7) (N := some 102) (v := undef) (a' := ?_) #[true, true, true, true, true, true, true, true, false, false, false, false, false, false, false] rfl rfl (any_of HT_.out (by kernel_rfl)) (fun _ _ _ h => h) (Or.inr ⟨by rfl, rfl⟩) ?_ ?_
                                    rotate_left
                                    · simp only [Act.put, List.setIfInBounds_toArray, List.set_cons_zero, List.set_cons_succ, i64_w, i32_w]
                                      rfl
                                    refine pure_ (i := 8) (N := some 103) (v := undef) (a' := ?_) #[true, true, true, true, true, true, true, true, true, false, false, false, false, false, false] rfl rfl (any_of HT_.out (by kernel_rfl)) (fun _ _ _ h => h) (Or.inr ⟨by rfl, rfl⟩) ?_ ?_
                                    rotate_left
                                    · simp only [Act.put, List.setIfInBounds_toArray, List.set_cons_zero, List.set_cons_succ, i64_w, i32_w]
                                      rfl
                                    refine pure_ (i := 9) (N := some 104) (v := undef) (a' := ?_) #[true, true, true, true, true, true, true, true, true, true, false, false, false, false, false] rfl rfl (any_of HT_.out (by kernel_rfl)) (fun _ _ _ h => h) (Or.inr ⟨by rfl, rfl⟩) ?_ ?_
                                    rotate_left
                                    · simp only [Act.put, List.setIfInBounds_toArray, List.set_cons_zero, List.set_cons_succ, i64_w, i32_w]
                                      rfl
                                    refine pure_ (i := 10) (N := some 105) (v := undef) (a' := ?_) #[true, true, true, true, true, true, true, true, true, true, true, false, false, false, false] rfl rfl (any_of HT_.out (by kernel_rfl)) (fun _ _ _ h => h) (Or.inr ⟨by rfl, rfl⟩) ?_ ?_
                                    rotate_left
                                    · simp only [Act.put, List.setIfInBounds_toArray, List.set_cons_zero, List.set_cons_succ, i64_w, i32_w]
                                      rfl
                                    refine pure_ (i := 11) (N := some 106) (v := undef) (a' := ?_) #[true, true, true, true, true, true, true, true, true, true, true, true, false, false, false] rfl rfl (any_of HT_.out (by kernel_rfl)) (fun _ _ _ h => h) (Or.inr ⟨by rfl, rfl⟩) ?_ ?_
                                    rotate_left
                                    · simp only [Act.put, List.setIfInBounds_toArray, List.set_cons_zero, List.set_cons_succ, i64_w, i32_w]
                                      rfl
                                    refine pure_ (i := 12) (N := some 107) (v := undef) (a' := ?_) #[true, true, true, true, true, true, true, true, true, true, true, true, true, false, false] rfl rfl (any_of HT_.out (by kernel_rfl)) (fun _ _ _ h => h) (Or.inr ⟨by rfl, rfl⟩) ?_ ?_
                                    rotate_left
                                    · simp only [Act.put, List.setIfInBounds_toArray, List.set_cons_zero, List.set_cons_succ, i64_w, i32_w]
                                      rfl
                                    refine pure_ (i := 13) (N := some 108) (v := undef) (a' := ?_) #[true, true, true, true, true, true, true, true, true, true, true, true, true, true, false] rfl rfl (any_of HT_.out (by kernel_rfl)) (fun _ _ _ h => h) (Or.inr ⟨by rfl, rfl⟩) ?_ ?_
                                    rotate_left
                                    · simp only [Act.put, List.setIfInBounds_toArray, List.set_cons_zero, List.set_cons_succ, i64_w, i32_w]
                                      rfl
                                    refine pure_ (i := 14) (N := some 109) (v := ?_) (a' := ?_) #[true, true, true, true, true, true, true, true, true, true, true, true, true, true, true] rfl rfl (any_of HT_.out (by kernel_rfl)) (fun _ _ _ h => h) (Or.inl ⟨by rfl, ?_⟩) ?_ ?_
                                    rotate_left
                                    · intro w'
                                      go_simp
                                      with_reducible rfl
                                    rotate_left
                                    · simp only [Act.put, List.setIfInBounds_toArray, List.set_cons_zero, List.set_cons_succ, i64_w, i32_w]
                                      rfl
                                    refine done_ (done_of HT_.out (by kernel_rfl)) ?_
                                    try go_wp2
                                    go_roundg k4
                                    case measure => have := HJ1.out; have := HK2.out; have := HK3.out; have := HK4.out; omega
                                    case rel => exact ⟨(wrap64 (x8_4 + 1)), (x9_4), (wrap64 (x10_4 + 1)), (by first | rfl | (simp; done) | (simp [*]; done)), (by first | rfl | (simp; done) | (simp [*]; done)), (by first | rfl | (simp; done) | (simp [*]; done)), H', ⟨by have := HJ1.out; have := HK2.out; have := HK3.out; have := HK4.out; omega⟩, ⟨by (with_reducible repeat (first | apply Kd.R_alloc | apply Kd.R_drewN | apply Kd.R_drew)); exact HO_3.out⟩, ⟨by repeat (first | (with_reducible first | exact HB.out | apply below_alloc | apply pw_below_drewN | apply below_drew1) | exact HB.out)⟩⟩
                                · rw [if_neg c115] at H
                                  have c115b0 : (((rd_T41 l0 x10_4).f0) == ((rd_T41 l0 x7_3).f0) && (((rd_T41 l0 x10_4).f1) == ((rd_T41 l0 x7_3).f1) && (((rd_T41 l0 x10_4).f2) == ((rd_T41 l0 x7_3).f2)))) = false := by simpa using c115
                                  (try (have c115b1 : decide (((rd_T41 l0 x10_4).f0) = ((rd_T41 l0 x7_3).f0) && (((rd_T41 l0 x10_4).f1) == ((rd_T41 l0 x7_3).f1) && (((rd_T41 l0 x10_4).f2) == ((rd_T41 l0 x7_3).f2)))) = false := by simpa using c115))
                                  (try (have c115b2 : (((rd_T41 l0 x10_4).f0) == ((rd_T41 l0 x7_3).f0) && (((rd_T41 l0 x10_4).f1) == ((rd_T41 l0 x7_3).f1) && (((rd_T41 l0 x10_4).f2) == ((rd_T41 l0 x7_3).f2)))) = false := by simpa using c115))
                                  (try (have c115b3 : ¬ (((rd_T41 l0 x10_4).f0) = ((rd_T41 l0 x7_3).f0) && (((rd_T41 l0 x10_4).f1) == ((rd_T41 l0 x7_3).f1) && (((rd_T41 l0 x10_4).f2) == ((rd_T41 l0 x7_3).f2)))) := by simpa using c115))
                                  clear c115
                                  (first | rw [c115b0] | simp only [c115b0] | skip)
                                  by_cases c124 : x10_4 < (t164.length : Int)
                                  · rw [if_pos c124] at H
                                    have c124b0 : decide (x10_4 < (t164.length : Int)) = true := decide_eq_true c124
                                    clear c124
                                    (first | rw [c124b0] | simp only [c124b0] | skip)
                                    have HH_ := Aside0.mk H
                                    clear H
                                    try go_wp2
                                    have n0_ := Aside0.mk (Kd.R_drew HO_3.out)
                                    have n1_ := Aside0.mk (below_drew1 HB.out)
                                    clear HO_3
                                    clear HB
                                    have HO_3 := n0_
                                    have HB := n1_
                                    clear n0_ n1_
                                    have p179 : 0 ≤ (x10_4 : Int) := of_decide_eq_true (by first | (with_reducible assumption) | assumption)
                                    have q179 : x10_4 < (t164.length : Int) := of_decide_eq_true (by first | (with_reducible assumption) | assumption)
                                    obtain ⟨ad179, e179, hx179_0, hx179_1, hx179_2⟩ := at_T41 (Kd.R_reads' HO_3.out).2.2 x10_4 p179 q179
                                    cases e179
                                    replace p179 := eq_true p179
                                    replace q179 := eq_true q179
                                    have p180 : 0 ≤ (x7_3 : Int) := of_decide_eq_true (by first | (with_reducible assumption) | assumption)
                                    have q180 : x7_3 < (l0.length : Int) := of_decide_eq_true (by first | (with_reducible assumption) | assumption)
                                    obtain ⟨ad180, e180, hx180_0, hx180_1, hx180_2⟩ := at_T41 HR0.out x7_3 p180 q180
                                    have hw180_2 := hx180_2
                                    have hw180_1 := hx180_1
                                    have hw180_0 := hx180_0
                                    obtain rfl : ad175 = ad180 := (by injection e180)
                                    replace hx180_0 := (HB.out.cell (World.block_lt_of_cell? w _ hx180_0)).trans hx180_0
                                    replace hx180_1 := (HB.out.cell (World.block_lt_of_cell? w _ hx180_1)).trans hx180_1
                                    replace hx180_2 := (HB.out.cell (World.block_lt_of_cell? w _ hx180_2)).trans hx180_2
                                    replace p180 := eq_true p180
                                    replace q180 := eq_true q180
                                    refine start_ (n := 15) (S := fun w' => w'.cell? (ad179.add ((x10_4).toNat * 3)) = some (.int .i64 ((rd_T41 t164 x10_4).f0)) ∧ w'.cell? ⟨(ad179.add ((x10_4).toNat * 3)).block, (ad179.add ((x10_4).toNat * 3)).off + 1, none⟩ = some (.int .i64 ((rd_T41 t164 x10_4).f1)) ∧ w'.cell? ⟨(ad179.add ((x10_4).toNat * 3)).block, (ad179.add ((x10_4).toNat * 3)).off + 2, none⟩ = some (.int .i64 ((rd_T41 t164 x10_4).f2)) ∧ w'.cell? (ad175.add ((x7_3).toNat * 3)) = some (.int .i64 ((rd_T41 l0 x7_3).f0)) ∧ w'.cell? ⟨(ad175.add ((x7_3).toNat * 3)).block, (ad175.add ((x7_3).toNat * 3)).off + 1, none⟩ = some (.int .i64 ((rd_T41 l0 x7_3).f1)) ∧ w'.cell? ⟨(ad175.add ((x7_3).toNat * 3)).block, (ad175.add ((x7_3).toNat * 3)).off + 2, none⟩ = some (.int .i64 ((rd_T41 l0 x7_3).f2))) (ds := []) #[false, false, false, false, false, false, false, false, false, false, false, false, false, false, false] (by kernel_rfl) rfl rfl ⟨hx179_0, hx179_1, hx179_2, ((HB.out.cell (World.block_lt_of_cell? w _ hw180_0)).trans hw180_0), ((HB.out.cell (World.block_lt_of_cell? w _ hw180_1)).trans hw180_1), ((HB.out.cell (World.block_lt_of_cell? w _ hw180_2)).trans hw180_2)⟩ (fun hHeld => ?_); refine with_tabW modillionlaw08_FoldRises.tab19 modillionlaw08_FoldRises.bits19 (fun HT_ HW_ => ?_)
                                    generalize w118.drew = w127 at HO_3 HB hx179_0 hx179_1 hx179_2 hx180_0 hx180_1 hx180_2 hHeld ⊢
                                    refine pure_ (i := 0) (N := some 95) (v := ?_) (a' := ?_) #[true, false, false, false, false, false, false, false, false, false, false, false, false, false, false] rfl rfl (any_of HT_.out (by kernel_rfl)) (fun _ _ _ h => h) (Or.inl ⟨by rfl, ?_⟩) ?_ ?_
                                    rotate_left
                                    · intro w'
                                      go_simp
                                      with_reducible rfl
                                    rotate_left
                                    · simp only [Act.put, List.setIfInBounds_toArray, List.set_cons_zero, List.set_cons_succ, i64_w, i32_w]
                                      rfl
                                    refine pure_ (i := 1) (N := some 96) (v := ?_) (a' := ?_) #[true, true, false, false, false, false, false, false, false, false, false, false, false, false, false] rfl rfl (any_of HT_.out (by kernel_rfl)) (fun _ _ _ h => h) (Or.inl ⟨by rfl, ?_⟩) ?_ ?_
                                    rotate_left
                                    · intro w'
                                      go_simp
                                      with_reducible rfl
                                    rotate_left
                                    · simp only [Act.put, List.setIfInBounds_toArray, List.set_cons_zero, List.set_cons_succ, i64_w, i32_w]
                                      rfl
                                    refine pure_ (i := 2) (N := some 97) (v := ?_) (a' := ?_) #[true, true, true, false, false, false, false, false, false, false, false, false, false, false, false] rfl rfl (any_of HT_.out (by kernel_rfl)) (fun _ _ _ h => h) (Or.inl ⟨by rfl, ?_⟩) ?_ ?_
                                    rotate_left
                                    · intro w'
                                      go_simp
                                      with_reducible rfl
                                    rotate_left
                                    · simp only [Act.put, List.setIfInBounds_toArray, List.set_cons_zero, List.set_cons_succ, i64_w, i32_w]
                                      rfl
                                    refine pure_ (i := 3) (N := some 98) (v := ?_) (a' := ?_) #[true, true, true, true, false, false, false, false, false, false, false, false, false, false, false] rfl rfl (any_of HT_.out (by kernel_rfl)) (fun _ _ _ h => h) (Or.inl ⟨by rfl, ?_⟩) ?_ ?_
                                    rotate_left
                                    · intro w'
                                      go_simp
                                      with_reducible rfl
                                    rotate_left
                                    · simp only [Act.put, List.setIfInBounds_toArray, List.set_cons_zero, List.set_cons_succ, i64_w, i32_w]
                                      rfl
                                    refine pure_ (i := 4) (N := some 99) (v := ?_) (a' := ?_) #[true, true, true, true, true, false, false, false, false, false, false, false, false, false, false] rfl rfl (any_of HT_.out (by kernel_rfl)) (fun _ _ _ h => h) (Or.inl ⟨by rfl, ?_⟩) ?_ ?_
                                    rotate_left
                                    · intro w'
                                      go_simp
                                      with_reducible rfl
                                    rotate_left
                                    · simp only [Act.put, List.setIfInBounds_toArray, List.set_cons_zero, List.set_cons_succ, i64_w, i32_w]
                                      rfl
                                    refine pure_ (i := 5) (N := some 100) (v := ?_) (a' := ?_) #[true, true, true, true, true, true, false, false, false, false, false, false, false, false, false] rfl rfl (any_of HT_.out (by kernel_rfl)) (fun _ _ _ h => h) (Or.inl ⟨by rfl, ?_⟩) ?_ ?_
                                    rotate_left
                                    · intro w'
                                      go_simp
                                      with_reducible rfl
                                    rotate_left
                                    · simp only [Act.put, List.setIfInBounds_toArray, List.set_cons_zero, List.set_cons_succ, i64_w, i32_w]
                                      rfl
                                    refine pure_ (i := 6) (N := some 101) (v := ?_) (a' := ?_) #[true, true, true, true, true, true, true, false, false, false, false, false, false, false, false] rfl rfl (any_of HT_.out (by kernel_rfl)) (fun _ _ _ h => h) (Or.inl ⟨by rfl, ?_⟩) ?_ ?_
                                    rotate_left
                                    · intro w'
                                      go_simp
                                      with_reducible rfl
                                    rotate_left
                                    · simp only [Act.put, List.setIfInBounds_toArray, List.set_cons_zero, List.set_cons_succ, i64_w, i32_w]
                                      rfl
                                    refine pure_ (i := 7) (N := some 102) (v := ?_) (a' := ?_) #[true, true, true, true, true, true, true, true, false, false, false, false, false, false, false] rfl rfl (any_of HT_.out (by kernel_rfl)) (fun _ _ _ h => h) (Or.inl ⟨by rfl, ?_⟩) ?_ ?_
                                    rotate_left
                                    · intro w'
                                      go_simp
                                      with_reducible rfl
                                    rotate_left
                                    · simp only [Act.put, List.setIfInBounds_toArray, List.set_cons_zero, List.set_cons_succ, i64_w, i32_w]
                                      rfl
                                    refine pure_ (i := 9) (N := some 104) (v := ?_) (a' := ?_) #[true, true, true, true, true, true, true, true, false, true, false, false, false, false, false] rfl rfl (any_of HT_.out (by kernel_rfl)) (fun _ _ _ h => h) (Or.inl ⟨by rfl, ?_⟩) ?_ ?_
                                    rotate_left
                                    · intro w'
                                      go_simp
                                      with_reducible rfl
                                    rotate_left
                                    · simp only [Act.put, List.setIfInBounds_toArray, List.set_cons_zero, List.set_cons_succ, i64_w, i32_w]
                                      rfl
                                    refine pure_ (i := 10) (N := some 105) (v := ?_) (a' := ?_) #[true, true, true, true, true, true, true, true, false, true, true, false, false, false, false] rfl rfl (any_of HT_.out (by kernel_rfl)) (fun _ _ _ h => h) (Or.inl ⟨by rfl, ?_⟩) ?_ ?_
                                    rotate_left
                                    · intro w'
                                      go_simp
                                      with_reducible rfl
                                    rotate_left
                                    · simp only [Act.put, List.setIfInBounds_toArray, List.set_cons_zero, List.set_cons_succ, i64_w, i32_w]
                                      rfl
                                    refine pure_ (i := 11) (N := some 106) (v := ?_) (a' := ?_) #[true, true, true, true, true, true, true, true, false, true, true, true, false, false, false] rfl rfl (any_of HT_.out (by kernel_rfl)) (fun _ _ _ h => h) (Or.inl ⟨by rfl, ?_⟩) ?_ ?_
                                    rotate_left
                                    · intro w'
                                      go_simp
                                      with_reducible rfl
                                    rotate_left
                                    · simp only [Act.put, List.setIfInBounds_toArray, List.set_cons_zero, List.set_cons_succ, i64_w, i32_w]
                                      rfl
                                    refine take_ (i := 8) (N := some 103) (v := ?_) (a' := ?_) #[true, true, true, true, true, true, true, true, true, true, true, true, false, false, false] rfl rfl (take_ofW HT_.out HW_.out (by kernel_rfl)) (fun _ _ _ h => h) (Or.inl ⟨by rfl, ?_⟩) hHeld ?_ ?_
                                    rotate_left
                                    · rintro w' ⟨s0, s1, s2, s3, s4, s5⟩
                                      go_simp
                                      with_reducible rfl
                                    rotate_left
                                    · simp only [Act.put, List.setIfInBounds_toArray, List.set_cons_zero, List.set_cons_succ, i64_w, i32_w]
                                      rfl
                                    refine take_ (i := 12) (N := some 107) (v := ?_) (a' := ?_) #[true, true, true, true, true, true, true, true, true, true, true, true, true, false, false] rfl rfl (take_ofW HT_.out HW_.out (by kernel_rfl)) (fun _ _ _ h => h) (Or.inl ⟨by rfl, ?_⟩) hHeld ?_ ?_
                                    rotate_left
                                    · rintro w' ⟨s0, s1, s2, s3, s4, s5⟩
                                      go_simp
                                      with_reducible rfl
                                    rotate_left
                                    · simp only [Act.put, List.setIfInBounds_toArray, List.set_cons_zero, List.set_cons_succ, i64_w, i32_w]
                                      rfl
                                    refine pure_ (i := 13) (N := some 108) (v := ?_) (a' := ?_) #[true, true, true, true, true, true, true, true, true, true, true, true, true, true, false] rfl rfl (any_of HT_.out (by kernel_rfl)) (fun _ _ _ h => h) (Or.inl ⟨by rfl, ?_⟩) ?_ ?_
                                    rotate_left
                                    · intro w'
                                      go_simp
                                      with_reducible rfl
                                    rotate_left
                                    · simp only [Act.put, List.setIfInBounds_toArray, List.set_cons_zero, List.set_cons_succ, i64_w, i32_w]
                                      rfl
                                    refine pure_ (i := 14) (N := some 109) (v := ?_) (a' := ?_) #[true, true, true, true, true, true, true, true, true, true, true, true, true, true, true] rfl rfl (any_of HT_.out (by kernel_rfl)) (fun _ _ _ h => h) (Or.inl ⟨by rfl, ?_⟩) ?_ ?_
                                    rotate_left
                                    · intro w'
                                      go_simp
                                      with_reducible rfl
                                    rotate_left
                                    · simp only [Act.put, List.setIfInBounds_toArray, List.set_cons_zero, List.set_cons_succ, i64_w, i32_w]
                                      rfl
                                    refine done_ (done_of HT_.out (by kernel_rfl)) ?_
                                    have H := HH_.out
                                    clear HH_
                                    by_cases c125 : (((rd_T41 t164 x10_4).f0) == ((rd_T41 l0 x7_3).f0) && (((rd_T41 t164 x10_4).f1) == ((rd_T41 l0 x7_3).f1) && (((rd_T41 t164 x10_4).f2) == ((rd_T41 l0 x7_3).f2)))) = true
                                    · rw [if_pos c125] at H
                                      have c125b0 : (((rd_T41 t164 x10_4).f0) == ((rd_T41 l0 x7_3).f0) && (((rd_T41 t164 x10_4).f1) == ((rd_T41 l0 x7_3).f1) && (((rd_T41 t164 x10_4).f2) == ((rd_T41 l0 x7_3).f2)))) = true := c125
                                      (try (have c125b1 : decide (((rd_T41 t164 x10_4).f0) = ((rd_T41 l0 x7_3).f0) && (((rd_T41 t164 x10_4).f1) == ((rd_T41 l0 x7_3).f1) && (((rd_T41 t164 x10_4).f2) == ((rd_T41 l0 x7_3).f2)))) = true := by simpa using c125))
                                      (try (have c125b2 : (((rd_T41 t164 x10_4).f0) == ((rd_T41 l0 x7_3).f0) && (((rd_T41 t164 x10_4).f1) == ((rd_T41 l0 x7_3).f1) && (((rd_T41 t164 x10_4).f2) == ((rd_T41 l0 x7_3).f2)))) = true := by simpa using c125))
                                      clear c125
                                      (first | rw [c125b0] | simp only [c125b0] | skip)
                                      have H' := Aside0.mk H
                                      clear H
                                      try go_wp2
                                      go_roundg k4
                                      case measure => have := HJ1.out; have := HK2.out; have := HK3.out; have := HK4.out; omega
                                      case rel => exact ⟨(x8_4), (wrap64 (x9_4 + 1)), (wrap64 (x10_4 + 1)), (by first | rfl | (simp; done) | (simp [*]; done)), (by first | rfl | (simp; done) | (simp [*]; done)), (by first | rfl | (simp; done) | (simp [*]; done)), H', ⟨by have := HJ1.out; have := HK2.out; have := HK3.out; have := HK4.out; omega⟩, ⟨by (with_reducible repeat (first | apply Kd.R_alloc | apply Kd.R_drewN | apply Kd.R_drew)); exact HO_3.out⟩, ⟨by repeat (first | (with_reducible first | exact HB.out | apply below_alloc | apply pw_below_drewN | apply below_drew1) | exact HB.out)⟩⟩
                                    · rw [if_neg c125] at H
                                      have c125b0 : (((rd_T41 t164 x10_4).f0) == ((rd_T41 l0 x7_3).f0) && (((rd_T41 t164 x10_4).f1) == ((rd_T41 l0 x7_3).f1) && (((rd_T41 t164 x10_4).f2) == ((rd_T41 l0 x7_3).f2)))) = false := by simpa using c125
                                      (try (have c125b1 : decide (((rd_T41 t164 x10_4).f0) = ((rd_T41 l0 x7_3).f0) && (((rd_T41 t164 x10_4).f1) == ((rd_T41 l0 x7_3).f1) && (((rd_T41 t164 x10_4).f2) == ((rd_T41 l0 x7_3).f2)))) = false := by simpa using c125))
                                      (try (have c125b2 : (((rd_T41 t164 x10_4).f0) == ((rd_T41 l0 x7_3).f0) && (((rd_T41 t164 x10_4).f1) == ((rd_T41 l0 x7_3).f1) && (((rd_T41 t164 x10_4).f2) == ((rd_T41 l0 x7_3).f2)))) = false := by simpa using c125))
                                      (try (have c125b3 : ¬ (((rd_T41 t164 x10_4).f0) = ((rd_T41 l0 x7_3).f0) && (((rd_T41 t164 x10_4).f1) == ((rd_T41 l0 x7_3).f1) && (((rd_T41 t164 x10_4).f2) == ((rd_T41 l0 x7_3).f2)))) := by simpa using c125))
                                      clear c125
                                      (first | rw [c125b0] | simp only [c125b0] | skip)
                                      have H' := Aside0.mk H
                                      clear H
                                      try go_wp2
                                      go_roundg k4
                                      case measure => have := HJ1.out; have := HK2.out; have := HK3.out; have := HK4.out; omega
                                      case rel => exact ⟨(x8_4), (x9_4), (wrap64 (x10_4 + 1)), (by first | rfl | (simp; done) | (simp [*]; done)), (by first | rfl | (simp; done) | (simp [*]; done)), (by first | rfl | (simp; done) | (simp [*]; done)), H', ⟨by have := HJ1.out; have := HK2.out; have := HK3.out; have := HK4.out; omega⟩, ⟨by (with_reducible repeat (first | apply Kd.R_alloc | apply Kd.R_drewN | apply Kd.R_drew)); exact HO_3.out⟩, ⟨by repeat (first | (with_reducible first | exact HB.out | apply below_alloc | apply pw_below_drewN | apply below_drew1) | exact HB.out)⟩⟩
                                  · rw [if_neg c124] at H
                                    have c124b0 : decide (x10_4 < (t164.length : Int)) = false := decide_eq_false c124
                                    clear c124
                                    (first | rw [c124b0] | simp only [c124b0] | skip)
                                    have H' := Aside0.mk H
                                    clear H
                                    try go_wp2
                                    have n0_ := Aside0.mk (Kd.R_drew HO_3.out)
                                    have n1_ := Aside0.mk (below_drew1 HB.out)
                                    clear HO_3
                                    clear HB
                                    have HO_3 := n0_
                                    have HB := n1_
                                    clear n0_ n1_
                                    refine start_ (n := 15) (S := fun w' => True) (ds := []) #[false, false, false, false, false, false, false, false, false, false, false, false, false, false, false] (by kernel_rfl) rfl rfl trivial (fun hHeld => ?_); refine with_tabW modillionlaw08_FoldRises.tab19 modillionlaw08_FoldRises.bits19 (fun HT_ HW_ => ?_)
                                    generalize w118.drew = w131 at HO_3 HB hHeld ⊢
                                    refine pure_ (i := 0) (N := some 95) (v := ?_) (a' := ?_) #[true, false, false, false, false, false, false, false, false, false, false, false, false, false, false] rfl rfl (any_of HT_.out (by kernel_rfl)) (fun _ _ _ h => h) (Or.inl ⟨by rfl, ?_⟩) ?_ ?_
                                    rotate_left
                                    · intro w'
                                      go_simp
                                      with_reducible rfl
                                    rotate_left
                                    · simp only [Act.put, List.setIfInBounds_toArray, List.set_cons_zero, List.set_cons_succ, i64_w, i32_w]
                                      rfl
                                    refine pure_ (i := 1) (N := some 96) (v := ?_) (a' := ?_) #[true, true, false, false, false, false, false, false, false, false, false, false, false, false, false] rfl rfl (any_of HT_.out (by kernel_rfl)) (fun _ _ _ h => h) (Or.inl ⟨by rfl, ?_⟩) ?_ ?_
                                    rotate_left
                                    · intro w'
                                      go_simp
                                      with_reducible rfl
                                    rotate_left
                                    · simp only [Act.put, List.setIfInBounds_toArray, List.set_cons_zero, List.set_cons_succ, i64_w, i32_w]
                                      rfl
                                    refine pure_ (i := 2) (N := some 97) (v := ?_) (a' := ?_) #[true, true, true, false, false, false, false, false, false, false, false, false, false, false, false] rfl rfl (any_of HT_.out (by kernel_rfl)) (fun _ _ _ h => h) (Or.inl ⟨by rfl, ?_⟩) ?_ ?_
                                    rotate_left
                                    · intro w'
                                      go_simp
                                      with_reducible rfl
                                    rotate_left
                                    · simp only [Act.put, List.setIfInBounds_toArray, List.set_cons_zero, List.set_cons_succ, i64_w, i32_w]
                                      rfl
                                    refine pure_ (i := 3) (N := some 98) (v := ?_) (a' := ?_) #[true, true, true, true, false, false, false, false, false, false, false, false, false, false, false] rfl rfl (any_of HT_.out (by kernel_rfl)) (fun _ _ _ h => h) (Or.inl ⟨by rfl, ?_⟩) ?_ ?_
                                    rotate_left
                                    · intro w'
                                      go_simp
                                      with_reducible rfl
                                    rotate_left
                                    · simp only [Act.put, List.setIfInBounds_toArray, List.set_cons_zero, List.set_cons_succ, i64_w, i32_w]
                                      rfl
                                    refine pure_ (i := 4) (N := some 99) (v := ?_) (a' := ?_) #[true, true, true, true, true, false, false, false, false, false, false, false, false, false, false] rfl rfl (any_of HT_.out (by kernel_rfl)) (fun _ _ _ h => h) (Or.inl ⟨by rfl, ?_⟩) ?_ ?_
                                    rotate_left
                                    · intro w'
                                      go_simp
                                      with_reducible rfl
                                    rotate_left
                                    · simp only [Act.put, List.setIfInBounds_toArray, List.set_cons_zero, List.set_cons_succ, i64_w, i32_w]
                                      rfl
                                    refine pure_ (i := 5) (N := some 100) (v := undef) (a' := ?_) #[true, true, true, true, true, true, false, false, false, false, false, false, false, false, false] rfl rfl (any_of HT_.out (by kernel_rfl)) (fun _ _ _ h => h) (Or.inr ⟨by rfl, rfl⟩) ?_ ?_
                                    rotate_left
                                    · simp only [Act.put, List.setIfInBounds_toArray, List.set_cons_zero, List.set_cons_succ, i64_w, i32_w]
                                      rfl
                                    refine pure_ (i := 6) (N := some 101) (v := undef) (a' := ?_) #[true, true, true, true, true, true, true, false, false, false, false, false, false, false, false] rfl rfl (any_of HT_.out (by kernel_rfl)) (fun _ _ _ h => h) (Or.inr ⟨by rfl, rfl⟩) ?_ ?_
                                    rotate_left
                                    · simp only [Act.put, List.setIfInBounds_toArray, List.set_cons_zero, List.set_cons_succ, i64_w, i32_w]
                                      rfl
                                    refine pure_ (i := 7) (N := some 102) (v := undef) (a' := ?_) #[true, true, true, true, true, true, true, true, false, false, false, false, false, false, false] rfl rfl (any_of HT_.out (by kernel_rfl)) (fun _ _ _ h => h) (Or.inr ⟨by rfl, rfl⟩) ?_ ?_
                                    rotate_left
                                    · simp only [Act.put, List.setIfInBounds_toArray, List.set_cons_zero, List.set_cons_succ, i64_w, i32_w]
                                      rfl
                                    refine pure_ (i := 8) (N := some 103) (v := undef) (a' := ?_) #[true, true, true, true, true, true, true, true, true, false, false, false, false, false, false] rfl rfl (any_of HT_.out (by kernel_rfl)) (fun _ _ _ h => h) (Or.inr ⟨by rfl, rfl⟩) ?_ ?_
                                    rotate_left
                                    · simp only [Act.put, List.setIfInBounds_toArray, List.set_cons_zero, List.set_cons_succ, i64_w, i32_w]
                                      rfl
                                    refine pure_ (i := 9) (N := some 104) (v := undef) (a' := ?_) #[true, true, true, true, true, true, true, true, true, true, false, false, false, false, false] rfl rfl (any_of HT_.out (by kernel_rfl)) (fun _ _ _ h => h) (Or.inr ⟨by rfl, rfl⟩) ?_ ?_
                                    rotate_left
                                    · simp only [Act.put, List.setIfInBounds_toArray, List.set_cons_zero, List.set_cons_succ, i64_w, i32_w]
                                      rfl
                                    refine pure_ (i := 10) (N := some 105) (v := undef) (a' := ?_) #[true, true, true, true, true, true, true, true, true, true, true, false, false, false, false] rfl rfl (any_of HT_.out (by kernel_rfl)) (fun _ _ _ h => h) (Or.inr ⟨by rfl, rfl⟩) ?_ ?_
                                    rotate_left
                                    · simp only [Act.put, List.setIfInBounds_toArray, List.set_cons_zero, List.set_cons_succ, i64_w, i32_w]
                                      rfl
                                    refine pure_ (i := 11) (N := some 106) (v := undef) (a' := ?_) #[true, true, true, true, true, true, true, true, true, true, true, true, false, false, false] rfl rfl (any_of HT_.out (by kernel_rfl)) (fun _ _ _ h => h) (Or.inr ⟨by rfl, rfl⟩) ?_ ?_
                                    rotate_left
                                    · simp only [Act.put, List.setIfInBounds_toArray, List.set_cons_zero, List.set_cons_succ, i64_w, i32_w]
                                      rfl
                                    refine pure_ (i := 12) (N := some 107) (v := undef) (a' := ?_) #[true, true, true, true, true, true, true, true, true, true, true, true, true, false, false] rfl rfl (any_of HT_.out (by kernel_rfl)) (fun _ _ _ h => h) (Or.inr ⟨by rfl, rfl⟩) ?_ ?_
                                    rotate_left
                                    · simp only [Act.put, List.setIfInBounds_toArray, List.set_cons_zero, List.set_cons_succ, i64_w, i32_w]
                                      rfl
                                    refine pure_ (i := 13) (N := some 108) (v := undef) (a' := ?_) #[true, true, true, true, true, true, true, true, true, true, true, true, true, true, false] rfl rfl (any_of HT_.out (by kernel_rfl)) (fun _ _ _ h => h) (Or.inr ⟨by rfl, rfl⟩) ?_ ?_
                                    rotate_left
                                    · simp only [Act.put, List.setIfInBounds_toArray, List.set_cons_zero, List.set_cons_succ, i64_w, i32_w]
                                      rfl
                                    refine pure_ (i := 14) (N := some 109) (v := ?_) (a' := ?_) #[true, true, true, true, true, true, true, true, true, true, true, true, true, true, true] rfl rfl (any_of HT_.out (by kernel_rfl)) (fun _ _ _ h => h) (Or.inl ⟨by rfl, ?_⟩) ?_ ?_
                                    rotate_left
                                    · intro w'
                                      go_simp
                                      with_reducible rfl
                                    rotate_left
                                    · simp only [Act.put, List.setIfInBounds_toArray, List.set_cons_zero, List.set_cons_succ, i64_w, i32_w]
                                      rfl
                                    refine done_ (done_of HT_.out (by kernel_rfl)) ?_
                                    try go_wp2
                                    go_roundg k4
                                    case measure => have := HJ1.out; have := HK2.out; have := HK3.out; have := HK4.out; omega
                                    case rel => exact ⟨(x8_4), (x9_4), (wrap64 (x10_4 + 1)), (by first | rfl | (simp; done) | (simp [*]; done)), (by first | rfl | (simp; done) | (simp [*]; done)), (by first | rfl | (simp; done) | (simp [*]; done)), H', ⟨by have := HJ1.out; have := HK2.out; have := HK3.out; have := HK4.out; omega⟩, ⟨by (with_reducible repeat (first | apply Kd.R_alloc | apply Kd.R_drewN | apply Kd.R_drew)); exact HO_3.out⟩, ⟨by repeat (first | (with_reducible first | exact HB.out | apply below_alloc | apply pw_below_drewN | apply below_drew1) | exact HB.out)⟩⟩
                              · rw [if_neg c114] at H
                                exact absurd H (by simp)
                            · rw [if_neg c113] at H
                              exact absurd H (by simp)
                          · rw [if_neg c112] at H
                            exact absurd H (by simp)
                        · rw [if_neg c111] at H
                          have c111b0 : decide (x10_4 < (l0.length : Int)) = false := decide_eq_false c111
                          clear c111
                          by_cases c132 : x8_4 = x9_4
                          · rw [if_pos c132] at H
                            have c132b0 : (x8_4 == x9_4) = true := beq_iff_eq.mpr c132
                            have c132b1 : (x8_4 != x9_4) = false := bne_eq_false_iff_eq.mpr c132
                            clear c132
                            have H' := Aside0.mk H
                            clear H
                            go_wp2
                            go_roundg k4
                            case measure => have := HJ1.out; have := HK2.out; have := HK3.out; have := HK4.out; omega
                            case rel => exact ⟨(wrap64 (x7_3 + 1)), (by first | rfl | (simp; done) | (simp [*]; done)), H', ⟨by have := HJ1.out; have := HK2.out; have := HK3.out; have := HK4.out; omega⟩, ⟨by (with_reducible repeat (first | apply Kd.R_alloc | apply Kd.R_drewN | apply Kd.R_drew)); exact HO_3.out⟩, ⟨by repeat (first | (with_reducible first | exact HB.out | apply below_alloc | apply pw_below_drewN | apply below_drew1) | exact HB.out)⟩⟩
                          · rw [if_neg c132] at H
                            have c132b0 : (x8_4 == x9_4) = false := beq_eq_false_iff_ne.mpr c132
                            have c132b1 : (x8_4 != x9_4) = true := bne_iff_ne.mpr c132
                            obtain rfl := Option.some.inj H
                            go_wp2
                            go_ret
                            exact ⟨by first | rfl | (simp [errW_none, errW_some] <;> rfl) | (simp [*, errW_none, errW_some] <;> rfl), by repeat (first | (with_reducible first | exact HB.out | apply below_alloc | apply pw_below_drewN | apply below_drew1) | exact HB.out)⟩
                  · rw [if_neg c110] at H
                    have c110b0 : decide (x7_3 < (l0.length : Int)) = false := decide_eq_false c110
                    clear c110
                    by_cases c133 : (t164.length : Int) = (l0.length : Int)
                    · rw [if_pos c133] at H
                      have c133b0 : ((t164.length : Int) == (l0.length : Int)) = true := beq_iff_eq.mpr c133
                      have c133b1 : ((t164.length : Int) != (l0.length : Int)) = false := bne_eq_false_iff_eq.mpr c133
                      have c133b2 : (t164.length == l0.length) = true := by first | simpa using c133 | (simp at c133 ⊢; omega)
                      clear c133
                      replace H := Option.bind_eq_some_iff.mp H
                      obtain ⟨t171, A1340, H⟩ := H
                      replace H : ((modillionref07_Same.f k3 t171 t164).bind fun t174 => (some t174)) = some r := H
                      have A134 := Aside0.mk A1340
                      clear A1340
                      replace H := Option.bind_eq_some_iff.mp H
                      obtain ⟨t174, A1350, H⟩ := H
                      replace H : (some t174) = some r := H
                      have A135 := Aside0.mk A1350
                      clear A1350
                      obtain rfl := Option.some.inj H
                      go_wp2_with (first | (go_at_call 11; (with_reducible refine (fold_Sort.calls _ _ t164 t171 _ ?side1 ?side2 A134.out).mono ?_); (case side1 => repeat (first | exact (Kd.R_reads' HO_3.out).2.2 | (with_reducible refine Kd.C_alloc ?_ _) | (with_reducible refine Kd.C_drewN ?_ _) | (with_reducible refine Kd.C_drew ?_))); (case side2 => exact (Kd.R_reads' HO_3.out).2.1); rintro e w136 ⟨v172, rfl, ho0, hb⟩; have n0_ := Aside0.mk (Kd.R_elder' (by (with_reducible repeat (first | apply Kd.R_alloc | apply Kd.R_drewN | apply Kd.R_drew)); exact HO_3.out) (Kd.R_base ho0) hb); have n1_ := Aside0.mk (Kd.R_lower (Kd.R_new' ho0 (Kd.R_lt (by (with_reducible repeat (first | apply Kd.R_alloc | apply Kd.R_drewN | apply Kd.R_drew)); exact HO_3.out))) (below_size (by repeat (first | (with_reducible first | exact HB.out | apply below_alloc | apply pw_below_drewN | apply below_drew1) | exact HB.out)))); have n2_ := Aside0.mk (below_step (by repeat (first | (with_reducible first | exact HB.out | apply below_alloc | apply pw_below_drewN | apply below_drew1) | exact HB.out)) hb); clear HO_3; clear HB; have HO_3 := n0_; have HO173 := n1_; have HB := n2_; clear n0_ n1_ n2_; (try clear hb); (try clear hb2); (try clear hk); (try clear hi); (try clear ho0); obtain ⟨Ao137, co137, eo137⟩ := Kd.R_slice HO173.out; subst eo137) | (go_at_call 10; (with_reducible refine (modillionref07_Same.calls k3 _ _ t171 _ _ t164 t174 _ ?side1 ?side2 ?side3 ?side4 A135.out).mono ?_); (case side1 => repeat (first | exact (Kd.R_reads' HO173.out).2.2 | (with_reducible refine Kd.C_alloc ?_ _) | (with_reducible refine Kd.C_drewN ?_ _) | (with_reducible refine Kd.C_drew ?_))); (case side2 => exact (Kd.R_reads' HO173.out).2.1); (case side3 => repeat (first | exact (Kd.R_reads' HO_3.out).2.2 | (with_reducible refine Kd.C_alloc ?_ _) | (with_reducible refine Kd.C_drewN ?_ _) | (with_reducible refine Kd.C_drew ?_))); (case side4 => exact (Kd.R_reads' HO_3.out).2.1); rintro e w' ⟨rfl, ⟨nd, rfl⟩⟩))
                      go_ret
                      exact ⟨by first | rfl | (simp [errW_none, errW_some] <;> rfl) | (simp [*, errW_none, errW_some] <;> rfl), by repeat (first | (with_reducible first | exact HB.out | apply below_alloc | apply pw_below_drewN | apply below_drew1) | exact HB.out)⟩
                    · rw [if_neg c133] at H
                      have c133b0 : ((t164.length : Int) == (l0.length : Int)) = false := beq_eq_false_iff_ne.mpr c133
                      have c133b1 : ((t164.length : Int) != (l0.length : Int)) = true := bne_iff_ne.mpr c133
                      have c133b2 : (t164.length == l0.length) = false := by first | simpa using c133 | (simp at c133 ⊢; omega)
                      obtain rfl := Option.some.inj H
                      go_wp2
                      go_ret
                      exact ⟨by first | rfl | (simp [errW_none, errW_some] <;> rfl) | (simp [*, errW_none, errW_some] <;> rfl), by repeat (first | (with_reducible first | exact HB.out | apply below_alloc | apply pw_below_drewN | apply below_drew1) | exact HB.out)⟩

end Go.Proofs.Ytgdkemgilmfkfaa.P
