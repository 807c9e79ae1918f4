/- What these Go functions compute, as Lean functions, and that they do. No condition. -/
import Derived.Test.YtpndhkeoljoapaaPx0
import Derived.Test.YtpndhkeoljoapaaPx9
import Derived.Test.YtpndhkeoljoapaaPx10
namespace Go.Proofs.Ytpndhkeoljoapaa.P
open Go.RowKit Go.Proofs.YtpndhkeoljoapaaW.PrintWords Go.Proofs.YtpndhkeoljoapaaW.PrintLast Go.Proofs.YtpndhkeoljoapaaW.PrintMore
open Bool renaming true → Y, false → Z
open List renaming setIfInBounds_toArray → q1_, set_cons_zero → q2_, set_cons_succ → q3_
attribute [local go_sem] max2_int min2_int max_two min_two max_three min_three max_four min_four   -- for this text's walks alone
set_option linter.unusedVariables false
set_option linter.unusedSimpArgs false
set_option linter.unnecessarySimpa false
theorem iteS13 {α : Type} {c : Prop} [Decidable c] {a : Option α} {r : α} (h : (if c then a else none) = some r) : c ∧ a = some r := by
 by_cases hc : c
 ·rw [if_pos hc] at h; exact ⟨hc, h⟩
 ·rw [if_neg hc] at h; cases h

/-! ### modillionlaw09_SeqReaches: function 5 -/
mutual
def modillionlaw09_SeqReaches.j0 : Nat → Int → Bool → Int → List (S45) → Option (Bool)
 | 0, _, _, _, _ => none
 | k + 1, x1, x27, x255000, x255001 => if x27 = true then ((modillionlaw09_awake.f k).bind fun t256 => (some t256)) else ((modillionlaw09_Own.f x255000 x255001).bind fun bt258 => ((seq_Run.f k bt258.1 bt258.2 (⟨#[98, 102, 115]⟩ : ByteArray) x1 20).bind fun bt262 => (if bt262.2.2 = 0 then (modillionlaw09_SeqReaches.l0 k x1 bt262.1 0 x255000 x255001) else (some ((bt262.1.length : Int) == 0)))))
def modillionlaw09_SeqReaches.l0 : Nat → Int → List Int → Int → Int → List (S45) → Option (Bool)
 | 0, _, _, _, _, _ => none
 | k + 1, x1, x6, x9, x255000, x255001 => if x9 < (x255001.length : Int) then (if 0 ≤ x9 then (if 0 ≤ ((rd_T45 x255001 x9).f0) then (if ((rd_T45 x255001 x9).f0) < (x6.length : Int) then (if 0 ≤ ((rd_T45 x255001 x9).f1) then (if ((rd_T45 x255001 x9).f1) < (x6.length : Int) then (if (rd x6 ((rd_T45 x255001 x9).f0)) ≥ 0 then (if (rd x6 ((rd_T45 x255001 x9).f1)) < 0 then (some false) else (if (rd x6 ((rd_T45 x255001 x9).f1)) > (wrap64 ((rd x6 ((rd_T45 x255001 x9).f0)) + 1)) then (some false) else (modillionlaw09_SeqReaches.l0 k x1 x6 (wrap64 (x9 + 1)) x255000 x255001))) else (modillionlaw09_SeqReaches.l0 k x1 x6 (wrap64 (x9 + 1)) x255000 x255001)) else (none)) else (none)) else (none)) else (none)) else (none)) else (modillionlaw09_SeqReaches.l1 k x1 x6 0 x255000 x255001)
def modillionlaw09_SeqReaches.l1 : Nat → Int → List Int → Int → Int → List (S45) → Option (Bool)
 | 0, _, _, _, _, _ => none
 | k + 1, x1, x6, x12, x255000, x255001 => if x12 < (x6.length : Int) then (if 0 ≤ x12 then (modillionlaw09_SeqReaches.l2 k x1 x6 x12 (decide ((rd x6 x12) ≤ 0)) 0 x255000 x255001) else (none)) else (if 0 ≤ x1 then (if x1 < (x6.length : Int) then (some ((rd x6 x1) == 0)) else (none)) else (none))
def modillionlaw09_SeqReaches.l2 : Nat → Int → List Int → Int → Bool → Int → Int → List (S45) → Option (Bool)
 | 0, _, _, _, _, _, _, _ => none
 | k + 1, x1, x6, x12, x13, x14, x255000, x255001 => if x14 < (x255001.length : Int) then (if x13 = true then (modillionlaw09_SeqReaches.l2 k x1 x6 x12 true (wrap64 (x14 + 1)) x255000 x255001) else (if 0 ≤ x14 then (if ((rd_T45 x255001 x14).f1) = x12 then (if 0 ≤ ((rd_T45 x255001 x14).f0) then (if ((rd_T45 x255001 x14).f0) < (x6.length : Int) then (if 0 ≤ x12 then (if x12 < (x6.length : Int) then (modillionlaw09_SeqReaches.l2 k x1 x6 x12 ((rd x6 ((rd_T45 x255001 x14).f0)) == (wrap64 ((rd x6 x12) - 1))) (wrap64 (x14 + 1)) x255000 x255001) else (none)) else (none)) else (none)) else (none)) else (modillionlaw09_SeqReaches.l2 k x1 x6 x12 false (wrap64 (x14 + 1)) x255000 x255001)) else (none))) else (if x13 = true then (if 0 ≤ x12 then (if x12 < (x6.length : Int) then (if (rd x6 x12) = 0 then (if x12 = x1 then (modillionlaw09_SeqReaches.l1 k x1 x6 (wrap64 (x12 + 1)) x255000 x255001) else (some false)) else (modillionlaw09_SeqReaches.l1 k x1 x6 (wrap64 (x12 + 1)) x255000 x255001)) else (none)) else (none)) else (some false))
end
def modillionlaw09_SeqReaches.f (k : Nat) (a0_0 : Int) (l0_1 : List (S45)) (a1 : Int) : Option (Bool) := (modillionlaw09_awake.f k).bind fun t255 => (if t255 = true then (if (l0_1.length : Int) > 60 then (modillionlaw09_SeqReaches.j0 k a1 true a0_0 l0_1) else (modillionlaw09_SeqReaches.j0 k a1 (decide (a0_0 > 12)) a0_0 l0_1)) else (modillionlaw09_SeqReaches.j0 k a1 true a0_0 l0_1))
theorem modillionlaw09_SeqReaches.mono_l : ∀ k, (∀ y0 y1 y2 y3, LeO (modillionlaw09_SeqReaches.j0 k y0 y1 y2 y3) (modillionlaw09_SeqReaches.j0 (k + 1) y0 y1 y2 y3)) ∧ (∀ y0 y1 y2 y3 y4, LeO (modillionlaw09_SeqReaches.l0 k y0 y1 y2 y3 y4) (modillionlaw09_SeqReaches.l0 (k + 1) y0 y1 y2 y3 y4)) ∧ (∀ y0 y1 y2 y3 y4, LeO (modillionlaw09_SeqReaches.l1 k y0 y1 y2 y3 y4) (modillionlaw09_SeqReaches.l1 (k + 1) y0 y1 y2 y3 y4)) ∧ (∀ y0 y1 y2 y3 y4 y5 y6, LeO (modillionlaw09_SeqReaches.l2 k y0 y1 y2 y3 y4 y5 y6) (modillionlaw09_SeqReaches.l2 (k + 1) y0 y1 y2 y3 y4 y5 y6))
 | 0 => ⟨fun _ _ _ _ r h => by simp [modillionlaw09_SeqReaches.j0] at h, fun _ _ _ _ _ r h => by simp [modillionlaw09_SeqReaches.l0] at h, fun _ _ _ _ _ r h => by simp [modillionlaw09_SeqReaches.l1] at h, fun _ _ _ _ _ _ _ r h => by simp [modillionlaw09_SeqReaches.l2] at h⟩
 | k + 1 => by
  obtain ⟨ih0, ih1, ih2, ih3⟩ := modillionlaw09_SeqReaches.mono_l k
  refine ⟨?_, ?_, ?_, ?_⟩
  ·intro y0 y1 y2 y3
   unfold modillionlaw09_SeqReaches.j0
   repeat' first
   | (with_reducible exact ih0 _ _ _ _)
   | (with_reducible exact ih1 _ _ _ _ _)
   | (with_reducible exact ih2 _ _ _ _ _)
   | (with_reducible exact ih3 _ _ _ _ _ _ _)
   | (with_reducible exact modillionlaw09_awake.mono _)
   | (with_reducible exact seq_Run.mono _ _ _ _ _ _)
   | (with_reducible exact LeO.refl _)
   | (with_reducible exact LeO.none _)
   | (with_reducible refine LeO.ite ?_ ?_)
   | (with_reducible refine LeO.bind ?_ (fun _ => ?_))
   | exact ih0 _ _ _ _
   | exact ih1 _ _ _ _ _
   | exact ih2 _ _ _ _ _
   | exact ih3 _ _ _ _ _ _ _
   | exact modillionlaw09_awake.mono _
   | exact seq_Run.mono _ _ _ _ _ _
   | exact LeO.none _
   | refine LeO.ite ?_ ?_
   | refine LeO.bind ?_ (fun _ => ?_)
  ·intro y0 y1 y2 y3 y4
   unfold modillionlaw09_SeqReaches.l0
   repeat' first
   | (with_reducible exact ih0 _ _ _ _)
   | (with_reducible exact ih1 _ _ _ _ _)
   | (with_reducible exact ih2 _ _ _ _ _)
   | (with_reducible exact ih3 _ _ _ _ _ _ _)
   | (with_reducible exact modillionlaw09_awake.mono _)
   | (with_reducible exact seq_Run.mono _ _ _ _ _ _)
   | (with_reducible exact LeO.refl _)
   | (with_reducible exact LeO.none _)
   | (with_reducible refine LeO.ite ?_ ?_)
   | (with_reducible refine LeO.bind ?_ (fun _ => ?_))
   | exact ih0 _ _ _ _
   | exact ih1 _ _ _ _ _
   | exact ih2 _ _ _ _ _
   | exact ih3 _ _ _ _ _ _ _
   | exact modillionlaw09_awake.mono _
   | exact seq_Run.mono _ _ _ _ _ _
   | exact LeO.none _
   | refine LeO.ite ?_ ?_
   | refine LeO.bind ?_ (fun _ => ?_)
  ·intro y0 y1 y2 y3 y4
   unfold modillionlaw09_SeqReaches.l1
   repeat' first
   | (with_reducible exact ih0 _ _ _ _)
   | (with_reducible exact ih1 _ _ _ _ _)
   | (with_reducible exact ih2 _ _ _ _ _)
   | (with_reducible exact ih3 _ _ _ _ _ _ _)
   | (with_reducible exact modillionlaw09_awake.mono _)
   | (with_reducible exact seq_Run.mono _ _ _ _ _ _)
   | (with_reducible exact LeO.refl _)
   | (with_reducible exact LeO.none _)
   | (with_reducible refine LeO.ite ?_ ?_)
   | (with_reducible refine LeO.bind ?_ (fun _ => ?_))
   | exact ih0 _ _ _ _
   | exact ih1 _ _ _ _ _
   | exact ih2 _ _ _ _ _
   | exact ih3 _ _ _ _ _ _ _
   | exact modillionlaw09_awake.mono _
   | exact seq_Run.mono _ _ _ _ _ _
   | exact LeO.none _
   | refine LeO.ite ?_ ?_
   | refine LeO.bind ?_ (fun _ => ?_)
  ·intro y0 y1 y2 y3 y4 y5 y6
   unfold modillionlaw09_SeqReaches.l2
   repeat' first
   | (with_reducible exact ih0 _ _ _ _)
   | (with_reducible exact ih1 _ _ _ _ _)
   | (with_reducible exact ih2 _ _ _ _ _)
   | (with_reducible exact ih3 _ _ _ _ _ _ _)
   | (with_reducible exact modillionlaw09_awake.mono _)
   | (with_reducible exact seq_Run.mono _ _ _ _ _ _)
   | (with_reducible exact LeO.refl _)
   | (with_reducible exact LeO.none _)
   | (with_reducible refine LeO.ite ?_ ?_)
   | (with_reducible refine LeO.bind ?_ (fun _ => ?_))
   | exact ih0 _ _ _ _
   | exact ih1 _ _ _ _ _
   | exact ih2 _ _ _ _ _
   | exact ih3 _ _ _ _ _ _ _
   | exact modillionlaw09_awake.mono _
   | exact seq_Run.mono _ _ _ _ _ _
   | exact LeO.none _
   | refine LeO.ite ?_ ?_
   | refine LeO.bind ?_ (fun _ => ?_)
theorem modillionlaw09_SeqReaches.mono : ∀ a0 a1 a2 k, LeO (modillionlaw09_SeqReaches.f k a0 a1 a2) (modillionlaw09_SeqReaches.f (k + 1) a0 a1 a2) := by
 intro a0 a1 a2 k
 obtain ⟨ih0, ih1, ih2, ih3⟩ := modillionlaw09_SeqReaches.mono_l k
 unfold modillionlaw09_SeqReaches.f
 repeat' first
   | (with_reducible exact ih0 _ _ _ _)
   | (with_reducible exact ih1 _ _ _ _ _)
   | (with_reducible exact ih2 _ _ _ _ _)
   | (with_reducible exact ih3 _ _ _ _ _ _ _)
   | (with_reducible exact modillionlaw09_awake.mono _)
   | (with_reducible exact seq_Run.mono _ _ _ _ _ _)
   | (with_reducible exact LeO.refl _)
   | (with_reducible exact LeO.none _)
   | (with_reducible refine LeO.ite ?_ ?_)
   | (with_reducible refine LeO.bind ?_ (fun _ => ?_))
   | exact ih0 _ _ _ _
   | exact ih1 _ _ _ _ _
   | exact ih2 _ _ _ _ _
   | exact ih3 _ _ _ _ _ _ _
   | exact modillionlaw09_awake.mono _
   | exact seq_Run.mono _ _ _ _ _ _
   | exact LeO.none _
   | refine LeO.ite ?_ ?_
   | refine LeO.bind ?_ (fun _ => ?_)
def modillionlaw09_SeqReaches.T4 : Bool × List (List Nat × List Nat) := (true, [([], []), ([0], [0]), ([], []), ([1, 2, 1], [1, 2]), ([3], [3]), ([4], [4]), ([4], [4]), ([4], [4]), ([5, 3, 0, 1, 2, 3, 4, 5], [5]), ([6, 8, 0, 1, 2, 3, 4, 5, 6, 8], [6]), ([7, 9, 0, 1, 2, 3, 4, 5, 6, 7, 8, 9], [7])])
def modillionlaw09_SeqReaches.B4 : List Nat := [0, 1, 0, 7, 15, 31, 31, 31, 63, 383, 1023]
theorem modillionlaw09_SeqReaches.tab4 : rtab .any (opsOf Try.f5 4) = modillionlaw09_SeqReaches.T4 := by kernel_rfl
theorem modillionlaw09_SeqReaches.bits4 : waitsOk modillionlaw09_SeqReaches.T4.2 modillionlaw09_SeqReaches.B4 = true := by kernel_rfl
def modillionlaw09_SeqReaches.T10 : Bool × List (List Nat × List Nat) := (true, [([], []), ([], []), ([1], [1]), ([], []), ([2, 3], [2, 3]), ([4], [4]), ([5], [5]), ([0, 6], [0, 6]), ([7], [7]), ([], []), ([], []), ([10], [10]), ([], []), ([11, 12], [11, 12]), ([13], [13]), ([14], [14]), ([9, 15], [9, 15]), ([16], [16]), ([8, 0, 1, 2, 3, 4, 5, 6, 7, 8], [8]), ([17, 18, 0, 1, 2, 3, 4, 5, 6, 7, 8, 9, 10, 11, 12, 13, 14, 15, 16, 17, 18], [17])])
def modillionlaw09_SeqReaches.B10 : List Nat := [0, 0, 2, 0, 14, 30, 62, 127, 255, 0, 0, 1024, 0, 7168, 15360, 31744, 65024, 130560, 511, 524287]
theorem modillionlaw09_SeqReaches.tab10 : rtab .any (opsOf Try.f5 10) = modillionlaw09_SeqReaches.T10 := by kernel_rfl
theorem modillionlaw09_SeqReaches.bits10 : waitsOk modillionlaw09_SeqReaches.T10.2 modillionlaw09_SeqReaches.B10 = true := by kernel_rfl
def modillionlaw09_SeqReaches.T20 : Bool × List (List Nat × List Nat) := (true, [([], []), ([0], [0]), ([1], [1]), ([2, 1], [1, 2]), ([1], [1]), ([3, 4, 1], [1, 3, 4]), ([5, 1], [1, 5]), ([6, 1], [1, 6]), ([1], [1]), ([7, 8, 1], [1, 7, 8]), ([9, 1, 1], [1, 9]), ([10], [10]), ([10], [10]), ([12, 10], [10, 12]), ([10], [10]), ([13, 14, 10], [10, 13, 14]), ([15, 10], [10, 15]), ([16, 10], [10, 16]), ([11, 17, 10], [10, 11, 17]), ([18, 10], [10, 18]), ([10], [10]), ([10], [10]), ([20, 21, 10], [10, 20, 21]), ([22, 10], [10, 22]), ([23, 10], [10, 23]), ([19, 24, 10], [10, 19, 24]), ([10, 25, 1], [1, 10, 25]), ([1, 26], [1, 26]), ([27, 10, 0, 1, 2, 3, 4, 5, 6, 7, 8, 9, 10, 11, 12, 13, 14, 15, 16, 17, 18, 19, 20, 21, 22, 23, 24, 25, 26, 27], [0, 27])])
def modillionlaw09_SeqReaches.B20 : List Nat := [0, 1, 3, 7, 3, 31, 63, 127, 3, 511, 1023, 2047, 2047, 6143, 2047, 30719, 63487, 129023, 262143, 524287, 2047, 2047, 3147775, 7342079, 15730687, 33554431, 67108863, 134217727, 268435455]
theorem modillionlaw09_SeqReaches.tab20 : rtab .any (opsOf Try.f5 20) = modillionlaw09_SeqReaches.T20 := by kernel_rfl
theorem modillionlaw09_SeqReaches.bits20 : waitsOk modillionlaw09_SeqReaches.T20.2 modillionlaw09_SeqReaches.B20 = true := by kernel_rfl
set_option maxHeartbeats 8000000 in
set_option maxRecDepth 100000 in
theorem modillionlaw09_SeqReaches.calls (k : Nat) (a0_0 : Int) (A0_1 : Option Addr) (c0_1 : Nat) (l0_1 : List (S45)) (a1 : Int) (r : Bool) (w : World) (hr0_1 : Kd.C k45 w A0_1 l0_1.length l0_1) (hc0_1 : l0_1.length ≤ c0_1) (h : modillionlaw09_SeqReaches.f k a0_0 l0_1 a1 = some r) :
  Calls Try.prog 5 #[.agg #[.int .i64 a0_0, .slice A0_1 l0_1.length c0_1], .int .i64 a1] w fun e w' => e = .returned (.bool r) ∧ Below w.heap.size w w' := by
 have hu24 := Try.underlying24
 have hu26 := Try.underlying26
 have HR0_1 := Aside0.mk hr0_1
 have HC0_1 := Aside0.mk hc0_1
 clear hr0_1 hc0_1
 have HB := Aside0.mk (Below.refl w.heap.size w)
 have H : ((modillionlaw09_awake.f k).bind fun t255 => (if t255 = true then (if (l0_1.length : Int) > 60 then (modillionlaw09_SeqReaches.j0 k a1 true a0_0 l0_1) else (modillionlaw09_SeqReaches.j0 k a1 (decide (a0_0 > 12)) a0_0 l0_1)) else (modillionlaw09_SeqReaches.j0 k a1 true a0_0 l0_1))) = some r := h
 clear h
 have HC3 := Aside0.mk H
 clear H
 go_enter Try.func5, Try.ntmps5
 go_upto_region 1 with (first | ((with_reducible refine gate_dst (N := 2) rfl ?_); (try (refine gate_guard (by rfl) ?_; dsimp only)); refine box_event ?hg (N := 2) ?hd (cs := #[.int .i64 a0_0, .slice A0_1 l0_1.length c0_1]) (t := 24) ?hr ?_; (case hd => rfl); (case hg => rfl); (case hr => first | (go_simp; done) | (go_simp; rfl)); intro gb254 hg w4 hbox hb; have n0_ := Aside0.mk (below_step (by repeat (first | (with_reducible first | exact HB.out | apply below_alloc | apply pw_below_drewN | apply below_drew1) | exact HB.out)) hb); have n1_ := Aside0.mk (hbox); have n2_ := Aside0.mk ((by rw [hg]; exact (below_size (by repeat (first | (with_reducible first | exact HB.out | apply below_alloc | apply pw_below_drewN | apply below_drew1) | exact HB.out))) : w.heap.size ≤ gb254)); have n3_ := Aside0.mk ((by rw [hg]; exact (below_size (by repeat (first | (with_reducible first | exact HB.out | apply below_alloc | apply pw_below_drewN | apply below_drew1) | exact HB.out))) : w.heap.size ≤ gb254)); clear HB; have HB := n0_; have BK254 := n1_; have GW254 := n2_; have GE254 := n3_; clear n0_ n1_ n2_ n3_; clear hb hbox hg))
 (try simp only [Act.put, q1_, q2_, q3_])
 go_cut [27] (fun v27 wc => ∃ (kq : Nat) (x27_2 : Bool), v27 = .bool x27_2 ∧ Aside0 (modillionlaw09_SeqReaches.j0 kq a1 x27_2 a0_0 l0_1 = some r) ∧ Aside0 (kq ≤ k) ∧ Aside0 (wc.heap[gb254]? = some (.cells #[.int .i64 a0_0, (.slice A0_1 l0_1.length c0_1)] 24 (0, 0))) ∧ Aside0 (Below w.heap.size w wc))
 case first =>
  have H := HC3.out
  clear HC3
  replace H := Option.bind_eq_some_iff.mp H
  obtain ⟨t255, A50, H⟩ := H
  replace H : (if t255 = true then (if (l0_1.length : Int) > 60 then (modillionlaw09_SeqReaches.j0 k a1 true a0_0 l0_1) else (modillionlaw09_SeqReaches.j0 k a1 (decide (a0_0 > 12)) a0_0 l0_1)) else (modillionlaw09_SeqReaches.j0 k a1 true a0_0 l0_1)) = some r := H
  have A5 := Aside0.mk A50
  clear A50
  by_cases c6 : t255 = true
  ·subst c6
   have H1 : (if (l0_1.length : Int) > 60 then (modillionlaw09_SeqReaches.j0 k a1 true a0_0 l0_1) else (modillionlaw09_SeqReaches.j0 k a1 (decide (a0_0 > 12)) a0_0 l0_1)) = some r := by rw [if_pos rfl] at H; exact H
   clear H
   have H := H1
   clear H1
   by_cases c7 : (l0_1.length : Int) > 60
   ·rw [if_pos c7] at H
    have c7b0 : decide (60 < (l0_1.length : Int)) = true := decide_eq_true c7
    have c7b1 : decide (60 < l0_1.length) = true := decide_eq_true (by omega)
    clear c7
    (first | rw [c7b0] | (simp only [i64_w, i32_w]; rw [c7b0]) | skip)
    have H' := Aside0.mk H
    clear H
    go_wp2_with (first | ((with_reducible refine gate_callee (f := 11) rfl ?_); refine goesL_ (some 15) rfl rfl Try.func11 (by kernel_rfl) rfl #[] rfl (by (try simp only [List.map_toArray, List.map_cons, List.map_nil]); first | done | rfl | (simp only [List.length_drop, List.length_take]; rfl)) ?_; (with_reducible refine (modillionlaw09_awake.calls k  true _ A5.out).mono ?_); rintro e w8 ⟨rfl, hb⟩; refine ⟨_, rfl, ?_⟩; have n0_ := Aside0.mk (blk_below (g := gb254) (o := .cells #[.int .i64 a0_0, .slice A0_1 l0_1.length c0_1] 24 (0, 0)) (by (with_reducible repeat (first | refine blk_drewN ?_ _ | refine blk_drew ?_ | refine blk_alloc ?_ _)); exact BK254.out) hb); have n1_ := Aside0.mk (below_step (by repeat (first | (with_reducible first | exact HB.out | apply below_alloc | apply pw_below_drewN | apply below_drew1 | refine below_set ?_ GE254.out) | exact HB.out)) hb); clear BK254; clear HB; have BK254 := n0_; have HB := n1_; clear n0_ n1_; (try clear hb); (try clear hb2); (try clear hk); (try clear hi); have hcz9_0 : w8.cell? ⟨gb254, 0, none⟩ = some (.int .i64 a0_0) := (blk_cell BK254.out 0).trans rfl; have hcz9_1 : w8.cell? ⟨gb254, 1, none⟩ = some (.slice A0_1 l0_1.length c0_1) := (blk_cell BK254.out 1).trans rfl; have hfz9_0 := blk_frozen BK254.out 0; have hfz9_1 := blk_frozen BK254.out 1))
    go_meet
    case rel => exact ⟨_, (true), (by first | rfl | (simp; done) | (simp [*]; done)), H', ⟨by first | omega | exact Nat.le_refl _⟩, ⟨by (with_reducible repeat (first | refine blk_drewN ?_ _ | refine blk_drew ?_ | refine blk_alloc ?_ _)); exact BK254.out⟩, ⟨by repeat (first | (with_reducible first | exact HB.out | apply below_alloc | apply pw_below_drewN | apply below_drew1 | refine below_set ?_ GE254.out) | exact HB.out)⟩⟩
   ·rw [if_neg c7] at H
    have c7b0 : decide (60 < (l0_1.length : Int)) = false := decide_eq_false c7
    have c7b1 : decide (60 < l0_1.length) = false := decide_eq_false (by omega)
    clear c7
    (first | rw [c7b0] | (simp only [i64_w, i32_w]; rw [c7b0]) | skip)
    have H' := Aside0.mk H
    clear H
    go_wp2_with (first | ((with_reducible refine gate_callee (f := 11) rfl ?_); refine goesL_ (some 15) rfl rfl Try.func11 (by kernel_rfl) rfl #[] rfl (by (try simp only [List.map_toArray, List.map_cons, List.map_nil]); first | done | rfl | (simp only [List.length_drop, List.length_take]; rfl)) ?_; (with_reducible refine (modillionlaw09_awake.calls k  true _ A5.out).mono ?_); rintro e w10 ⟨rfl, hb⟩; refine ⟨_, rfl, ?_⟩; have n0_ := Aside0.mk (blk_below (g := gb254) (o := .cells #[.int .i64 a0_0, .slice A0_1 l0_1.length c0_1] 24 (0, 0)) (by (with_reducible repeat (first | refine blk_drewN ?_ _ | refine blk_drew ?_ | refine blk_alloc ?_ _)); exact BK254.out) hb); have n1_ := Aside0.mk (below_step (by repeat (first | (with_reducible first | exact HB.out | apply below_alloc | apply pw_below_drewN | apply below_drew1 | refine below_set ?_ GE254.out) | exact HB.out)) hb); clear BK254; clear HB; have BK254 := n0_; have HB := n1_; clear n0_ n1_; (try clear hb); (try clear hb2); (try clear hk); (try clear hi); have hcz11_0 : w10.cell? ⟨gb254, 0, none⟩ = some (.int .i64 a0_0) := (blk_cell BK254.out 0).trans rfl; have hcz11_1 : w10.cell? ⟨gb254, 1, none⟩ = some (.slice A0_1 l0_1.length c0_1) := (blk_cell BK254.out 1).trans rfl; have hfz11_0 := blk_frozen BK254.out 0; have hfz11_1 := blk_frozen BK254.out 1))
    go_meet
    case rel => exact ⟨_, (decide (a0_0 > 12)), (by first | rfl | (simp; done) | (simp [*]; done)), H', ⟨by first | omega | exact Nat.le_refl _⟩, ⟨by (with_reducible repeat (first | refine blk_drewN ?_ _ | refine blk_drew ?_ | refine blk_alloc ?_ _)); exact BK254.out⟩, ⟨by repeat (first | (with_reducible first | exact HB.out | apply below_alloc | apply pw_below_drewN | apply below_drew1 | refine below_set ?_ GE254.out) | exact HB.out)⟩⟩
  ·replace c6 := Bool.eq_false_iff.mpr c6
   subst c6
   have H1 : (modillionlaw09_SeqReaches.j0 k a1 true a0_0 l0_1) = some r := by rw [if_neg (show ¬ (false = true) by decide)] at H; exact H
   clear H
   have H := H1
   clear H1
   have H' := Aside0.mk H
   clear H
   go_wp2_with (first | ((with_reducible refine gate_callee (f := 11) rfl ?_); refine goesL_ (some 15) rfl rfl Try.func11 (by kernel_rfl) rfl #[] rfl (by (try simp only [List.map_toArray, List.map_cons, List.map_nil]); first | done | rfl | (simp only [List.length_drop, List.length_take]; rfl)) ?_; (with_reducible refine (modillionlaw09_awake.calls k  false _ A5.out).mono ?_); rintro e w12 ⟨rfl, hb⟩; refine ⟨_, rfl, ?_⟩; have n0_ := Aside0.mk (blk_below (g := gb254) (o := .cells #[.int .i64 a0_0, .slice A0_1 l0_1.length c0_1] 24 (0, 0)) (by (with_reducible repeat (first | refine blk_drewN ?_ _ | refine blk_drew ?_ | refine blk_alloc ?_ _)); exact BK254.out) hb); have n1_ := Aside0.mk (below_step (by repeat (first | (with_reducible first | exact HB.out | apply below_alloc | apply pw_below_drewN | apply below_drew1 | refine below_set ?_ GE254.out) | exact HB.out)) hb); clear BK254; clear HB; have BK254 := n0_; have HB := n1_; clear n0_ n1_; (try clear hb); (try clear hb2); (try clear hk); (try clear hi)))
   go_meet
   case rel => exact ⟨_, (true), (by first | rfl | (simp; done) | (simp [*]; done)), H', ⟨by first | omega | exact Nat.le_refl _⟩, ⟨by (with_reducible repeat (first | refine blk_drewN ?_ _ | refine blk_drew ?_ | refine blk_alloc ?_ _)); exact BK254.out⟩, ⟨by repeat (first | (with_reducible first | exact HB.out | apply below_alloc | apply pw_below_drewN | apply below_drew1 | refine below_set ?_ GE254.out) | exact HB.out)⟩⟩
 case rest =>
  clear HC3
  try clear c1
  try clear p2
  try clear c5
  try clear c6
  try clear c7
  try clear c7b0
  try clear c7b1
  try clear c11
  try clear hcz11_0
  try clear hcz11_1
  try clear hcz9_0
  try clear hcz9_1
  try clear hfz11_0
  try clear hfz11_1
  try clear hfz9_0
  try clear hfz9_1
  obtain ⟨kq, x27_2, rfl, HA, HJ2, BK254, HB⟩ := hcut
  cases kq with
  | zero => exact absurd HA.out (by simp [modillionlaw09_SeqReaches.j0])
  | succ kj2 =>
   have H := HA.out
   clear HA
   simp only [modillionlaw09_SeqReaches.j0] at H
   by_cases c13 : x27_2 = true
   ·subst c13
    have H1 : ((modillionlaw09_awake.f kj2).bind fun t256 => (some t256)) = some r := by rw [if_pos rfl] at H; exact H
    clear H
    have H := H1
    clear H1
    replace H := Option.bind_eq_some_iff.mp H
    obtain ⟨t256, A140, H⟩ := H
    replace H : (some t256) = some r := H
    have A14 := Aside0.mk A140
    clear A140
    obtain rfl := Option.some.inj H
    go_wp2_with (first | ((with_reducible refine gate_callee (f := 11) rfl ?_); refine goesL_ (some 28) rfl rfl Try.func11 (by kernel_rfl) rfl #[] rfl (by (try simp only [List.map_toArray, List.map_cons, List.map_nil]); first | done | rfl | (simp only [List.length_drop, List.length_take]; rfl)) ?_; (with_reducible refine (modillionlaw09_awake.calls kj2  t256 _ A14.out).mono ?_); rintro e w15 ⟨rfl, hb⟩; refine ⟨_, rfl, ?_⟩; have n0_ := Aside0.mk (blk_below (g := gb254) (o := .cells #[.int .i64 a0_0, .slice A0_1 l0_1.length c0_1] 24 (0, 0)) (by (with_reducible repeat (first | refine blk_drewN ?_ _ | refine blk_drew ?_ | refine blk_alloc ?_ _)); exact BK254.out) hb); have n1_ := Aside0.mk (below_step (by repeat (first | (with_reducible first | exact HB.out | apply below_alloc | apply pw_below_drewN | apply below_drew1 | refine below_set ?_ GE254.out) | exact HB.out)) hb); clear BK254; clear HB; have BK254 := n0_; have HB := n1_; clear n0_ n1_; (try clear hb); (try clear hb2); (try clear hk); (try clear hi)))
    go_ret
    exact ⟨by first | rfl | (simp [errW_none, errW_some] <;> rfl) | (simp [*, errW_none, errW_some] <;> rfl), by repeat (first | (with_reducible first | exact HB.out | apply below_alloc | apply pw_below_drewN | apply below_drew1 | refine below_set ?_ GE254.out) | exact HB.out)⟩
   ·replace c13 := Bool.eq_false_iff.mpr c13
    subst c13
    have H1 : ((modillionlaw09_Own.f a0_0 l0_1).bind fun bt258 => ((seq_Run.f kj2 bt258.1 bt258.2 (⟨#[98, 102, 115]⟩ : ByteArray) a1 20).bind fun bt262 => (if bt262.2.2 = 0 then (modillionlaw09_SeqReaches.l0 kj2 a1 bt262.1 0 a0_0 l0_1) else (some ((bt262.1.length : Int) == 0))))) = some r := by rw [if_neg (show ¬ (false = true) by decide)] at H; exact H
    clear H
    have H := H1
    clear H1
    replace H := Option.bind_eq_some_iff.mp H
    obtain ⟨⟨t258, t259⟩, A160, H⟩ := H
    replace H : ((seq_Run.f kj2 t258 t259 (⟨#[98, 102, 115]⟩ : ByteArray) a1 20).bind fun bt262 => (if bt262.2.2 = 0 then (modillionlaw09_SeqReaches.l0 kj2 a1 bt262.1 0 a0_0 l0_1) else (some ((bt262.1.length : Int) == 0)))) = some r := H
    have A16 := Aside0.mk A160
    clear A160
    replace H := Option.bind_eq_some_iff.mp H
    obtain ⟨⟨t262, t265, t266⟩, A170, H⟩ := H
    replace H : (if t266 = 0 then (modillionlaw09_SeqReaches.l0 kj2 a1 t262 0 a0_0 l0_1) else (some ((t262.length : Int) == 0))) = some r := H
    have A17 := Aside0.mk A170
    clear A170
    have HH_ := Aside0.mk H
    clear H
    try go_wp2_with (first | ((with_reducible refine gate_dst (N := 5) rfl ?_); (try (refine gate_guard (by rfl) ?_; dsimp only)); refine box_event ?hg (N := 5) ?hd (cs := #[.string (⟨#[]⟩ : ByteArray), .int .i64 0, .int .i64 0]) (t := 26) ?hr ?_; (case hd => rfl); (case hg => rfl); (case hr => first | (go_simp; done) | (go_simp; rfl)); intro gb257 hg w19 hbox hb; have n0_ := Aside0.mk (blk_below (g := gb254) (o := .cells #[.int .i64 a0_0, .slice A0_1 l0_1.length c0_1] 24 (0, 0)) (by (with_reducible repeat (first | refine blk_drewN ?_ _ | refine blk_drew ?_ | refine blk_alloc ?_ _)); exact BK254.out) hb); have n1_ := Aside0.mk (below_step (by repeat (first | (with_reducible first | exact HB.out | apply below_alloc | apply pw_below_drewN | apply below_drew1 | refine below_set ?_ GE254.out) | exact HB.out)) hb); have n2_ := Aside0.mk (hbox); have n3_ := Aside0.mk ((by rw [hg]; exact (below_size (by repeat (first | (with_reducible first | exact HB.out | apply below_alloc | apply pw_below_drewN | apply below_drew1 | refine below_set ?_ GE254.out) | exact HB.out))) : w.heap.size ≤ gb257)); have n4_ := Aside0.mk ((by rw [hg]; exact (below_size (by repeat (first | (with_reducible first | exact HB.out | apply below_alloc | apply pw_below_drewN | apply below_drew1 | refine below_set ?_ GE254.out) | exact HB.out))) : w.heap.size ≤ gb257)); have n5_ := Aside0.mk ((by rw [hg]; exact Nat.ne_of_lt (blk_lt (g := gb254) (o := .cells #[.int .i64 a0_0, .slice A0_1 l0_1.length c0_1] 24 (0, 0)) (by (with_reducible repeat (first | refine blk_drewN ?_ _ | refine blk_drew ?_ | refine blk_alloc ?_ _)); exact BK254.out)) : gb254 ≠ gb257)); have n6_ := Aside0.mk ((by rw [hg]; exact Nat.ne_of_gt (blk_lt (g := gb254) (o := .cells #[.int .i64 a0_0, .slice A0_1 l0_1.length c0_1] 24 (0, 0)) (by (with_reducible repeat (first | refine blk_drewN ?_ _ | refine blk_drew ?_ | refine blk_alloc ?_ _)); exact BK254.out)) : gb257 ≠ gb254)); clear BK254; clear HB; have BK254 := n0_; have HB := n1_; have BK257 := n2_; have GW257 := n3_; have GE257 := n4_; have NB254_257 := n5_; have NB257_254 := n6_; clear n0_ n1_ n2_ n3_ n4_ n5_ n6_; clear hb hbox hg; have hnb20 := NB257_254.out; have hnc20 := NB254_257.out; have hcz21_0 : w19.cell? ⟨gb257, 0, none⟩ = some (.string (⟨#[]⟩ : ByteArray)) := (blk_cell BK257.out 0).trans rfl; have hcz21_1 : w19.cell? ⟨gb257, 1, none⟩ = some (.int .i64 0) := (blk_cell BK257.out 1).trans rfl; have hcz21_2 : w19.cell? ⟨gb257, 2, none⟩ = some (.int .i64 0) := (blk_cell BK257.out 2).trans rfl; have hfz21_0 := blk_frozen BK257.out 0; have hfz21_1 := blk_frozen BK257.out 1; have hfz21_2 := blk_frozen BK257.out 2))
    have n0_ : Aside0 ((((w19.setCell ⟨gb257, 0, none⟩ (.string (⟨#[98, 102, 115]⟩ : ByteArray))).setCell ⟨gb257, 1, none⟩ (.int .i64 a1)).setCell ⟨gb257, 2, none⟩ (.int .i64 20)).heap[gb254]? = some (.cells #[.int .i64 a0_0, .slice A0_1 l0_1.length c0_1] 24 (0, 0))) := ⟨by (with_reducible repeat (first | refine blk_drewN ?_ _ | refine blk_drew ?_ | refine blk_alloc ?_ _)); refine blk_far ?_ NB254_257.out _; (with_reducible repeat (first | refine blk_drewN ?_ _ | refine blk_drew ?_ | refine blk_alloc ?_ _)); refine blk_far ?_ NB254_257.out _; (with_reducible repeat (first | refine blk_drewN ?_ _ | refine blk_drew ?_ | refine blk_alloc ?_ _)); refine blk_far ?_ NB254_257.out _; (with_reducible repeat (first | refine blk_drewN ?_ _ | refine blk_drew ?_ | refine blk_alloc ?_ _)); exact BK254.out⟩
    have n1_ : Aside0 ((((w19.setCell ⟨gb257, 0, none⟩ (.string (⟨#[98, 102, 115]⟩ : ByteArray))).setCell ⟨gb257, 1, none⟩ (.int .i64 a1)).setCell ⟨gb257, 2, none⟩ (.int .i64 20)).heap[gb257]? = some (.cells #[.string (⟨#[98, 102, 115]⟩ : ByteArray), .int .i64 a1, .int .i64 20] 26 (0, 0))) := ⟨by (with_reducible repeat (first | refine blk_drewN ?_ _ | refine blk_drew ?_ | refine blk_alloc ?_ _)); refine blk_put (cs := #[.string (⟨#[98, 102, 115]⟩ : ByteArray), .int .i64 a1, .int .i64 0]) ?_ 2 _ rfl; (with_reducible repeat (first | refine blk_drewN ?_ _ | refine blk_drew ?_ | refine blk_alloc ?_ _)); refine blk_put (cs := #[.string (⟨#[98, 102, 115]⟩ : ByteArray), .int .i64 0, .int .i64 0]) ?_ 1 _ rfl; (with_reducible repeat (first | refine blk_drewN ?_ _ | refine blk_drew ?_ | refine blk_alloc ?_ _)); refine blk_put (cs := #[.string (⟨#[]⟩ : ByteArray), .int .i64 0, .int .i64 0]) ?_ 0 _ rfl; (with_reducible repeat (first | refine blk_drewN ?_ _ | refine blk_drew ?_ | refine blk_alloc ?_ _)); exact BK257.out⟩
    have n2_ : Aside0 (Below w.heap.size w (((w19.setCell ⟨gb257, 0, none⟩ (.string (⟨#[98, 102, 115]⟩ : ByteArray))).setCell ⟨gb257, 1, none⟩ (.int .i64 a1)).setCell ⟨gb257, 2, none⟩ (.int .i64 20))) := ⟨by repeat (first | (with_reducible first | exact HB.out | apply below_alloc | apply pw_below_drewN | apply below_drew1 | refine below_set ?_ GE254.out | refine below_set ?_ GE257.out) | exact HB.out)⟩
    (try clear BK254)
    (try clear BK257)
    (try clear HB)
    generalize (((w19.setCell ⟨gb257, 0, none⟩ (.string (⟨#[98, 102, 115]⟩ : ByteArray))).setCell ⟨gb257, 1, none⟩ (.int .i64 a1)).setCell ⟨gb257, 2, none⟩ (.int .i64 20)) = w22 at n0_ n1_ n2_ ⊢
    have BK254 := n0_
    have BK257 := n1_
    have HB := n2_
    clear n0_ n1_ n2_
    have n0_ := Aside0.mk (blk_drew BK254.out)
    have n1_ := Aside0.mk (blk_drew BK257.out)
    have n2_ := Aside0.mk (below_drew1 HB.out)
    clear BK254
    clear BK257
    clear HB
    have BK254 := n0_
    have BK257 := n1_
    have HB := n2_
    clear n0_ n1_ n2_
    refine start_ (n := 11) (S := fun w' => w'.cell? ⟨gb254, 0, none⟩ = some (.int .i64 a0_0) ∧ w'.cell? ⟨gb254, 1, none⟩ = some (.slice A0_1 l0_1.length c0_1) ∧ w'.cell? ⟨gb257, 0, none⟩ = some (.string (⟨#[98, 102, 115]⟩ : ByteArray)) ∧ w'.cell? ⟨gb257, 1, none⟩ = some (.int .i64 a1) ∧ w'.cell? ⟨gb257, 2, none⟩ = some (.int .i64 20)) (ds := []) #[Z,Z,Z,Z,Z,Z,Z,Z,Z,Z,Z] (by kernel_rfl) rfl rfl ⟨(blk_cell BK254.out 0).trans rfl, (blk_cell BK254.out 1).trans rfl, (blk_cell BK257.out 0).trans rfl, (blk_cell BK257.out 1).trans rfl, (blk_cell BK257.out 2).trans rfl⟩ (fun hHeld => ?_); refine with_tabW modillionlaw09_SeqReaches.tab4 modillionlaw09_SeqReaches.bits4 (fun HT_ HW_ => ?_)
    generalize w22.drew = w23 at BK254 BK257 HB hHeld ⊢
    refine take_ (i := 0) (N := some 32) (v := ?_) (a' := ?_) #[Y,Z,Z,Z,Z,Z,Z,Z,Z,Z,Z] rfl rfl (take_ofW HT_.out HW_.out (by kernel_rfl)) (fun _ _ _ h => h) (Or.inl ⟨by rfl, ?_⟩) hHeld ?_ ?_
    rotate_left
    ·rintro w' ⟨s0, s1, s2, s3, s4⟩;go_simp;with_reducible rfl
    rotate_left
    ·simp only [Act.put, q1_, q2_, q3_, i64_w, i32_w];rfl
    refine take_ (i := 2) (N := some 34) (v := ?_) (a' := ?_) #[Y,Z,Y,Z,Z,Z,Z,Z,Z,Z,Z] rfl rfl (take_ofW HT_.out HW_.out (by kernel_rfl)) (fun _ _ _ h => h) (Or.inl ⟨by rfl, ?_⟩) hHeld ?_ ?_
    rotate_left
    ·rintro w' ⟨s0, s1, s2, s3, s4⟩;go_simp;with_reducible rfl
    rotate_left
    ·simp only [Act.put, q1_, q2_, q3_, i64_w, i32_w];rfl
    refine one_ (i := 1) (N := some 33) #[Y,Y,Y,Z,Z,Z,Z,Z,Z,Z,Z] rfl rfl (one_of HT_.out (by kernel_rfl)) (by decide) (fun K hK => ?_)
    refine goes_ Try.func13 (by kernel_rfl) rfl #[.agg #[.int .i64 a0_0, .slice A0_1 l0_1.length c0_1]] (by rfl) rfl rfl (by (try simp only [List.map_toArray, List.map_cons, List.map_nil]); first | done | rfl | (simp only [List.length_drop, List.length_take]; rfl)) ?_
    with_reducible refine (modillionlaw09_Own.calls a0_0 _ _ l0_1 t258 t259 _ ?side1 ?side2 A16.out).mono ?_
    (case side1 => repeat (first | exact (Kd.C_below HR0_1.out HB.out) | (with_reducible refine Kd.C_alloc ?_ _) | (with_reducible refine Kd.C_drewN ?_ _) | (with_reducible refine Kd.C_drew ?_)))
    (case side2 => exact HC0_1.out)
    rintro e w24 ⟨v260, rfl, ho0, hb⟩
    refine ⟨_, rfl, ?_⟩
    have n0_ := Aside0.mk (Kd.R_lower ho0 (below_size (by repeat (first | (with_reducible first | exact HB.out | apply below_alloc | apply pw_below_drewN | apply below_drew1 | refine below_set ?_ GE254.out | refine below_set ?_ GE257.out) | exact HB.out))))
    have n1_ := Aside0.mk (blk_below (g := gb254) (o := .cells #[.int .i64 a0_0, .slice A0_1 l0_1.length c0_1] 24 (0, 0)) (by (with_reducible repeat (first | refine blk_drewN ?_ _ | refine blk_drew ?_ | refine blk_alloc ?_ _)); exact BK254.out) hb)
    have n2_ := Aside0.mk (blk_below (g := gb257) (o := .cells #[.string (⟨#[98, 102, 115]⟩ : ByteArray), .int .i64 a1, .int .i64 20] 26 (0, 0)) (by (with_reducible repeat (first | refine blk_drewN ?_ _ | refine blk_drew ?_ | refine blk_alloc ?_ _)); exact BK257.out) hb)
    have n3_ := Aside0.mk (below_step (by repeat (first | (with_reducible first | exact HB.out | apply below_alloc | apply pw_below_drewN | apply below_drew1 | refine below_set ?_ GE254.out | refine below_set ?_ GE257.out) | exact HB.out)) hb)
    clear BK254
    clear BK257
    clear HB
    have HO261 := n0_
    have BK254 := n1_
    have BK257 := n2_
    have HB := n3_
    clear n0_ n1_ n2_ n3_
    (try clear hb)
    (try clear hb2)
    (try clear hk)
    (try clear hi)
    (try clear ho0)
    obtain ⟨Ao25, co25, eo25⟩ := Kd.R_slice HO261.out
    (first | subst eo25 | (injection eo25 with f1_ f2_ f3_; have f4_ := f1_.symm; have f5_ := f3_.symm; clear f1_ f2_ f3_; subst f4_; subst f5_))
    refine hK.out _ _ ⟨(blk_cell BK254.out 0).trans rfl, (blk_cell BK254.out 1).trans rfl, (blk_cell BK257.out 0).trans rfl, (blk_cell BK257.out 1).trans rfl, (blk_cell BK257.out 2).trans rfl⟩ (fun hHeld => ?_)
    clear hK K
    refine norm_ (a' := ?_) ?_ ?_
    rotate_left
    ·show Act.put _ (some 33) _ = _
     simp only [Act.put, q1_, q2_, q3_, i64_w, i32_w]
     rfl
    refine one_ (i := 3) (N := some 35) #[Y,Y,Y,Y,Z,Z,Z,Z,Z,Z,Z] rfl rfl (one_of HT_.out (by kernel_rfl)) (by decide) (fun K hK => ?_)
    refine goes_ Try.func14 (by kernel_rfl) rfl #[.agg #[.int .i64 t258, .slice Ao25 t259.length co25], .agg #[.string (⟨#[98, 102, 115]⟩ : ByteArray), .int .i64 a1, .int .i64 20]] (by rfl) rfl rfl (by (try simp only [List.map_toArray, List.map_cons, List.map_nil]); first | done | rfl | (simp only [List.length_drop, List.length_take]; rfl)) ?_
    with_reducible refine (seq_Run.calls kj2 t258 _ _ t259 (⟨#[98, 102, 115]⟩ : ByteArray) a1 20 t262 t265 t266 _ ?side1 ?side2 A17.out).mono ?_
    (case side1 => repeat (first | exact (Kd.R_reads' HO261.out).2.2 | (with_reducible refine Kd.C_alloc ?_ _) | (with_reducible refine Kd.C_drewN ?_ _) | (with_reducible refine Kd.C_drew ?_)))
    (case side2 => exact (Kd.R_reads' HO261.out).2.1)
    rintro e w26 ⟨v263, rfl, ho0, hb⟩
    refine ⟨_, rfl, ?_⟩
    have n0_ := Aside0.mk (Kd.R_below (by (with_reducible repeat (first | apply Kd.R_alloc | apply Kd.R_drewN | apply Kd.R_drew)); exact HO261.out) hb)
    have n1_ := Aside0.mk (Kd.R_lower ho0 (below_size (by repeat (first | (with_reducible first | exact HB.out | apply below_alloc | apply pw_below_drewN | apply below_drew1 | refine below_set ?_ GE254.out | refine below_set ?_ GE257.out) | exact HB.out))))
    have n2_ := Aside0.mk (blk_below (g := gb254) (o := .cells #[.int .i64 a0_0, .slice A0_1 l0_1.length c0_1] 24 (0, 0)) (by (with_reducible repeat (first | refine blk_drewN ?_ _ | refine blk_drew ?_ | refine blk_alloc ?_ _)); exact BK254.out) hb)
    have n3_ := Aside0.mk (blk_below (g := gb257) (o := .cells #[.string (⟨#[98, 102, 115]⟩ : ByteArray), .int .i64 a1, .int .i64 20] 26 (0, 0)) (by (with_reducible repeat (first | refine blk_drewN ?_ _ | refine blk_drew ?_ | refine blk_alloc ?_ _)); exact BK257.out) hb)
    have n4_ := Aside0.mk (below_step (by repeat (first | (with_reducible first | exact HB.out | apply below_alloc | apply pw_below_drewN | apply below_drew1 | refine below_set ?_ GE254.out | refine below_set ?_ GE257.out) | exact HB.out)) hb)
    clear HO261
    clear BK254
    clear BK257
    clear HB
    have HO261 := n0_
    have HO264 := n1_
    have BK254 := n2_
    have BK257 := n3_
    have HB := n4_
    clear n0_ n1_ n2_ n3_ n4_
    (try clear hb)
    (try clear hb2)
    (try clear hk)
    (try clear hi)
    (try clear ho0)
    refine hK.out _ _ ⟨(blk_cell BK254.out 0).trans rfl, (blk_cell BK254.out 1).trans rfl, (blk_cell BK257.out 0).trans rfl, (blk_cell BK257.out 1).trans rfl, (blk_cell BK257.out 2).trans rfl⟩ (fun hHeld => ?_)
    clear hK K
    refine norm_ (a' := ?_) ?_ ?_
    rotate_left
    ·show Act.put _ (some 35) _ = _
     simp only [Act.put, q1_, q2_, q3_, i64_w, i32_w]
     rfl
    refine pure_ (i := 4) (N := some 31) (v := ?_) (a' := ?_) #[Y,Y,Y,Y,Y,Z,Z,Z,Z,Z,Z] rfl rfl (any_of HT_.out (by kernel_rfl)) (fun _ _ _ h => h) (Or.inl ⟨by rfl, ?_⟩) ?_ ?_
    rotate_left
    ·intro w';go_simp;with_reducible rfl
    rotate_left
    ·simp only [Act.put, q1_, q2_, q3_, i64_w, i32_w];rfl
    refine pure_ (i := 5) (N := some 36) (v := ?_) (a' := ?_) #[Y,Y,Y,Y,Y,Y,Z,Z,Z,Z,Z] rfl rfl (any_of HT_.out (by kernel_rfl)) (fun _ _ _ h => h) (Or.inl ⟨by rfl, ?_⟩) ?_ ?_
    rotate_left
    ·intro w';go_simp;with_reducible rfl
    rotate_left
    ·simp only [Act.put, q1_, q2_, q3_, i64_w, i32_w];rfl
    refine pure_ (i := 6) (N := some 37) (v := ?_) (a' := ?_) #[Y,Y,Y,Y,Y,Y,Y,Z,Z,Z,Z] rfl rfl (any_of HT_.out (by kernel_rfl)) (fun _ _ _ h => h) (Or.inl ⟨by rfl, ?_⟩) ?_ ?_
    rotate_left
    ·intro w';go_simp;with_reducible rfl
    rotate_left
    ·simp only [Act.put, q1_, q2_, q3_, i64_w, i32_w];rfl
    refine pure_ (i := 7) (N := some 38) (v := ?_) (a' := ?_) #[Y,Y,Y,Y,Y,Y,Y,Y,Z,Z,Z] rfl rfl (any_of HT_.out (by kernel_rfl)) (fun _ _ _ h => h) (Or.inl ⟨by rfl, ?_⟩) ?_ ?_
    rotate_left
    ·intro w';go_simp;with_reducible rfl
    rotate_left
    ·simp only [Act.put, q1_, q2_, q3_, i64_w, i32_w];rfl
    refine pure_ (i := 8) (N := some 6) (v := ?_) (a' := ?_) #[Y,Y,Y,Y,Y,Y,Y,Y,Y,Z,Z] rfl rfl (any_of HT_.out (by kernel_rfl)) (fun _ _ _ h => h) (Or.inl ⟨by rfl, ?_⟩) ?_ ?_
    rotate_left
    ·intro w';go_simp;with_reducible rfl
    rotate_left
    ·simp only [Act.put, q1_, q2_, q3_, i64_w, i32_w];rfl
    refine pure_ (i := 9) (N := some 7) (v := ?_) (a' := ?_) #[Y,Y,Y,Y,Y,Y,Y,Y,Y,Y,Z] rfl rfl (any_of HT_.out (by kernel_rfl)) (fun _ _ _ h => h) (Or.inl ⟨by rfl, ?_⟩) ?_ ?_
    rotate_left
    ·intro w';go_simp;with_reducible rfl
    rotate_left
    ·simp only [Act.put, q1_, q2_, q3_, i64_w, i32_w];rfl
    refine pure_ (i := 10) (N := some 8) (v := ?_) (a' := ?_) #[Y,Y,Y,Y,Y,Y,Y,Y,Y,Y,Y] rfl rfl (any_of HT_.out (by kernel_rfl)) (fun _ _ _ h => h) (Or.inl ⟨by rfl, ?_⟩) ?_ ?_
    rotate_left
    ·intro w';go_simp;with_reducible rfl
    rotate_left
    ·simp only [Act.put, q1_, q2_, q3_, i64_w, i32_w];rfl
    refine done_ (done_of HT_.out (by kernel_rfl)) ?_
    have H := HH_.out
    clear HH_
    by_cases c18 : t266 = 0
    ·rw [if_pos c18] at H
     have c18b0 : (t266 == 0) = true := beq_iff_eq.mpr c18
     have c18b1 : (t266 != 0) = false := bne_eq_false_iff_eq.mpr c18
     clear c18
     (first | rw [c18b0] | simp only [c18b0] | skip)
     have H' := Aside0.mk H
     clear H
     try go_wp2
     go_loopg [9] kj2 (fun kq v9 w' => ∃ (x9_2 : Int), v9 = .int .i64 x9_2 ∧ Aside0 (modillionlaw09_SeqReaches.l0 kq a1 t262 x9_2 a0_0 l0_1 = some r) ∧ Aside0 (kq ≤ kj2) ∧ Aside0 (Kd.R (Kd.int .i64) 2 w' w.heap.size (fun _ => True) v263 t262) ∧ Aside0 (w'.heap[gb254]? = some (.cells #[.int .i64 a0_0, (.slice A0_1 l0_1.length c0_1)] 24 (0, 0))) ∧ Aside0 (w'.heap[gb257]? = some (.cells #[.string (⟨#[98, 102, 115]⟩ : ByteArray), .int .i64 a1, .int .i64 20] 26 (0, 0))) ∧ Aside0 (Below w.heap.size w w'))
     case atStart => exact ⟨(0), (by first | rfl | (simp; done) | (simp [*]; done)), H', ⟨Nat.le_refl _⟩, ⟨by (with_reducible repeat (first | apply Kd.R_alloc | apply Kd.R_drewN | apply Kd.R_drew)); exact HO264.out⟩, ⟨by (with_reducible repeat (first | refine blk_drewN ?_ _ | refine blk_drew ?_ | refine blk_alloc ?_ _)); exact BK254.out⟩, ⟨by (with_reducible repeat (first | refine blk_drewN ?_ _ | refine blk_drew ?_ | refine blk_alloc ?_ _)); exact BK257.out⟩, ⟨by repeat (first | (with_reducible first | exact HB.out | apply below_alloc | apply pw_below_drewN | apply below_drew1 | refine below_set ?_ GE254.out | refine below_set ?_ GE257.out) | exact HB.out)⟩⟩
     case round =>
      clear H'
      try clear c1
      try clear c2
      try clear p2
      try clear c5
      try clear c6
      try clear c7
      try clear c7b0
      try clear c7b1
      try clear c11
      try clear c13
      try clear c14
      try clear c18
      try clear c18b0
      try clear c18b1
      try clear c20
      try clear hcz11_0
      try clear hcz11_1
      try clear hcz21_0
      try clear hcz21_1
      try clear hcz21_2
      try clear hcz9_0
      try clear hcz9_1
      try clear hfz11_0
      try clear hfz11_1
      try clear hfz21_0
      try clear hfz21_1
      try clear hfz21_2
      try clear hfz9_0
      try clear hfz9_1
      try clear p2
      obtain ⟨x9_2, rfl, HA, HK2, HO_6, BK254, BK257, HB⟩ := hrel
      cases gk with
      | zero => exact absurd HA.out (by simp [modillionlaw09_SeqReaches.l0])
      | succ k2 =>
       have H := HA.out
       clear HA
       simp only [modillionlaw09_SeqReaches.l0] at H
       by_cases c27 : x9_2 < (l0_1.length : Int)
       ·rw [if_pos c27] at H
        have c27b0 := decide_eq_true c27
        clear c27
        obtain ⟨c28, H⟩ := iteS13 H
        have c28b0 := decide_eq_true c28
        clear c28
        obtain ⟨c29, H⟩ := iteS13 H
        have c29b0 := decide_eq_true c29
        clear c29
        obtain ⟨c30, H⟩ := iteS13 H
        have c30b0 := decide_eq_true c30
        clear c30
        obtain ⟨c31, H⟩ := iteS13 H
        have c31b0 := decide_eq_true c31
        clear c31
        obtain ⟨c32, H⟩ := iteS13 H
        have c32b0 := decide_eq_true c32
        clear c32
        have HH_ := Aside0.mk H
        clear H
        have hnb35 := NB254_257.out
        have hnc35 := NB257_254.out
        have hcz36_0 : wr.cell? ⟨gb254, 0, none⟩ = some (.int .i64 a0_0) := (blk_cell BK254.out 0).trans rfl
        have hcz36_1 : wr.cell? ⟨gb254, 1, none⟩ = some (.slice A0_1 l0_1.length c0_1) := (blk_cell BK254.out 1).trans rfl
        have hfz36_0 := blk_frozen BK254.out 0
        have hfz36_1 := blk_frozen BK254.out 1
        try go_wp2
        have n0_ := Aside0.mk (Kd.R_drew HO_6.out)
        have n1_ := Aside0.mk (blk_drew BK254.out)
        have n2_ := Aside0.mk (blk_drew BK257.out)
        have n3_ := Aside0.mk (below_drew1 HB.out)
        clear HO_6
        clear BK254
        clear BK257
        clear HB
        have HO_6 := n0_
        have BK254 := n1_
        have BK257 := n2_
        have HB := n3_
        clear n0_ n1_ n2_ n3_
        have p267 : 0 ≤ (x9_2 : Int) := of_decide_eq_true (by first | (with_reducible assumption) | assumption)
        have q267 : x9_2 < (l0_1.length : Int) := of_decide_eq_true (by first | (with_reducible assumption) | assumption)
        obtain ⟨ad267, e267, hx267_0, hx267_1, hx267_2⟩ := at_T45 HR0_1.out x9_2 p267 q267
        have hw267_2 := hx267_2
        have hw267_1 := hx267_1
        have hw267_0 := hx267_0
        cases e267
        replace hx267_0 := (HB.out.cell (World.block_lt_of_cell? w _ hx267_0)).trans hx267_0
        replace hx267_1 := (HB.out.cell (World.block_lt_of_cell? w _ hx267_1)).trans hx267_1
        replace hx267_2 := (HB.out.cell (World.block_lt_of_cell? w _ hx267_2)).trans hx267_2
        replace p267 := eq_true p267
        replace q267 := eq_true q267
        obtain ⟨Ao38, co38, eo38⟩ := Kd.R_slice HO_6.out
        (first | subst eo38 | (injection eo38 with f1_ f2_ f3_; have f4_ := f1_.symm; have f5_ := f3_.symm; clear f1_ f2_ f3_; subst f4_; subst f5_))
        have p268 : 0 ≤ (((rd_T45 l0_1 x9_2).f0) : Int) := of_decide_eq_true (by first | (with_reducible assumption) | assumption)
        have q268 : ((rd_T45 l0_1 x9_2).f0) < (t262.length : Int) := of_decide_eq_true (by first | (with_reducible assumption) | assumption)
        obtain ⟨ad268, e268, hx268_0⟩ := Kd.at_int (Kd.R_reads' HO_6.out).2.2 ((rd_T45 l0_1 x9_2).f0) p268 q268
        cases e268
        replace p268 := eq_true p268
        replace q268 := eq_true q268
        have p269 : 0 ≤ (x9_2 : Int) := of_decide_eq_true (by first | (with_reducible assumption) | assumption)
        have q269 : x9_2 < (l0_1.length : Int) := of_decide_eq_true (by first | (with_reducible assumption) | assumption)
        obtain ⟨ad269, e269, hx269_0, hx269_1, hx269_2⟩ := at_T45 HR0_1.out x9_2 p269 q269
        have hw269_2 := hx269_2
        have hw269_1 := hx269_1
        have hw269_0 := hx269_0
        obtain rfl : ad267 = ad269 := (by injection e269)
        replace hx269_0 := (HB.out.cell (World.block_lt_of_cell? w _ hx269_0)).trans hx269_0
        replace hx269_1 := (HB.out.cell (World.block_lt_of_cell? w _ hx269_1)).trans hx269_1
        replace hx269_2 := (HB.out.cell (World.block_lt_of_cell? w _ hx269_2)).trans hx269_2
        replace p269 := eq_true p269
        replace q269 := eq_true q269
        have p270 : 0 ≤ (((rd_T45 l0_1 x9_2).f1) : Int) := of_decide_eq_true (by first | (with_reducible assumption) | assumption)
        have q270 : ((rd_T45 l0_1 x9_2).f1) < (t262.length : Int) := of_decide_eq_true (by first | (with_reducible assumption) | assumption)
        obtain ⟨ad270, e270, hx270_0⟩ := Kd.at_int (Kd.R_reads' HO_6.out).2.2 ((rd_T45 l0_1 x9_2).f1) p270 q270
        obtain rfl : ad268 = ad270 := (by injection e270)
        replace p270 := eq_true p270
        replace q270 := eq_true q270
        refine start_ (n := 20) (S := fun w' => w'.cell? ⟨gb254, 0, none⟩ = some (.int .i64 a0_0) ∧ w'.cell? ⟨gb254, 1, none⟩ = some (.slice (some ad267) l0_1.length c0_1) ∧ w'.cell? (ad267.add ((x9_2).toNat * 3)) = some (.int .i64 ((rd_T45 l0_1 x9_2).f0)) ∧ w'.cell? ⟨(ad267.add ((x9_2).toNat * 3)).block, (ad267.add ((x9_2).toNat * 3)).off + 1, none⟩ = some (.int .i64 ((rd_T45 l0_1 x9_2).f1)) ∧ w'.cell? ⟨(ad267.add ((x9_2).toNat * 3)).block, (ad267.add ((x9_2).toNat * 3)).off + 2, none⟩ = some (.int .i64 ((rd_T45 l0_1 x9_2).f2)) ∧ w'.cell? (ad268.add (((rd_T45 l0_1 x9_2).f0)).toNat) = some (.int .i64 (rd t262 ((rd_T45 l0_1 x9_2).f0))) ∧ w'.cell? (ad267.add ((x9_2).toNat * 3)) = some (.int .i64 ((rd_T45 l0_1 x9_2).f0)) ∧ w'.cell? ⟨(ad267.add ((x9_2).toNat * 3)).block, (ad267.add ((x9_2).toNat * 3)).off + 1, none⟩ = some (.int .i64 ((rd_T45 l0_1 x9_2).f1)) ∧ w'.cell? ⟨(ad267.add ((x9_2).toNat * 3)).block, (ad267.add ((x9_2).toNat * 3)).off + 2, none⟩ = some (.int .i64 ((rd_T45 l0_1 x9_2).f2)) ∧ w'.cell? (ad268.add (((rd_T45 l0_1 x9_2).f1)).toNat) = some (.int .i64 (rd t262 ((rd_T45 l0_1 x9_2).f1)))) (ds := []) #[Z,Z,Z,Z,Z,Z,Z,Z,Z,Z,Z,Z,Z,Z,Z,Z,Z,Z,Z,Z] (by kernel_rfl) rfl rfl ⟨(blk_cell BK254.out 0).trans rfl, (blk_cell BK254.out 1).trans rfl, ((HB.out.cell (World.block_lt_of_cell? w _ hw267_0)).trans hw267_0), ((HB.out.cell (World.block_lt_of_cell? w _ hw267_1)).trans hw267_1), ((HB.out.cell (World.block_lt_of_cell? w _ hw267_2)).trans hw267_2), hx268_0, ((HB.out.cell (World.block_lt_of_cell? w _ hw269_0)).trans hw269_0), ((HB.out.cell (World.block_lt_of_cell? w _ hw269_1)).trans hw269_1), ((HB.out.cell (World.block_lt_of_cell? w _ hw269_2)).trans hw269_2), hx270_0⟩ (fun hHeld => ?_); refine with_tabW modillionlaw09_SeqReaches.tab10 modillionlaw09_SeqReaches.bits10 (fun HT_ HW_ => ?_)
        generalize wr.drew = w37 at HO_6 BK254 BK257 HB hx267_0 hx267_1 hx267_2 hx268_0 hx269_0 hx269_1 hx269_2 hx270_0 hHeld ⊢
        refine pure_ (i := 0) (N := some 51) (v := ?_) (a' := ?_) #[Y,Z,Z,Z,Z,Z,Z,Z,Z,Z,Z,Z,Z,Z,Z,Z,Z,Z,Z,Z] rfl rfl (any_of HT_.out (by kernel_rfl)) (fun _ _ _ h => h) (Or.inl ⟨by rfl, ?_⟩) ?_ ?_
        rotate_left
        ·intro w';go_simp;with_reducible rfl
        rotate_left
        ·simp only [Act.put, q1_, q2_, q3_, i64_w, i32_w];rfl
        refine pure_ (i := 1) (N := some 52) (v := ?_) (a' := ?_) #[Y,Y,Z,Z,Z,Z,Z,Z,Z,Z,Z,Z,Z,Z,Z,Z,Z,Z,Z,Z] rfl rfl (any_of HT_.out (by kernel_rfl)) (fun _ _ _ h => h) (Or.inl ⟨by rfl, ?_⟩) ?_ ?_
        rotate_left
        ·intro w';go_simp;with_reducible rfl
        rotate_left
        ·simp only [Act.put, q1_, q2_, q3_, i64_w, i32_w];rfl
        refine pure_ (i := 3) (N := some 54) (v := ?_) (a' := ?_) #[Y,Y,Z,Y,Z,Z,Z,Z,Z,Z,Z,Z,Z,Z,Z,Z,Z,Z,Z,Z] rfl rfl (any_of HT_.out (by kernel_rfl)) (fun _ _ _ h => h) (Or.inl ⟨by rfl, ?_⟩) ?_ ?_
        rotate_left
        ·intro w';go_simp;with_reducible rfl
        rotate_left
        ·simp only [Act.put, q1_, q2_, q3_, i64_w, i32_w];rfl
        refine pure_ (i := 9) (N := some 60) (v := ?_) (a' := ?_) #[Y,Y,Z,Y,Z,Z,Z,Z,Z,Y,Z,Z,Z,Z,Z,Z,Z,Z,Z,Z] rfl rfl (any_of HT_.out (by kernel_rfl)) (fun _ _ _ h => h) (Or.inl ⟨by rfl, ?_⟩) ?_ ?_
        rotate_left
        ·intro w';go_simp;with_reducible rfl
        rotate_left
        ·simp only [Act.put, q1_, q2_, q3_, i64_w, i32_w];rfl
        refine pure_ (i := 10) (N := some 61) (v := ?_) (a' := ?_) #[Y,Y,Z,Y,Z,Z,Z,Z,Z,Y,Y,Z,Z,Z,Z,Z,Z,Z,Z,Z] rfl rfl (any_of HT_.out (by kernel_rfl)) (fun _ _ _ h => h) (Or.inl ⟨by rfl, ?_⟩) ?_ ?_
        rotate_left
        ·intro w';go_simp;with_reducible rfl
        rotate_left
        ·simp only [Act.put, q1_, q2_, q3_, i64_w, i32_w];rfl
        refine pure_ (i := 12) (N := some 63) (v := ?_) (a' := ?_) #[Y,Y,Z,Y,Z,Z,Z,Z,Z,Y,Y,Z,Y,Z,Z,Z,Z,Z,Z,Z] rfl rfl (any_of HT_.out (by kernel_rfl)) (fun _ _ _ h => h) (Or.inl ⟨by rfl, ?_⟩) ?_ ?_
        rotate_left
        ·intro w';go_simp;with_reducible rfl
        rotate_left
        ·simp only [Act.put, q1_, q2_, q3_, i64_w, i32_w];rfl
        refine take_ (i := 2) (N := some 53) (v := ?_) (a' := ?_) #[Y,Y,Y,Y,Z,Z,Z,Z,Z,Y,Y,Z,Y,Z,Z,Z,Z,Z,Z,Z] rfl rfl (take_ofW HT_.out HW_.out (by kernel_rfl)) (fun _ _ _ h => h) (Or.inl ⟨by rfl, ?_⟩) hHeld ?_ ?_
        rotate_left
        ·rintro w' ⟨s0, s1, s2, s3, s4, s5, s6, s7, s8, s9⟩;go_simp;with_reducible rfl
        rotate_left
        ·simp only [Act.put, q1_, q2_, q3_, i64_w, i32_w];rfl
        refine pure_ (i := 4) (N := some 55) (v := ?_) (a' := ?_) #[Y,Y,Y,Y,Y,Z,Z,Z,Z,Y,Y,Z,Y,Z,Z,Z,Z,Z,Z,Z] rfl rfl (any_of HT_.out (by kernel_rfl)) (fun _ _ _ h => h) (Or.inl ⟨by rfl, ?_⟩) ?_ ?_
        rotate_left
        ·intro w';go_simp;with_reducible rfl
        rotate_left
        ·simp only [Act.put, q1_, q2_, q3_, i64_w, i32_w];rfl
        refine pure_ (i := 5) (N := some 56) (v := ?_) (a' := ?_) #[Y,Y,Y,Y,Y,Y,Z,Z,Z,Y,Y,Z,Y,Z,Z,Z,Z,Z,Z,Z] rfl rfl (any_of HT_.out (by kernel_rfl)) (fun _ _ _ h => h) (Or.inl ⟨by rfl, ?_⟩) ?_ ?_
        rotate_left
        ·intro w';go_simp;with_reducible rfl
        rotate_left
        ·simp only [Act.put, q1_, q2_, q3_, i64_w, i32_w];rfl
        refine take_ (i := 6) (N := some 57) (v := ?_) (a' := ?_) #[Y,Y,Y,Y,Y,Y,Y,Z,Z,Y,Y,Z,Y,Z,Z,Z,Z,Z,Z,Z] rfl rfl (take_ofW HT_.out HW_.out (by kernel_rfl)) (fun _ _ _ h => h) (Or.inl ⟨by rfl, ?_⟩) hHeld ?_ ?_
        rotate_left
        ·rintro w' ⟨s0, s1, s2, s3, s4, s5, s6, s7, s8, s9⟩;go_simp;with_reducible rfl
        rotate_left
        ·simp only [Act.put, q1_, q2_, q3_, i64_w, i32_w];rfl
        refine pure_ (i := 7) (N := some 58) (v := ?_) (a' := ?_) #[Y,Y,Y,Y,Y,Y,Y,Y,Z,Y,Y,Z,Y,Z,Z,Z,Z,Z,Z,Z] rfl rfl (any_of HT_.out (by kernel_rfl)) (fun _ _ _ h => h) (Or.inl ⟨by rfl, ?_⟩) ?_ ?_
        rotate_left
        ·intro w';go_simp;with_reducible rfl
        rotate_left
        ·simp only [Act.put, q1_, q2_, q3_, i64_w, i32_w];rfl
        refine take_ (i := 8) (N := some 59) (v := ?_) (a' := ?_) #[Y,Y,Y,Y,Y,Y,Y,Y,Y,Y,Y,Z,Y,Z,Z,Z,Z,Z,Z,Z] rfl rfl (take_ofW HT_.out HW_.out (by kernel_rfl)) (fun _ _ _ h => h) (Or.inl ⟨by rfl, ?_⟩) hHeld ?_ ?_
        rotate_left
        ·rintro w' ⟨s0, s1, s2, s3, s4, s5, s6, s7, s8, s9⟩;go_simp;with_reducible rfl
        rotate_left
        ·simp only [Act.put, q1_, q2_, q3_, i64_w, i32_w];rfl
        refine pure_ (i := 18) (N := some 10) (v := ?_) (a' := ?_) #[Y,Y,Y,Y,Y,Y,Y,Y,Y,Y,Y,Z,Y,Z,Z,Z,Z,Z,Y,Z] rfl rfl (any_of HT_.out (by kernel_rfl)) (fun _ _ _ h => h) (Or.inl ⟨by rfl, ?_⟩) ?_ ?_
        rotate_left
        ·intro w';go_simp;with_reducible rfl
        rotate_left
        ·simp only [Act.put, q1_, q2_, q3_, i64_w, i32_w];rfl
        refine take_ (i := 11) (N := some 62) (v := ?_) (a' := ?_) #[Y,Y,Y,Y,Y,Y,Y,Y,Y,Y,Y,Y,Y,Z,Z,Z,Z,Z,Y,Z] rfl rfl (take_ofW HT_.out HW_.out (by kernel_rfl)) (fun _ _ _ h => h) (Or.inl ⟨by rfl, ?_⟩) hHeld ?_ ?_
        rotate_left
        ·rintro w' ⟨s0, s1, s2, s3, s4, s5, s6, s7, s8, s9⟩;go_simp;with_reducible rfl
        rotate_left
        ·simp only [Act.put, q1_, q2_, q3_, i64_w, i32_w];rfl
        refine pure_ (i := 13) (N := some 64) (v := ?_) (a' := ?_) #[Y,Y,Y,Y,Y,Y,Y,Y,Y,Y,Y,Y,Y,Y,Z,Z,Z,Z,Y,Z] rfl rfl (any_of HT_.out (by kernel_rfl)) (fun _ _ _ h => h) (Or.inl ⟨by rfl, ?_⟩) ?_ ?_
        rotate_left
        ·intro w';go_simp;with_reducible rfl
        rotate_left
        ·simp only [Act.put, q1_, q2_, q3_, i64_w, i32_w];rfl
        refine pure_ (i := 14) (N := some 65) (v := ?_) (a' := ?_) #[Y,Y,Y,Y,Y,Y,Y,Y,Y,Y,Y,Y,Y,Y,Y,Z,Z,Z,Y,Z] rfl rfl (any_of HT_.out (by kernel_rfl)) (fun _ _ _ h => h) (Or.inl ⟨by rfl, ?_⟩) ?_ ?_
        rotate_left
        ·intro w';go_simp;with_reducible rfl
        rotate_left
        ·simp only [Act.put, q1_, q2_, q3_, i64_w, i32_w];rfl
        refine take_ (i := 15) (N := some 66) (v := ?_) (a' := ?_) #[Y,Y,Y,Y,Y,Y,Y,Y,Y,Y,Y,Y,Y,Y,Y,Y,Z,Z,Y,Z] rfl rfl (take_ofW HT_.out HW_.out (by kernel_rfl)) (fun _ _ _ h => h) (Or.inl ⟨by rfl, ?_⟩) hHeld ?_ ?_
        rotate_left
        ·rintro w' ⟨s0, s1, s2, s3, s4, s5, s6, s7, s8, s9⟩;go_simp;with_reducible rfl
        rotate_left
        ·simp only [Act.put, q1_, q2_, q3_, i64_w, i32_w];rfl
        refine pure_ (i := 16) (N := some 67) (v := ?_) (a' := ?_) #[Y,Y,Y,Y,Y,Y,Y,Y,Y,Y,Y,Y,Y,Y,Y,Y,Y,Z,Y,Z] rfl rfl (any_of HT_.out (by kernel_rfl)) (fun _ _ _ h => h) (Or.inl ⟨by rfl, ?_⟩) ?_ ?_
        rotate_left
        ·intro w';go_simp;with_reducible rfl
        rotate_left
        ·simp only [Act.put, q1_, q2_, q3_, i64_w, i32_w];rfl
        refine take_ (i := 17) (N := some 68) (v := ?_) (a' := ?_) #[Y,Y,Y,Y,Y,Y,Y,Y,Y,Y,Y,Y,Y,Y,Y,Y,Y,Y,Y,Z] rfl rfl (take_ofW HT_.out HW_.out (by kernel_rfl)) (fun _ _ _ h => h) (Or.inl ⟨by rfl, ?_⟩) hHeld ?_ ?_
        rotate_left
        ·rintro w' ⟨s0, s1, s2, s3, s4, s5, s6, s7, s8, s9⟩;go_simp;with_reducible rfl
        rotate_left
        ·simp only [Act.put, q1_, q2_, q3_, i64_w, i32_w];rfl
        refine pure_ (i := 19) (N := some 11) (v := ?_) (a' := ?_) #[Y,Y,Y,Y,Y,Y,Y,Y,Y,Y,Y,Y,Y,Y,Y,Y,Y,Y,Y,Y] rfl rfl (any_of HT_.out (by kernel_rfl)) (fun _ _ _ h => h) (Or.inl ⟨by rfl, ?_⟩) ?_ ?_
        rotate_left
        ·intro w';go_simp;with_reducible rfl
        rotate_left
        ·simp only [Act.put, q1_, q2_, q3_, i64_w, i32_w];rfl
        refine done_ (done_of HT_.out (by kernel_rfl)) ?_
        have H := HH_.out
        clear HH_
        by_cases c33 : (rd t262 ((rd_T45 l0_1 x9_2).f0)) ≥ 0
        ·rw [if_pos c33] at H
         have c33b0 : decide (0 ≤ (rd t262 ((rd_T45 l0_1 x9_2).f0))) = true := decide_eq_true c33
         have c33g : decide ((rd t262 ((rd_T45 l0_1 x9_2).f0)) ≥ 0) = true := decide_eq_true c33
         clear c33
         (first | rw [c33b0] | rw [c33g] | skip)
         by_cases c34 : (rd t262 ((rd_T45 l0_1 x9_2).f1)) < 0
         ·rw [if_pos c34] at H
          have c34b0 := decide_eq_true c34
          clear c34
          (first | rw [c34b0] | simp only [c34b0] | skip)
          obtain rfl := Option.some.inj H
          try go_wp2
          go_ret
          exact ⟨by first | rfl | (simp [errW_none, errW_some] <;> rfl) | (simp [*, errW_none, errW_some] <;> rfl), by repeat (first | (with_reducible first | exact HB.out | apply below_alloc | apply pw_below_drewN | apply below_drew1 | refine below_set ?_ GE254.out | refine below_set ?_ GE257.out) | exact HB.out)⟩
         ·rw [if_neg c34] at H
          have c34b0 := decide_eq_false c34
          clear c34
          (first | rw [c34b0] | simp only [c34b0] | skip)
          by_cases c39 : (rd t262 ((rd_T45 l0_1 x9_2).f1)) > (wrap64 ((rd t262 ((rd_T45 l0_1 x9_2).f0)) + 1))
          ·rw [if_pos c39] at H
           have c39b0 : decide ((wrap64 ((rd t262 ((rd_T45 l0_1 x9_2).f0)) + 1)) < (rd t262 ((rd_T45 l0_1 x9_2).f1))) = true := decide_eq_true c39
           clear c39
           (first | rw [c39b0] | simp only [c39b0] | skip)
           obtain rfl := Option.some.inj H
           try go_wp2
           go_ret
           exact ⟨by first | rfl | (simp [errW_none, errW_some] <;> rfl) | (simp [*, errW_none, errW_some] <;> rfl), by repeat (first | (with_reducible first | exact HB.out | apply below_alloc | apply pw_below_drewN | apply below_drew1 | refine below_set ?_ GE254.out | refine below_set ?_ GE257.out) | exact HB.out)⟩
          ·rw [if_neg c39] at H
           have c39b0 : decide ((wrap64 ((rd t262 ((rd_T45 l0_1 x9_2).f0)) + 1)) < (rd t262 ((rd_T45 l0_1 x9_2).f1))) = false := decide_eq_false c39
           clear c39
           (first | rw [c39b0] | simp only [c39b0] | skip)
           have H' := Aside0.mk H
           clear H
           try go_wp2
           go_roundg k2
           case measure => have := HJ2.out; have := HK2.out; omega
           case rel => exact ⟨(wrap64 (x9_2 + 1)), (by first | rfl | (simp; done) | (simp [*]; done)), H', ⟨by have := HJ2.out; have := HK2.out; omega⟩, ⟨by (with_reducible repeat (first | apply Kd.R_alloc | apply Kd.R_drewN | apply Kd.R_drew)); exact HO_6.out⟩, ⟨by (with_reducible repeat (first | refine blk_drewN ?_ _ | refine blk_drew ?_ | refine blk_alloc ?_ _)); exact BK254.out⟩, ⟨by (with_reducible repeat (first | refine blk_drewN ?_ _ | refine blk_drew ?_ | refine blk_alloc ?_ _)); exact BK257.out⟩, ⟨by repeat (first | (with_reducible first | exact HB.out | apply below_alloc | apply pw_below_drewN | apply below_drew1 | refine below_set ?_ GE254.out | refine below_set ?_ GE257.out) | exact HB.out)⟩⟩
        ·rw [if_neg c33] at H
         have c33b0 : decide (0 ≤ (rd t262 ((rd_T45 l0_1 x9_2).f0))) = false := decide_eq_false c33
         have c33g : decide ((rd t262 ((rd_T45 l0_1 x9_2).f0)) ≥ 0) = false := decide_eq_false c33
         clear c33
         (first | rw [c33b0] | rw [c33g] | skip)
         have H' := Aside0.mk H
         clear H
         try go_wp2
         go_roundg k2
         case measure => have := HJ2.out; have := HK2.out; omega
         case rel => exact ⟨(wrap64 (x9_2 + 1)), (by first | rfl | (simp; done) | (simp [*]; done)), H', ⟨by have := HJ2.out; have := HK2.out; omega⟩, ⟨by (with_reducible repeat (first | apply Kd.R_alloc | apply Kd.R_drewN | apply Kd.R_drew)); exact HO_6.out⟩, ⟨by (with_reducible repeat (first | refine blk_drewN ?_ _ | refine blk_drew ?_ | refine blk_alloc ?_ _)); exact BK254.out⟩, ⟨by (with_reducible repeat (first | refine blk_drewN ?_ _ | refine blk_drew ?_ | refine blk_alloc ?_ _)); exact BK257.out⟩, ⟨by repeat (first | (with_reducible first | exact HB.out | apply below_alloc | apply pw_below_drewN | apply below_drew1 | refine below_set ?_ GE254.out | refine below_set ?_ GE257.out) | exact HB.out)⟩⟩
       ·rw [if_neg c27] at H
        have c27b0 := decide_eq_false c27
        clear c27
        have H' := Aside0.mk H
        clear H
        have hnb52 := NB254_257.out
        have hnc52 := NB257_254.out
        have hcz53_0 : wr.cell? ⟨gb254, 0, none⟩ = some (.int .i64 a0_0) := (blk_cell BK254.out 0).trans rfl
        have hcz53_1 : wr.cell? ⟨gb254, 1, none⟩ = some (.slice A0_1 l0_1.length c0_1) := (blk_cell BK254.out 1).trans rfl
        have hfz53_0 := blk_frozen BK254.out 0
        have hfz53_1 := blk_frozen BK254.out 1
        go_wp2
        go_loopg [12] k2 (fun kq v12 w' => ∃ (x12_3 : Int), v12 = .int .i64 x12_3 ∧ Aside0 (modillionlaw09_SeqReaches.l1 kq a1 t262 x12_3 a0_0 l0_1 = some r) ∧ Aside0 (kq ≤ k2) ∧ Aside0 (Kd.R (Kd.int .i64) 2 w' w.heap.size (fun _ => True) v263 t262) ∧ Aside0 (w'.heap[gb254]? = some (.cells #[.int .i64 a0_0, (.slice A0_1 l0_1.length c0_1)] 24 (0, 0))) ∧ Aside0 (w'.heap[gb257]? = some (.cells #[.string (⟨#[98, 102, 115]⟩ : ByteArray), .int .i64 a1, .int .i64 20] 26 (0, 0))) ∧ Aside0 (Below w.heap.size w w'))
        case atStart => exact ⟨(0), (by first | rfl | (simp; done) | (simp [*]; done)), H', ⟨Nat.le_refl _⟩, ⟨by (with_reducible repeat (first | apply Kd.R_alloc | apply Kd.R_drewN | apply Kd.R_drew)); exact HO_6.out⟩, ⟨by (with_reducible repeat (first | refine blk_drewN ?_ _ | refine blk_drew ?_ | refine blk_alloc ?_ _)); exact BK254.out⟩, ⟨by (with_reducible repeat (first | refine blk_drewN ?_ _ | refine blk_drew ?_ | refine blk_alloc ?_ _)); exact BK257.out⟩, ⟨by repeat (first | (with_reducible first | exact HB.out | apply below_alloc | apply pw_below_drewN | apply below_drew1 | refine below_set ?_ GE254.out | refine below_set ?_ GE257.out) | exact HB.out)⟩⟩
        case round =>
         clear H'
         try clear c2
         try clear p2
         try clear q2
         try clear hx2
         try clear c3
         try clear c4
         try clear c5
         try clear p6
         try clear p26
         try clear q26
         try clear hx26
         try clear c27
         try clear c27b0
         try clear p27
         try clear q27
         try clear hx27
         try clear c28
         try clear c29
         try clear c30
         try clear c31
         try clear c32
         try clear c33
         try clear c33b0
         try clear c39
         try clear c39b0
         try clear c44
         try clear c48
         try clear c52
         try clear hcz45_0
         try clear hcz45_1
         try clear hcz49_0
         try clear hcz49_1
         try clear hcz53_0
         try clear hcz53_1
         try clear hfz45_0
         try clear hfz45_1
         try clear hfz49_0
         try clear hfz49_1
         try clear hfz53_0
         try clear hfz53_1
         try clear hx267_0
         try clear hx267_1
         try clear hx267_2
         try clear hx268_0
         try clear hx269_0
         try clear hx269_1
         try clear hx269_2
         try clear hx270_0
         try clear p267
         try clear p268
         try clear p269
         try clear p270
         try clear q267
         try clear q268
         try clear q269
         try clear q270
         obtain ⟨x12_3, rfl, HA, HK3, HO_6, BK254, BK257, HB⟩ := hrel
         cases gk with
         | zero => exact absurd HA.out (by simp [modillionlaw09_SeqReaches.l1])
         | succ k3 =>
          have H := HA.out
          clear HA
          simp only [modillionlaw09_SeqReaches.l1] at H
          by_cases c54 : x12_3 < (t262.length : Int)
          ·rw [if_pos c54] at H
           have c54b0 := decide_eq_true c54
           clear c54
           obtain ⟨c55, H⟩ := iteS13 H
           have c55b0 := decide_eq_true c55
           clear c55
           have H' := Aside0.mk H
           clear H
           obtain ⟨Ao56, co56, eo56⟩ := Kd.R_slice HO_6.out
           subst eo56
           have p272 : 0 ≤ (x12_3 : Int) := of_decide_eq_true (by first | (with_reducible assumption) | assumption)
           have q272 : x12_3 < (t262.length : Int) := of_decide_eq_true (by first | (with_reducible assumption) | assumption)
           obtain ⟨ad272, e272, hx272_0⟩ := Kd.at_int (Kd.R_reads' HO_6.out).2.2 x12_3 p272 q272
           cases e272
           replace p272 := eq_true p272
           replace q272 := eq_true q272
           go_wp2
           go_loopg [13, 14] k3 (fun kq v13 v14 w' => ∃ (x13_4 : Bool) (x14_4 : Int), v13 = .bool x13_4 ∧ v14 = .int .i64 x14_4 ∧ Aside0 (modillionlaw09_SeqReaches.l2 kq a1 t262 x12_3 x13_4 x14_4 a0_0 l0_1 = some r) ∧ Aside0 (kq ≤ k3) ∧ Aside0 (Kd.R (Kd.int .i64) 2 w' w.heap.size (fun _ => True) (.slice (some ad272) t262.length co56) t262) ∧ Aside0 (w'.heap[gb254]? = some (.cells #[.int .i64 a0_0, (.slice A0_1 l0_1.length c0_1)] 24 (0, 0))) ∧ Aside0 (w'.heap[gb257]? = some (.cells #[.string (⟨#[98, 102, 115]⟩ : ByteArray), .int .i64 a1, .int .i64 20] 26 (0, 0))) ∧ Aside0 (Below w.heap.size w w'))
           case atStart => exact ⟨(decide ((rd t262 x12_3) ≤ 0)), (0), (by first | rfl | (simp; done) | (simp [*]; done)), (by first | rfl | (simp; done) | (simp [*]; done)), H', ⟨Nat.le_refl _⟩, ⟨by (with_reducible repeat (first | apply Kd.R_alloc | apply Kd.R_drewN | apply Kd.R_drew)); exact HO_6.out⟩, ⟨by (with_reducible repeat (first | refine blk_drewN ?_ _ | refine blk_drew ?_ | refine blk_alloc ?_ _)); exact BK254.out⟩, ⟨by (with_reducible repeat (first | refine blk_drewN ?_ _ | refine blk_drew ?_ | refine blk_alloc ?_ _)); exact BK257.out⟩, ⟨by repeat (first | (with_reducible first | exact HB.out | apply below_alloc | apply pw_below_drewN | apply below_drew1 | refine below_set ?_ GE254.out | refine below_set ?_ GE257.out) | exact HB.out)⟩⟩
           case round =>
            clear H'
            try clear c2
            try clear p2
            try clear q2
            try clear hx2
            try clear c3
            try clear c4
            try clear c5
            try clear p6
            try clear p26
            try clear q26
            try clear hx26
            try clear c27
            try clear c27b0
            try clear p27
            try clear q27
            try clear hx27
            try clear c28
            try clear c29
            try clear c30
            try clear c31
            try clear c32
            try clear c33
            try clear c33b0
            try clear c39
            try clear c39b0
            try clear c44
            try clear c48
            try clear c52
            try clear c54
            try clear c54b0
            try clear c55
            try clear c55b0
            try clear hcz45_0
            try clear hcz45_1
            try clear hcz49_0
            try clear hcz49_1
            try clear hcz53_0
            try clear hcz53_1
            try clear hfz45_0
            try clear hfz45_1
            try clear hfz49_0
            try clear hfz49_1
            try clear hfz53_0
            try clear hfz53_1
            try clear hx267_0
            try clear hx267_1
            try clear hx267_2
            try clear hx268_0
            try clear hx269_0
            try clear hx269_1
            try clear hx269_2
            try clear hx270_0
            try clear hx272_0
            try clear p2
            try clear p26
            try clear p267
            try clear p268
            try clear p269
            try clear p27
            try clear p270
            try clear p272
            try clear p6
            try clear q2
            try clear q26
            try clear q267
            try clear q268
            try clear q269
            try clear q27
            try clear q270
            try clear q272
            obtain ⟨x13_4, x14_4, rfl, rfl, HA, HK4, HO_6, BK254, BK257, HB⟩ := hrel
            cases gk with
            | zero => exact absurd HA.out (by simp [modillionlaw09_SeqReaches.l2])
            | succ k4 =>
             have H := HA.out
             clear HA
             simp only [modillionlaw09_SeqReaches.l2] at H
             by_cases c57 : x14_4 < (l0_1.length : Int)
             ·rw [if_pos c57] at H
              have c57b0 := decide_eq_true c57
              clear c57
              by_cases c58 : x13_4 = true
              ·subst c58
               have H1 : (modillionlaw09_SeqReaches.l2 k4 a1 t262 x12_3 true (wrap64 (x14_4 + 1)) a0_0 l0_1) = some r := by rw [if_pos rfl] at H; exact H
               clear H
               have H := H1
               clear H1
               have H' := Aside0.mk H
               clear H
               have hnb59 := NB254_257.out
               have hnc59 := NB257_254.out
               have hcz60_0 : wr.cell? ⟨gb254, 0, none⟩ = some (.int .i64 a0_0) := (blk_cell BK254.out 0).trans rfl
               have hcz60_1 : wr.cell? ⟨gb254, 1, none⟩ = some (.slice A0_1 l0_1.length c0_1) := (blk_cell BK254.out 1).trans rfl
               have hfz60_0 := blk_frozen BK254.out 0
               have hfz60_1 := blk_frozen BK254.out 1
               try go_wp2
               have n0_ := Aside0.mk (Kd.R_drew HO_6.out)
               have n1_ := Aside0.mk (blk_drew BK254.out)
               have n2_ := Aside0.mk (blk_drew BK257.out)
               have n3_ := Aside0.mk (below_drew1 HB.out)
               clear HO_6
               clear BK254
               clear BK257
               clear HB
               have HO_6 := n0_
               have BK254 := n1_
               have BK257 := n2_
               have HB := n3_
               clear n0_ n1_ n2_ n3_
               refine start_ (n := 29) (S := fun w' => True) (ds := []) #[Z,Z,Z,Z,Z,Z,Z,Z,Z,Z,Z,Z,Z,Z,Z,Z,Z,Z,Z,Z,Z,Z,Z,Z,Z,Z,Z,Z,Z] (by kernel_rfl) rfl rfl trivial (fun hHeld => ?_); refine with_tabW modillionlaw09_SeqReaches.tab20 modillionlaw09_SeqReaches.bits20 (fun HT_ HW_ => ?_)
               generalize wr.drew = w61 at HO_6 BK254 BK257 HB hHeld ⊢
               refine pure_ (i := 0) (N := some 99) (v := ?_) (a' := ?_) #[Y,Z,Z,Z,Z,Z,Z,Z,Z,Z,Z,Z,Z,Z,Z,Z,Z,Z,Z,Z,Z,Z,Z,Z,Z,Z,Z,Z,Z] rfl rfl (any_of HT_.out (by kernel_rfl)) (fun _ _ _ h => h) (Or.inl ⟨by rfl, ?_⟩) ?_ ?_
               rotate_left
               ·intro w';go_simp;with_reducible rfl
               rotate_left
               ·simp only [Act.put, q1_, q2_, q3_, i64_w, i32_w];rfl
               refine pure_ (i := 1) (N := some 100) (v := ?_) (a' := ?_) #[Y,Y,Z,Z,Z,Z,Z,Z,Z,Z,Z,Z,Z,Z,Z,Z,Z,Z,Z,Z,Z,Z,Z,Z,Z,Z,Z,Z,Z] rfl rfl (any_of HT_.out (by kernel_rfl)) (fun _ _ _ h => h) (Or.inl ⟨by rfl, ?_⟩) ?_ ?_
               rotate_left
               ·intro w';go_simp;with_reducible rfl
               rotate_left
               ·simp only [Act.put, q1_, q2_, q3_, i64_w, i32_w];rfl
               refine pure_ (i := 2) (N := some 101) (v := undef) (a' := ?_) #[Y,Y,Y,Z,Z,Z,Z,Z,Z,Z,Z,Z,Z,Z,Z,Z,Z,Z,Z,Z,Z,Z,Z,Z,Z,Z,Z,Z,Z] rfl rfl (any_of HT_.out (by kernel_rfl)) (fun _ _ _ h => h) (Or.inr ⟨by rfl, rfl⟩) ?_ ?_
               rotate_left
               ·simp only [Act.put, q1_, q2_, q3_, i64_w, i32_w];rfl
               refine pure_ (i := 3) (N := some 102) (v := undef) (a' := ?_) #[Y,Y,Y,Y,Z,Z,Z,Z,Z,Z,Z,Z,Z,Z,Z,Z,Z,Z,Z,Z,Z,Z,Z,Z,Z,Z,Z,Z,Z] rfl rfl (any_of HT_.out (by kernel_rfl)) (fun _ _ _ h => h) (Or.inr ⟨by rfl, rfl⟩) ?_ ?_
               rotate_left
               ·simp only [Act.put, q1_, q2_, q3_, i64_w, i32_w];rfl
               refine pure_ (i := 4) (N := some 103) (v := undef) (a' := ?_) #[Y,Y,Y,Y,Y,Z,Z,Z,Z,Z,Z,Z,Z,Z,Z,Z,Z,Z,Z,Z,Z,Z,Z,Z,Z,Z,Z,Z,Z] rfl rfl (any_of HT_.out (by kernel_rfl)) (fun _ _ _ h => h) (Or.inr ⟨by rfl, rfl⟩) ?_ ?_
               rotate_left
               ·simp only [Act.put, q1_, q2_, q3_, i64_w, i32_w];rfl
               refine pure_ (i := 5) (N := some 104) (v := undef) (a' := ?_) #[Y,Y,Y,Y,Y,Y,Z,Z,Z,Z,Z,Z,Z,Z,Z,Z,Z,Z,Z,Z,Z,Z,Z,Z,Z,Z,Z,Z,Z] rfl rfl (any_of HT_.out (by kernel_rfl)) (fun _ _ _ h => h) (Or.inr ⟨by rfl, rfl⟩) ?_ ?_
               rotate_left
               ·simp only [Act.put, q1_, q2_, q3_, i64_w, i32_w];rfl
               refine pure_ (i := 6) (N := some 105) (v := undef) (a' := ?_) #[Y,Y,Y,Y,Y,Y,Y,Z,Z,Z,Z,Z,Z,Z,Z,Z,Z,Z,Z,Z,Z,Z,Z,Z,Z,Z,Z,Z,Z] rfl rfl (any_of HT_.out (by kernel_rfl)) (fun _ _ _ h => h) (Or.inr ⟨by rfl, rfl⟩) ?_ ?_
               rotate_left
               ·simp only [Act.put, q1_, q2_, q3_, i64_w, i32_w];rfl
               refine pure_ (i := 7) (N := some 106) (v := undef) (a' := ?_) #[Y,Y,Y,Y,Y,Y,Y,Y,Z,Z,Z,Z,Z,Z,Z,Z,Z,Z,Z,Z,Z,Z,Z,Z,Z,Z,Z,Z,Z] rfl rfl (any_of HT_.out (by kernel_rfl)) (fun _ _ _ h => h) (Or.inr ⟨by rfl, rfl⟩) ?_ ?_
               rotate_left
               ·simp only [Act.put, q1_, q2_, q3_, i64_w, i32_w];rfl
               refine pure_ (i := 8) (N := some 107) (v := undef) (a' := ?_) #[Y,Y,Y,Y,Y,Y,Y,Y,Y,Z,Z,Z,Z,Z,Z,Z,Z,Z,Z,Z,Z,Z,Z,Z,Z,Z,Z,Z,Z] rfl rfl (any_of HT_.out (by kernel_rfl)) (fun _ _ _ h => h) (Or.inr ⟨by rfl, rfl⟩) ?_ ?_
               rotate_left
               ·simp only [Act.put, q1_, q2_, q3_, i64_w, i32_w];rfl
               refine pure_ (i := 9) (N := some 108) (v := undef) (a' := ?_) #[Y,Y,Y,Y,Y,Y,Y,Y,Y,Y,Z,Z,Z,Z,Z,Z,Z,Z,Z,Z,Z,Z,Z,Z,Z,Z,Z,Z,Z] rfl rfl (any_of HT_.out (by kernel_rfl)) (fun _ _ _ h => h) (Or.inr ⟨by rfl, rfl⟩) ?_ ?_
               rotate_left
               ·simp only [Act.put, q1_, q2_, q3_, i64_w, i32_w];rfl
               refine pure_ (i := 10) (N := some 109) (v := undef) (a' := ?_) #[Y,Y,Y,Y,Y,Y,Y,Y,Y,Y,Y,Z,Z,Z,Z,Z,Z,Z,Z,Z,Z,Z,Z,Z,Z,Z,Z,Z,Z] rfl rfl (any_of HT_.out (by kernel_rfl)) (fun _ _ _ h => h) (Or.inr ⟨by rfl, rfl⟩) ?_ ?_
               rotate_left
               ·simp only [Act.put, q1_, q2_, q3_, i64_w, i32_w];rfl
               refine pure_ (i := 11) (N := some 110) (v := undef) (a' := ?_) #[Y,Y,Y,Y,Y,Y,Y,Y,Y,Y,Y,Y,Z,Z,Z,Z,Z,Z,Z,Z,Z,Z,Z,Z,Z,Z,Z,Z,Z] rfl rfl (any_of HT_.out (by kernel_rfl)) (fun _ _ _ h => h) (Or.inr ⟨by rfl, rfl⟩) ?_ ?_
               rotate_left
               ·simp only [Act.put, q1_, q2_, q3_, i64_w, i32_w];rfl
               refine pure_ (i := 12) (N := some 111) (v := undef) (a' := ?_) #[Y,Y,Y,Y,Y,Y,Y,Y,Y,Y,Y,Y,Y,Z,Z,Z,Z,Z,Z,Z,Z,Z,Z,Z,Z,Z,Z,Z,Z] rfl rfl (any_of HT_.out (by kernel_rfl)) (fun _ _ _ h => h) (Or.inr ⟨by rfl, rfl⟩) ?_ ?_
               rotate_left
               ·simp only [Act.put, q1_, q2_, q3_, i64_w, i32_w];rfl
               refine pure_ (i := 13) (N := some 112) (v := undef) (a' := ?_) #[Y,Y,Y,Y,Y,Y,Y,Y,Y,Y,Y,Y,Y,Y,Z,Z,Z,Z,Z,Z,Z,Z,Z,Z,Z,Z,Z,Z,Z] rfl rfl (any_of HT_.out (by kernel_rfl)) (fun _ _ _ h => h) (Or.inr ⟨by rfl, rfl⟩) ?_ ?_
               rotate_left
               ·simp only [Act.put, q1_, q2_, q3_, i64_w, i32_w];rfl
               refine pure_ (i := 14) (N := some 113) (v := undef) (a' := ?_) #[Y,Y,Y,Y,Y,Y,Y,Y,Y,Y,Y,Y,Y,Y,Y,Z,Z,Z,Z,Z,Z,Z,Z,Z,Z,Z,Z,Z,Z] rfl rfl (any_of HT_.out (by kernel_rfl)) (fun _ _ _ h => h) (Or.inr ⟨by rfl, rfl⟩) ?_ ?_
               rotate_left
               ·simp only [Act.put, q1_, q2_, q3_, i64_w, i32_w];rfl
               refine pure_ (i := 15) (N := some 114) (v := undef) (a' := ?_) #[Y,Y,Y,Y,Y,Y,Y,Y,Y,Y,Y,Y,Y,Y,Y,Y,Z,Z,Z,Z,Z,Z,Z,Z,Z,Z,Z,Z,Z] rfl rfl (any_of HT_.out (by kernel_rfl)) (fun _ _ _ h => h) (Or.inr ⟨by rfl, rfl⟩) ?_ ?_
               rotate_left
               ·simp only [Act.put, q1_, q2_, q3_, i64_w, i32_w];rfl
               refine pure_ (i := 16) (N := some 115) (v := undef) (a' := ?_) #[Y,Y,Y,Y,Y,Y,Y,Y,Y,Y,Y,Y,Y,Y,Y,Y,Y,Z,Z,Z,Z,Z,Z,Z,Z,Z,Z,Z,Z] rfl rfl (any_of HT_.out (by kernel_rfl)) (fun _ _ _ h => h) (Or.inr ⟨by rfl, rfl⟩) ?_ ?_
               rotate_left
               ·simp only [Act.put, q1_, q2_, q3_, i64_w, i32_w];rfl
               refine pure_ (i := 17) (N := some 116) (v := undef) (a' := ?_) #[Y,Y,Y,Y,Y,Y,Y,Y,Y,Y,Y,Y,Y,Y,Y,Y,Y,Y,Z,Z,Z,Z,Z,Z,Z,Z,Z,Z,Z] rfl rfl (any_of HT_.out (by kernel_rfl)) (fun _ _ _ h => h) (Or.inr ⟨by rfl, rfl⟩) ?_ ?_
               rotate_left
               ·simp only [Act.put, q1_, q2_, q3_, i64_w, i32_w];rfl
               refine pure_ (i := 18) (N := some 117) (v := undef) (a' := ?_) #[Y,Y,Y,Y,Y,Y,Y,Y,Y,Y,Y,Y,Y,Y,Y,Y,Y,Y,Y,Z,Z,Z,Z,Z,Z,Z,Z,Z,Z] rfl rfl (any_of HT_.out (by kernel_rfl)) (fun _ _ _ h => h) (Or.inr ⟨by rfl, rfl⟩) ?_ ?_
               rotate_left
               ·simp only [Act.put, q1_, q2_, q3_, i64_w, i32_w];rfl
               refine pure_ (i := 19) (N := some 118) (v := undef) (a' := ?_) #[Y,Y,Y,Y,Y,Y,Y,Y,Y,Y,Y,Y,Y,Y,Y,Y,Y,Y,Y,Y,Z,Z,Z,Z,Z,Z,Z,Z,Z] rfl rfl (any_of HT_.out (by kernel_rfl)) (fun _ _ _ h => h) (Or.inr ⟨by rfl, rfl⟩) ?_ ?_
               rotate_left
               ·simp only [Act.put, q1_, q2_, q3_, i64_w, i32_w];rfl
               refine pure_ (i := 20) (N := some 119) (v := undef) (a' := ?_) #[Y,Y,Y,Y,Y,Y,Y,Y,Y,Y,Y,Y,Y,Y,Y,Y,Y,Y,Y,Y,Y,Z,Z,Z,Z,Z,Z,Z,Z] rfl rfl (any_of HT_.out (by kernel_rfl)) (fun _ _ _ h => h) (Or.inr ⟨by rfl, rfl⟩) ?_ ?_
               rotate_left
               ·simp only [Act.put, q1_, q2_, q3_, i64_w, i32_w];rfl
               refine pure_ (i := 21) (N := some 120) (v := undef) (a' := ?_) #[Y,Y,Y,Y,Y,Y,Y,Y,Y,Y,Y,Y,Y,Y,Y,Y,Y,Y,Y,Y,Y,Y,Z,Z,Z,Z,Z,Z,Z] rfl rfl (any_of HT_.out (by kernel_rfl)) (fun _ _ _ h => h) (Or.inr ⟨by rfl, rfl⟩) ?_ ?_
               rotate_left
               ·simp only [Act.put, q1_, q2_, q3_, i64_w, i32_w];rfl
               refine pure_ (i := 22) (N := some 121) (v := undef) (a' := ?_) #[Y,Y,Y,Y,Y,Y,Y,Y,Y,Y,Y,Y,Y,Y,Y,Y,Y,Y,Y,Y,Y,Y,Y,Z,Z,Z,Z,Z,Z] rfl rfl (any_of HT_.out (by kernel_rfl)) (fun _ _ _ h => h) (Or.inr ⟨by rfl, rfl⟩) ?_ ?_
               rotate_left
               ·simp only [Act.put, q1_, q2_, q3_, i64_w, i32_w];rfl
               refine pure_ (i := 23) (N := some 122) (v := undef) (a' := ?_) #[Y,Y,Y,Y,Y,Y,Y,Y,Y,Y,Y,Y,Y,Y,Y,Y,Y,Y,Y,Y,Y,Y,Y,Y,Z,Z,Z,Z,Z] rfl rfl (any_of HT_.out (by kernel_rfl)) (fun _ _ _ h => h) (Or.inr ⟨by rfl, rfl⟩) ?_ ?_
               rotate_left
               ·simp only [Act.put, q1_, q2_, q3_, i64_w, i32_w];rfl
               refine pure_ (i := 24) (N := some 123) (v := undef) (a' := ?_) #[Y,Y,Y,Y,Y,Y,Y,Y,Y,Y,Y,Y,Y,Y,Y,Y,Y,Y,Y,Y,Y,Y,Y,Y,Y,Z,Z,Z,Z] rfl rfl (any_of HT_.out (by kernel_rfl)) (fun _ _ _ h => h) (Or.inr ⟨by rfl, rfl⟩) ?_ ?_
               rotate_left
               ·simp only [Act.put, q1_, q2_, q3_, i64_w, i32_w];rfl
               refine pure_ (i := 25) (N := some 124) (v := undef) (a' := ?_) #[Y,Y,Y,Y,Y,Y,Y,Y,Y,Y,Y,Y,Y,Y,Y,Y,Y,Y,Y,Y,Y,Y,Y,Y,Y,Y,Z,Z,Z] rfl rfl (any_of HT_.out (by kernel_rfl)) (fun _ _ _ h => h) (Or.inr ⟨by rfl, rfl⟩) ?_ ?_
               rotate_left
               ·simp only [Act.put, q1_, q2_, q3_, i64_w, i32_w];rfl
               refine pure_ (i := 26) (N := some 125) (v := undef) (a' := ?_) #[Y,Y,Y,Y,Y,Y,Y,Y,Y,Y,Y,Y,Y,Y,Y,Y,Y,Y,Y,Y,Y,Y,Y,Y,Y,Y,Y,Z,Z] rfl rfl (any_of HT_.out (by kernel_rfl)) (fun _ _ _ h => h) (Or.inr ⟨by rfl, rfl⟩) ?_ ?_
               rotate_left
               ·simp only [Act.put, q1_, q2_, q3_, i64_w, i32_w];rfl
               refine pure_ (i := 27) (N := some 126) (v := ?_) (a' := ?_) #[Y,Y,Y,Y,Y,Y,Y,Y,Y,Y,Y,Y,Y,Y,Y,Y,Y,Y,Y,Y,Y,Y,Y,Y,Y,Y,Y,Y,Z] rfl rfl (any_of HT_.out (by kernel_rfl)) (fun _ _ _ h => h) (Or.inl ⟨by rfl, ?_⟩) ?_ ?_
               rotate_left
               ·intro w';go_simp;with_reducible rfl
               rotate_left
               ·simp only [Act.put, q1_, q2_, q3_, i64_w, i32_w];rfl
               refine pure_ (i := 28) (N := some 13) (v := ?_) (a' := ?_) #[Y,Y,Y,Y,Y,Y,Y,Y,Y,Y,Y,Y,Y,Y,Y,Y,Y,Y,Y,Y,Y,Y,Y,Y,Y,Y,Y,Y,Y] rfl rfl (any_of HT_.out (by kernel_rfl)) (fun _ _ _ h => h) (Or.inl ⟨by rfl, ?_⟩) ?_ ?_
               rotate_left
               ·intro w';go_simp;with_reducible rfl
               rotate_left
               ·simp only [Act.put, q1_, q2_, q3_, i64_w, i32_w];rfl
               refine done_ (done_of HT_.out (by kernel_rfl)) ?_
               try go_wp2
               go_roundg k4
               case measure => have := HJ2.out; have := HK2.out; have := HK3.out; have := HK4.out; omega
               case rel => exact ⟨(true), (wrap64 (x14_4 + 1)), (by first | rfl | (simp; done) | (simp [*]; done)), (by first | rfl | (simp; done) | (simp [*]; done)), H', ⟨by have := HJ2.out; have := HK2.out; have := HK3.out; have := HK4.out; omega⟩, ⟨by (with_reducible repeat (first | apply Kd.R_alloc | apply Kd.R_drewN | apply Kd.R_drew)); exact HO_6.out⟩, ⟨by (with_reducible repeat (first | refine blk_drewN ?_ _ | refine blk_drew ?_ | refine blk_alloc ?_ _)); exact BK254.out⟩, ⟨by (with_reducible repeat (first | refine blk_drewN ?_ _ | refine blk_drew ?_ | refine blk_alloc ?_ _)); exact BK257.out⟩, ⟨by repeat (first | (with_reducible first | exact HB.out | apply below_alloc | apply pw_below_drewN | apply below_drew1 | refine below_set ?_ GE254.out | refine below_set ?_ GE257.out) | exact HB.out)⟩⟩
              ·replace c58 := Bool.eq_false_iff.mpr c58
               subst c58
               have H1 : (if 0 ≤ x14_4 then (if ((rd_T45 l0_1 x14_4).f1) = x12_3 then (if 0 ≤ ((rd_T45 l0_1 x14_4).f0) then (if ((rd_T45 l0_1 x14_4).f0) < (t262.length : Int) then (if 0 ≤ x12_3 then (if x12_3 < (t262.length : Int) then (modillionlaw09_SeqReaches.l2 k4 a1 t262 x12_3 ((rd t262 ((rd_T45 l0_1 x14_4).f0)) == (wrap64 ((rd t262 x12_3) - 1))) (wrap64 (x14_4 + 1)) a0_0 l0_1) else (none)) else (none)) else (none)) else (none)) else (modillionlaw09_SeqReaches.l2 k4 a1 t262 x12_3 false (wrap64 (x14_4 + 1)) a0_0 l0_1)) else (none)) = some r := by rw [if_neg (show ¬ (false = true) by decide)] at H; exact H
               clear H
               have H := H1
               clear H1
               obtain ⟨c62, H⟩ := iteS13 H
               have c62b0 := decide_eq_true c62
               clear c62
               by_cases c63 : ((rd_T45 l0_1 x14_4).f1) = x12_3
               ·rw [if_pos c63] at H
                have c63b0 : (((rd_T45 l0_1 x14_4).f1) == x12_3) = true := beq_iff_eq.mpr c63
                have c63b1 : (((rd_T45 l0_1 x14_4).f1) != x12_3) = false := bne_eq_false_iff_eq.mpr c63
                clear c63
                obtain ⟨c64, H⟩ := iteS13 H
                have c64b0 := decide_eq_true c64
                clear c64
                obtain ⟨c65, H⟩ := iteS13 H
                have c65b0 := decide_eq_true c65
                clear c65
                obtain ⟨c66, H⟩ := iteS13 H
                have c66b0 := decide_eq_true c66
                clear c66
                obtain ⟨c67, H⟩ := iteS13 H
                have c67b0 := decide_eq_true c67
                clear c67
                have H' := Aside0.mk H
                clear H
                have hnb68 := NB254_257.out
                have hnc68 := NB257_254.out
                have hcz69_0 : wr.cell? ⟨gb254, 0, none⟩ = some (.int .i64 a0_0) := (blk_cell BK254.out 0).trans rfl
                have hcz69_1 : wr.cell? ⟨gb254, 1, none⟩ = some (.slice A0_1 l0_1.length c0_1) := (blk_cell BK254.out 1).trans rfl
                have hfz69_0 := blk_frozen BK254.out 0
                have hfz69_1 := blk_frozen BK254.out 1
                try go_wp2
                have n0_ := Aside0.mk (Kd.R_drew HO_6.out)
                have n1_ := Aside0.mk (blk_drew BK254.out)
                have n2_ := Aside0.mk (blk_drew BK257.out)
                have n3_ := Aside0.mk (below_drew1 HB.out)
                clear HO_6
                clear BK254
                clear BK257
                clear HB
                have HO_6 := n0_
                have BK254 := n1_
                have BK257 := n2_
                have HB := n3_
                clear n0_ n1_ n2_ n3_
                have p273 : 0 ≤ (x14_4 : Int) := of_decide_eq_true (by first | (with_reducible assumption) | assumption)
                have q273 : x14_4 < (l0_1.length : Int) := of_decide_eq_true (by first | (with_reducible assumption) | assumption)
                obtain ⟨ad273, e273, hx273_0, hx273_1, hx273_2⟩ := at_T45 HR0_1.out x14_4 p273 q273
                have hw273_2 := hx273_2
                have hw273_1 := hx273_1
                have hw273_0 := hx273_0
                cases e273
                replace hx273_0 := (HB.out.cell (World.block_lt_of_cell? w _ hx273_0)).trans hx273_0
                replace hx273_1 := (HB.out.cell (World.block_lt_of_cell? w _ hx273_1)).trans hx273_1
                replace hx273_2 := (HB.out.cell (World.block_lt_of_cell? w _ hx273_2)).trans hx273_2
                replace p273 := eq_true p273
                replace q273 := eq_true q273
                have p274 : 0 ≤ (x14_4 : Int) := of_decide_eq_true (by first | (with_reducible assumption) | assumption)
                have q274 : x14_4 < (l0_1.length : Int) := of_decide_eq_true (by first | (with_reducible assumption) | assumption)
                obtain ⟨ad274, e274, hx274_0, hx274_1, hx274_2⟩ := at_T45 HR0_1.out x14_4 p274 q274
                have hw274_2 := hx274_2
                have hw274_1 := hx274_1
                have hw274_0 := hx274_0
                obtain rfl : ad273 = ad274 := (by injection e274)
                replace hx274_0 := (HB.out.cell (World.block_lt_of_cell? w _ hx274_0)).trans hx274_0
                replace hx274_1 := (HB.out.cell (World.block_lt_of_cell? w _ hx274_1)).trans hx274_1
                replace hx274_2 := (HB.out.cell (World.block_lt_of_cell? w _ hx274_2)).trans hx274_2
                replace p274 := eq_true p274
                replace q274 := eq_true q274
                have p275 : 0 ≤ (((rd_T45 l0_1 x14_4).f0) : Int) := of_decide_eq_true (by first | (with_reducible assumption) | assumption)
                have q275 : ((rd_T45 l0_1 x14_4).f0) < (t262.length : Int) := of_decide_eq_true (by first | (with_reducible assumption) | assumption)
                obtain ⟨ad275, e275, hx275_0⟩ := Kd.at_int (Kd.R_reads' HO_6.out).2.2 ((rd_T45 l0_1 x14_4).f0) p275 q275
                obtain rfl : ad272 = ad275 := (by injection e275)
                replace p275 := eq_true p275
                replace q275 := eq_true q275
                have p276 : 0 ≤ (x12_3 : Int) := of_decide_eq_true (by first | (with_reducible assumption) | assumption)
                have q276 : x12_3 < (t262.length : Int) := of_decide_eq_true (by first | (with_reducible assumption) | assumption)
                obtain ⟨ad276, e276, hx276_0⟩ := Kd.at_int (Kd.R_reads' HO_6.out).2.2 x12_3 p276 q276
                obtain rfl : ad272 = ad276 := (by injection e276)
                replace p276 := eq_true p276
                replace q276 := eq_true q276
                refine start_ (n := 29) (S := fun w' => w'.cell? ⟨gb254, 0, none⟩ = some (.int .i64 a0_0) ∧ w'.cell? ⟨gb254, 1, none⟩ = some (.slice (some ad273) l0_1.length c0_1) ∧ w'.cell? (ad273.add ((x14_4).toNat * 3)) = some (.int .i64 ((rd_T45 l0_1 x14_4).f0)) ∧ w'.cell? ⟨(ad273.add ((x14_4).toNat * 3)).block, (ad273.add ((x14_4).toNat * 3)).off + 1, none⟩ = some (.int .i64 ((rd_T45 l0_1 x14_4).f1)) ∧ w'.cell? ⟨(ad273.add ((x14_4).toNat * 3)).block, (ad273.add ((x14_4).toNat * 3)).off + 2, none⟩ = some (.int .i64 ((rd_T45 l0_1 x14_4).f2)) ∧ w'.cell? (ad273.add ((x14_4).toNat * 3)) = some (.int .i64 ((rd_T45 l0_1 x14_4).f0)) ∧ w'.cell? ⟨(ad273.add ((x14_4).toNat * 3)).block, (ad273.add ((x14_4).toNat * 3)).off + 1, none⟩ = some (.int .i64 ((rd_T45 l0_1 x14_4).f1)) ∧ w'.cell? ⟨(ad273.add ((x14_4).toNat * 3)).block, (ad273.add ((x14_4).toNat * 3)).off + 2, none⟩ = some (.int .i64 ((rd_T45 l0_1 x14_4).f2)) ∧ w'.cell? (ad272.add (((rd_T45 l0_1 x14_4).f0)).toNat) = some (.int .i64 (rd t262 ((rd_T45 l0_1 x14_4).f0))) ∧ w'.cell? (ad272.add (x12_3).toNat) = some (.int .i64 (rd t262 x12_3))) (ds := []) #[Z,Z,Z,Z,Z,Z,Z,Z,Z,Z,Z,Z,Z,Z,Z,Z,Z,Z,Z,Z,Z,Z,Z,Z,Z,Z,Z,Z,Z] (by kernel_rfl) rfl rfl ⟨(blk_cell BK254.out 0).trans rfl, (blk_cell BK254.out 1).trans rfl, ((HB.out.cell (World.block_lt_of_cell? w _ hw273_0)).trans hw273_0), ((HB.out.cell (World.block_lt_of_cell? w _ hw273_1)).trans hw273_1), ((HB.out.cell (World.block_lt_of_cell? w _ hw273_2)).trans hw273_2), ((HB.out.cell (World.block_lt_of_cell? w _ hw274_0)).trans hw274_0), ((HB.out.cell (World.block_lt_of_cell? w _ hw274_1)).trans hw274_1), ((HB.out.cell (World.block_lt_of_cell? w _ hw274_2)).trans hw274_2), hx275_0, hx276_0⟩ (fun hHeld => ?_); refine with_tabW modillionlaw09_SeqReaches.tab20 modillionlaw09_SeqReaches.bits20 (fun HT_ HW_ => ?_)
                generalize wr.drew = w70 at HO_6 BK254 BK257 HB hx273_0 hx273_1 hx273_2 hx274_0 hx274_1 hx274_2 hx275_0 hx276_0 hHeld ⊢
                refine pure_ (i := 0) (N := some 99) (v := ?_) (a' := ?_) #[Y,Z,Z,Z,Z,Z,Z,Z,Z,Z,Z,Z,Z,Z,Z,Z,Z,Z,Z,Z,Z,Z,Z,Z,Z,Z,Z,Z,Z] rfl rfl (any_of HT_.out (by kernel_rfl)) (fun _ _ _ h => h) (Or.inl ⟨by rfl, ?_⟩) ?_ ?_
                rotate_left
                ·intro w';go_simp;with_reducible rfl
                rotate_left
                ·simp only [Act.put, q1_, q2_, q3_, i64_w, i32_w];rfl
                refine pure_ (i := 1) (N := some 100) (v := ?_) (a' := ?_) #[Y,Y,Z,Z,Z,Z,Z,Z,Z,Z,Z,Z,Z,Z,Z,Z,Z,Z,Z,Z,Z,Z,Z,Z,Z,Z,Z,Z,Z] rfl rfl (any_of HT_.out (by kernel_rfl)) (fun _ _ _ h => h) (Or.inl ⟨by rfl, ?_⟩) ?_ ?_
                rotate_left
                ·intro w';go_simp;with_reducible rfl
                rotate_left
                ·simp only [Act.put, q1_, q2_, q3_, i64_w, i32_w];rfl
                refine pure_ (i := 2) (N := some 101) (v := ?_) (a' := ?_) #[Y,Y,Y,Z,Z,Z,Z,Z,Z,Z,Z,Z,Z,Z,Z,Z,Z,Z,Z,Z,Z,Z,Z,Z,Z,Z,Z,Z,Z] rfl rfl (any_of HT_.out (by kernel_rfl)) (fun _ _ _ h => h) (Or.inl ⟨by rfl, ?_⟩) ?_ ?_
                rotate_left
                ·intro w';go_simp;with_reducible rfl
                rotate_left
                ·simp only [Act.put, q1_, q2_, q3_, i64_w, i32_w];rfl
                refine pure_ (i := 4) (N := some 103) (v := ?_) (a' := ?_) #[Y,Y,Y,Z,Y,Z,Z,Z,Z,Z,Z,Z,Z,Z,Z,Z,Z,Z,Z,Z,Z,Z,Z,Z,Z,Z,Z,Z,Z] rfl rfl (any_of HT_.out (by kernel_rfl)) (fun _ _ _ h => h) (Or.inl ⟨by rfl, ?_⟩) ?_ ?_
                rotate_left
                ·intro w';go_simp;with_reducible rfl
                rotate_left
                ·simp only [Act.put, q1_, q2_, q3_, i64_w, i32_w];rfl
                refine pure_ (i := 8) (N := some 107) (v := ?_) (a' := ?_) #[Y,Y,Y,Z,Y,Z,Z,Z,Y,Z,Z,Z,Z,Z,Z,Z,Z,Z,Z,Z,Z,Z,Z,Z,Z,Z,Z,Z,Z] rfl rfl (any_of HT_.out (by kernel_rfl)) (fun _ _ _ h => h) (Or.inl ⟨by rfl, ?_⟩) ?_ ?_
                rotate_left
                ·intro w';go_simp;with_reducible rfl
                rotate_left
                ·simp only [Act.put, q1_, q2_, q3_, i64_w, i32_w];rfl
                refine take_ (i := 3) (N := some 102) (v := ?_) (a' := ?_) #[Y,Y,Y,Y,Y,Z,Z,Z,Y,Z,Z,Z,Z,Z,Z,Z,Z,Z,Z,Z,Z,Z,Z,Z,Z,Z,Z,Z,Z] rfl rfl (take_ofW HT_.out HW_.out (by kernel_rfl)) (fun _ _ _ h => h) (Or.inl ⟨by rfl, ?_⟩) hHeld ?_ ?_
                rotate_left
                ·rintro w' ⟨s0, s1, s2, s3, s4, s5, s6, s7, s8, s9⟩;go_simp;with_reducible rfl
                rotate_left
                ·simp only [Act.put, q1_, q2_, q3_, i64_w, i32_w];rfl
                refine pure_ (i := 5) (N := some 104) (v := ?_) (a' := ?_) #[Y,Y,Y,Y,Y,Y,Z,Z,Y,Z,Z,Z,Z,Z,Z,Z,Z,Z,Z,Z,Z,Z,Z,Z,Z,Z,Z,Z,Z] rfl rfl (any_of HT_.out (by kernel_rfl)) (fun _ _ _ h => h) (Or.inl ⟨by rfl, ?_⟩) ?_ ?_
                rotate_left
                ·intro w';go_simp;with_reducible rfl
                rotate_left
                ·simp only [Act.put, q1_, q2_, q3_, i64_w, i32_w];rfl
                refine pure_ (i := 6) (N := some 105) (v := ?_) (a' := ?_) #[Y,Y,Y,Y,Y,Y,Y,Z,Y,Z,Z,Z,Z,Z,Z,Z,Z,Z,Z,Z,Z,Z,Z,Z,Z,Z,Z,Z,Z] rfl rfl (any_of HT_.out (by kernel_rfl)) (fun _ _ _ h => h) (Or.inl ⟨by rfl, ?_⟩) ?_ ?_
                rotate_left
                ·intro w';go_simp;with_reducible rfl
                rotate_left
                ·simp only [Act.put, q1_, q2_, q3_, i64_w, i32_w];rfl
                refine take_ (i := 7) (N := some 106) (v := ?_) (a' := ?_) #[Y,Y,Y,Y,Y,Y,Y,Y,Y,Z,Z,Z,Z,Z,Z,Z,Z,Z,Z,Z,Z,Z,Z,Z,Z,Z,Z,Z,Z] rfl rfl (take_ofW HT_.out HW_.out (by kernel_rfl)) (fun _ _ _ h => h) (Or.inl ⟨by rfl, ?_⟩) hHeld ?_ ?_
                rotate_left
                ·rintro w' ⟨s0, s1, s2, s3, s4, s5, s6, s7, s8, s9⟩;go_simp;with_reducible rfl
                rotate_left
                ·simp only [Act.put, q1_, q2_, q3_, i64_w, i32_w];rfl
                refine pure_ (i := 9) (N := some 108) (v := ?_) (a' := ?_) #[Y,Y,Y,Y,Y,Y,Y,Y,Y,Y,Z,Z,Z,Z,Z,Z,Z,Z,Z,Z,Z,Z,Z,Z,Z,Z,Z,Z,Z] rfl rfl (any_of HT_.out (by kernel_rfl)) (fun _ _ _ h => h) (Or.inl ⟨by rfl, ?_⟩) ?_ ?_
                rotate_left
                ·intro w';go_simp;with_reducible rfl
                rotate_left
                ·simp only [Act.put, q1_, q2_, q3_, i64_w, i32_w];rfl
                refine pure_ (i := 10) (N := some 109) (v := ?_) (a' := ?_) #[Y,Y,Y,Y,Y,Y,Y,Y,Y,Y,Y,Z,Z,Z,Z,Z,Z,Z,Z,Z,Z,Z,Z,Z,Z,Z,Z,Z,Z] rfl rfl (any_of HT_.out (by kernel_rfl)) (fun _ _ _ h => h) (Or.inl ⟨by rfl, ?_⟩) ?_ ?_
                rotate_left
                ·intro w';go_simp;with_reducible rfl
                rotate_left
                ·simp only [Act.put, q1_, q2_, q3_, i64_w, i32_w];rfl
                refine pure_ (i := 11) (N := some 110) (v := ?_) (a' := ?_) #[Y,Y,Y,Y,Y,Y,Y,Y,Y,Y,Y,Y,Z,Z,Z,Z,Z,Z,Z,Z,Z,Z,Z,Z,Z,Z,Z,Z,Z] rfl rfl (any_of HT_.out (by kernel_rfl)) (fun _ _ _ h => h) (Or.inl ⟨by rfl, ?_⟩) ?_ ?_
                rotate_left
                ·intro w';go_simp;with_reducible rfl
                rotate_left
                ·simp only [Act.put, q1_, q2_, q3_, i64_w, i32_w];rfl
                refine pure_ (i := 12) (N := some 111) (v := ?_) (a' := ?_) #[Y,Y,Y,Y,Y,Y,Y,Y,Y,Y,Y,Y,Y,Z,Z,Z,Z,Z,Z,Z,Z,Z,Z,Z,Z,Z,Z,Z,Z] rfl rfl (any_of HT_.out (by kernel_rfl)) (fun _ _ _ h => h) (Or.inl ⟨by rfl, ?_⟩) ?_ ?_
                rotate_left
                ·intro w';go_simp;with_reducible rfl
                rotate_left
                ·simp only [Act.put, q1_, q2_, q3_, i64_w, i32_w];rfl
                refine pure_ (i := 14) (N := some 113) (v := ?_) (a' := ?_) #[Y,Y,Y,Y,Y,Y,Y,Y,Y,Y,Y,Y,Y,Z,Y,Z,Z,Z,Z,Z,Z,Z,Z,Z,Z,Z,Z,Z,Z] rfl rfl (any_of HT_.out (by kernel_rfl)) (fun _ _ _ h => h) (Or.inl ⟨by rfl, ?_⟩) ?_ ?_
                rotate_left
                ·intro w';go_simp;with_reducible rfl
                rotate_left
                ·simp only [Act.put, q1_, q2_, q3_, i64_w, i32_w];rfl
                refine pure_ (i := 20) (N := some 119) (v := ?_) (a' := ?_) #[Y,Y,Y,Y,Y,Y,Y,Y,Y,Y,Y,Y,Y,Z,Y,Z,Z,Z,Z,Z,Y,Z,Z,Z,Z,Z,Z,Z,Z] rfl rfl (any_of HT_.out (by kernel_rfl)) (fun _ _ _ h => h) (Or.inl ⟨by rfl, ?_⟩) ?_ ?_
                rotate_left
                ·intro w';go_simp;with_reducible rfl
                rotate_left
                ·simp only [Act.put, q1_, q2_, q3_, i64_w, i32_w];rfl
                refine pure_ (i := 21) (N := some 120) (v := ?_) (a' := ?_) #[Y,Y,Y,Y,Y,Y,Y,Y,Y,Y,Y,Y,Y,Z,Y,Z,Z,Z,Z,Z,Y,Y,Z,Z,Z,Z,Z,Z,Z] rfl rfl (any_of HT_.out (by kernel_rfl)) (fun _ _ _ h => h) (Or.inl ⟨by rfl, ?_⟩) ?_ ?_
                rotate_left
                ·intro w';go_simp;with_reducible rfl
                rotate_left
                ·simp only [Act.put, q1_, q2_, q3_, i64_w, i32_w];rfl
                refine pure_ (i := 22) (N := some 121) (v := ?_) (a' := ?_) #[Y,Y,Y,Y,Y,Y,Y,Y,Y,Y,Y,Y,Y,Z,Y,Z,Z,Z,Z,Z,Y,Y,Y,Z,Z,Z,Z,Z,Z] rfl rfl (any_of HT_.out (by kernel_rfl)) (fun _ _ _ h => h) (Or.inl ⟨by rfl, ?_⟩) ?_ ?_
                rotate_left
                ·intro w';go_simp;with_reducible rfl
                rotate_left
                ·simp only [Act.put, q1_, q2_, q3_, i64_w, i32_w];rfl
                refine take_ (i := 13) (N := some 112) (v := ?_) (a' := ?_) #[Y,Y,Y,Y,Y,Y,Y,Y,Y,Y,Y,Y,Y,Y,Y,Z,Z,Z,Z,Z,Y,Y,Y,Z,Z,Z,Z,Z,Z] rfl rfl (take_ofW HT_.out HW_.out (by kernel_rfl)) (fun _ _ _ h => h) (Or.inl ⟨by rfl, ?_⟩) hHeld ?_ ?_
                rotate_left
                ·rintro w' ⟨s0, s1, s2, s3, s4, s5, s6, s7, s8, s9⟩;go_simp;with_reducible rfl
                rotate_left
                ·simp only [Act.put, q1_, q2_, q3_, i64_w, i32_w];rfl
                refine pure_ (i := 15) (N := some 114) (v := ?_) (a' := ?_) #[Y,Y,Y,Y,Y,Y,Y,Y,Y,Y,Y,Y,Y,Y,Y,Y,Z,Z,Z,Z,Y,Y,Y,Z,Z,Z,Z,Z,Z] rfl rfl (any_of HT_.out (by kernel_rfl)) (fun _ _ _ h => h) (Or.inl ⟨by rfl, ?_⟩) ?_ ?_
                rotate_left
                ·intro w';go_simp;with_reducible rfl
                rotate_left
                ·simp only [Act.put, q1_, q2_, q3_, i64_w, i32_w];rfl
                refine pure_ (i := 16) (N := some 115) (v := ?_) (a' := ?_) #[Y,Y,Y,Y,Y,Y,Y,Y,Y,Y,Y,Y,Y,Y,Y,Y,Y,Z,Z,Z,Y,Y,Y,Z,Z,Z,Z,Z,Z] rfl rfl (any_of HT_.out (by kernel_rfl)) (fun _ _ _ h => h) (Or.inl ⟨by rfl, ?_⟩) ?_ ?_
                rotate_left
                ·intro w';go_simp;with_reducible rfl
                rotate_left
                ·simp only [Act.put, q1_, q2_, q3_, i64_w, i32_w];rfl
                refine take_ (i := 17) (N := some 116) (v := ?_) (a' := ?_) #[Y,Y,Y,Y,Y,Y,Y,Y,Y,Y,Y,Y,Y,Y,Y,Y,Y,Y,Z,Z,Y,Y,Y,Z,Z,Z,Z,Z,Z] rfl rfl (take_ofW HT_.out HW_.out (by kernel_rfl)) (fun _ _ _ h => h) (Or.inl ⟨by rfl, ?_⟩) hHeld ?_ ?_
                rotate_left
                ·rintro w' ⟨s0, s1, s2, s3, s4, s5, s6, s7, s8, s9⟩;go_simp;with_reducible rfl
                rotate_left
                ·simp only [Act.put, q1_, q2_, q3_, i64_w, i32_w];rfl
                refine pure_ (i := 18) (N := some 117) (v := ?_) (a' := ?_) #[Y,Y,Y,Y,Y,Y,Y,Y,Y,Y,Y,Y,Y,Y,Y,Y,Y,Y,Y,Z,Y,Y,Y,Z,Z,Z,Z,Z,Z] rfl rfl (any_of HT_.out (by kernel_rfl)) (fun _ _ _ h => h) (Or.inl ⟨by rfl, ?_⟩) ?_ ?_
                rotate_left
                ·intro w';go_simp;with_reducible rfl
                rotate_left
                ·simp only [Act.put, q1_, q2_, q3_, i64_w, i32_w];rfl
                refine take_ (i := 19) (N := some 118) (v := ?_) (a' := ?_) #[Y,Y,Y,Y,Y,Y,Y,Y,Y,Y,Y,Y,Y,Y,Y,Y,Y,Y,Y,Y,Y,Y,Y,Z,Z,Z,Z,Z,Z] rfl rfl (take_ofW HT_.out HW_.out (by kernel_rfl)) (fun _ _ _ h => h) (Or.inl ⟨by rfl, ?_⟩) hHeld ?_ ?_
                rotate_left
                ·rintro w' ⟨s0, s1, s2, s3, s4, s5, s6, s7, s8, s9⟩;go_simp;with_reducible rfl
                rotate_left
                ·simp only [Act.put, q1_, q2_, q3_, i64_w, i32_w];rfl
                refine take_ (i := 23) (N := some 122) (v := ?_) (a' := ?_) #[Y,Y,Y,Y,Y,Y,Y,Y,Y,Y,Y,Y,Y,Y,Y,Y,Y,Y,Y,Y,Y,Y,Y,Y,Z,Z,Z,Z,Z] rfl rfl (take_ofW HT_.out HW_.out (by kernel_rfl)) (fun _ _ _ h => h) (Or.inl ⟨by rfl, ?_⟩) hHeld ?_ ?_
                rotate_left
                ·rintro w' ⟨s0, s1, s2, s3, s4, s5, s6, s7, s8, s9⟩;go_simp;with_reducible rfl
                rotate_left
                ·simp only [Act.put, q1_, q2_, q3_, i64_w, i32_w];rfl
                refine pure_ (i := 24) (N := some 123) (v := ?_) (a' := ?_) #[Y,Y,Y,Y,Y,Y,Y,Y,Y,Y,Y,Y,Y,Y,Y,Y,Y,Y,Y,Y,Y,Y,Y,Y,Y,Z,Z,Z,Z] rfl rfl (any_of HT_.out (by kernel_rfl)) (fun _ _ _ h => h) (Or.inl ⟨by rfl, ?_⟩) ?_ ?_
                rotate_left
                ·intro w';go_simp;with_reducible rfl
                rotate_left
                ·simp only [Act.put, q1_, q2_, q3_, i64_w, i32_w];rfl
                refine pure_ (i := 25) (N := some 124) (v := ?_) (a' := ?_) #[Y,Y,Y,Y,Y,Y,Y,Y,Y,Y,Y,Y,Y,Y,Y,Y,Y,Y,Y,Y,Y,Y,Y,Y,Y,Y,Z,Z,Z] rfl rfl (any_of HT_.out (by kernel_rfl)) (fun _ _ _ h => h) (Or.inl ⟨by rfl, ?_⟩) ?_ ?_
                rotate_left
                ·intro w';go_simp;with_reducible rfl
                rotate_left
                ·simp only [Act.put, q1_, q2_, q3_, i64_w, i32_w];rfl
                refine pure_ (i := 26) (N := some 125) (v := ?_) (a' := ?_) #[Y,Y,Y,Y,Y,Y,Y,Y,Y,Y,Y,Y,Y,Y,Y,Y,Y,Y,Y,Y,Y,Y,Y,Y,Y,Y,Y,Z,Z] rfl rfl (any_of HT_.out (by kernel_rfl)) (fun _ _ _ h => h) (Or.inl ⟨by rfl, ?_⟩) ?_ ?_
                rotate_left
                ·intro w';go_simp;with_reducible rfl
                rotate_left
                ·simp only [Act.put, q1_, q2_, q3_, i64_w, i32_w];rfl
                refine pure_ (i := 27) (N := some 126) (v := ?_) (a' := ?_) #[Y,Y,Y,Y,Y,Y,Y,Y,Y,Y,Y,Y,Y,Y,Y,Y,Y,Y,Y,Y,Y,Y,Y,Y,Y,Y,Y,Y,Z] rfl rfl (any_of HT_.out (by kernel_rfl)) (fun _ _ _ h => h) (Or.inl ⟨by rfl, ?_⟩) ?_ ?_
                rotate_left
                ·intro w';go_simp;with_reducible rfl
                rotate_left
                ·simp only [Act.put, q1_, q2_, q3_, i64_w, i32_w];rfl
                refine pure_ (i := 28) (N := some 13) (v := ?_) (a' := ?_) #[Y,Y,Y,Y,Y,Y,Y,Y,Y,Y,Y,Y,Y,Y,Y,Y,Y,Y,Y,Y,Y,Y,Y,Y,Y,Y,Y,Y,Y] rfl rfl (any_of HT_.out (by kernel_rfl)) (fun _ _ _ h => h) (Or.inl ⟨by rfl, ?_⟩) ?_ ?_
                rotate_left
                ·intro w';go_simp;with_reducible rfl
                rotate_left
                ·simp only [Act.put, q1_, q2_, q3_, i64_w, i32_w];rfl
                refine done_ (done_of HT_.out (by kernel_rfl)) ?_
                try go_wp2
                go_roundg k4
                case measure => have := HJ2.out; have := HK2.out; have := HK3.out; have := HK4.out; omega
                case rel => exact ⟨(((rd t262 ((rd_T45 l0_1 x14_4).f0)) == (wrap64 ((rd t262 x12_3) - 1)))), (wrap64 (x14_4 + 1)), (by first | rfl | (simp; done) | (simp [*]; done)), (by first | rfl | (simp; done) | (simp [*]; done)), H', ⟨by have := HJ2.out; have := HK2.out; have := HK3.out; have := HK4.out; omega⟩, ⟨by (with_reducible repeat (first | apply Kd.R_alloc | apply Kd.R_drewN | apply Kd.R_drew)); exact HO_6.out⟩, ⟨by (with_reducible repeat (first | refine blk_drewN ?_ _ | refine blk_drew ?_ | refine blk_alloc ?_ _)); exact BK254.out⟩, ⟨by (with_reducible repeat (first | refine blk_drewN ?_ _ | refine blk_drew ?_ | refine blk_alloc ?_ _)); exact BK257.out⟩, ⟨by repeat (first | (with_reducible first | exact HB.out | apply below_alloc | apply pw_below_drewN | apply below_drew1 | refine below_set ?_ GE254.out | refine below_set ?_ GE257.out) | exact HB.out)⟩⟩
               ·rw [if_neg c63] at H
                have c63b0 : (((rd_T45 l0_1 x14_4).f1) == x12_3) = false := beq_eq_false_iff_ne.mpr c63
                have c63b1 : (((rd_T45 l0_1 x14_4).f1) != x12_3) = true := bne_iff_ne.mpr c63
                have H' := Aside0.mk H
                clear H
                have hnb71 := NB254_257.out
                have hnc71 := NB257_254.out
                have hcz72_0 : wr.cell? ⟨gb254, 0, none⟩ = some (.int .i64 a0_0) := (blk_cell BK254.out 0).trans rfl
                have hcz72_1 : wr.cell? ⟨gb254, 1, none⟩ = some (.slice A0_1 l0_1.length c0_1) := (blk_cell BK254.out 1).trans rfl
                have hfz72_0 := blk_frozen BK254.out 0
                have hfz72_1 := blk_frozen BK254.out 1
                try go_wp2
                have n0_ := Aside0.mk (Kd.R_drew HO_6.out)
                have n1_ := Aside0.mk (blk_drew BK254.out)
                have n2_ := Aside0.mk (blk_drew BK257.out)
                have n3_ := Aside0.mk (below_drew1 HB.out)
                clear HO_6
                clear BK254
                clear BK257
                clear HB
                have HO_6 := n0_
                have BK254 := n1_
                have BK257 := n2_
                have HB := n3_
                clear n0_ n1_ n2_ n3_
                have p273 : 0 ≤ (x14_4 : Int) := of_decide_eq_true (by first | (with_reducible assumption) | assumption)
                have q273 : x14_4 < (l0_1.length : Int) := of_decide_eq_true (by first | (with_reducible assumption) | assumption)
                obtain ⟨ad273, e273, hx273_0, hx273_1, hx273_2⟩ := at_T45 HR0_1.out x14_4 p273 q273
                have hw273_2 := hx273_2
                have hw273_1 := hx273_1
                have hw273_0 := hx273_0
                cases e273
                replace hx273_0 := (HB.out.cell (World.block_lt_of_cell? w _ hx273_0)).trans hx273_0
                replace hx273_1 := (HB.out.cell (World.block_lt_of_cell? w _ hx273_1)).trans hx273_1
                replace hx273_2 := (HB.out.cell (World.block_lt_of_cell? w _ hx273_2)).trans hx273_2
                replace p273 := eq_true p273
                replace q273 := eq_true q273
                refine start_ (n := 29) (S := fun w' => w'.cell? ⟨gb254, 0, none⟩ = some (.int .i64 a0_0) ∧ w'.cell? ⟨gb254, 1, none⟩ = some (.slice (some ad273) l0_1.length c0_1) ∧ w'.cell? (ad273.add ((x14_4).toNat * 3)) = some (.int .i64 ((rd_T45 l0_1 x14_4).f0)) ∧ w'.cell? ⟨(ad273.add ((x14_4).toNat * 3)).block, (ad273.add ((x14_4).toNat * 3)).off + 1, none⟩ = some (.int .i64 ((rd_T45 l0_1 x14_4).f1)) ∧ w'.cell? ⟨(ad273.add ((x14_4).toNat * 3)).block, (ad273.add ((x14_4).toNat * 3)).off + 2, none⟩ = some (.int .i64 ((rd_T45 l0_1 x14_4).f2))) (ds := []) #[Z,Z,Z,Z,Z,Z,Z,Z,Z,Z,Z,Z,Z,Z,Z,Z,Z,Z,Z,Z,Z,Z,Z,Z,Z,Z,Z,Z,Z] (by kernel_rfl) rfl rfl ⟨(blk_cell BK254.out 0).trans rfl, (blk_cell BK254.out 1).trans rfl, ((HB.out.cell (World.block_lt_of_cell? w _ hw273_0)).trans hw273_0), ((HB.out.cell (World.block_lt_of_cell? w _ hw273_1)).trans hw273_1), ((HB.out.cell (World.block_lt_of_cell? w _ hw273_2)).trans hw273_2)⟩ (fun hHeld => ?_); refine with_tabW modillionlaw09_SeqReaches.tab20 modillionlaw09_SeqReaches.bits20 (fun HT_ HW_ => ?_)
                generalize wr.drew = w73 at HO_6 BK254 BK257 HB hx273_0 hx273_1 hx273_2 hHeld ⊢
                refine pure_ (i := 0) (N := some 99) (v := ?_) (a' := ?_) #[Y,Z,Z,Z,Z,Z,Z,Z,Z,Z,Z,Z,Z,Z,Z,Z,Z,Z,Z,Z,Z,Z,Z,Z,Z,Z,Z,Z,Z] rfl rfl (any_of HT_.out (by kernel_rfl)) (fun _ _ _ h => h) (Or.inl ⟨by rfl, ?_⟩) ?_ ?_
                rotate_left
                ·intro w';go_simp;with_reducible rfl
                rotate_left
                ·simp only [Act.put, q1_, q2_, q3_, i64_w, i32_w];rfl
                refine pure_ (i := 1) (N := some 100) (v := ?_) (a' := ?_) #[Y,Y,Z,Z,Z,Z,Z,Z,Z,Z,Z,Z,Z,Z,Z,Z,Z,Z,Z,Z,Z,Z,Z,Z,Z,Z,Z,Z,Z] rfl rfl (any_of HT_.out (by kernel_rfl)) (fun _ _ _ h => h) (Or.inl ⟨by rfl, ?_⟩) ?_ ?_
                rotate_left
                ·intro w';go_simp;with_reducible rfl
                rotate_left
                ·simp only [Act.put, q1_, q2_, q3_, i64_w, i32_w];rfl
                refine pure_ (i := 2) (N := some 101) (v := ?_) (a' := ?_) #[Y,Y,Y,Z,Z,Z,Z,Z,Z,Z,Z,Z,Z,Z,Z,Z,Z,Z,Z,Z,Z,Z,Z,Z,Z,Z,Z,Z,Z] rfl rfl (any_of HT_.out (by kernel_rfl)) (fun _ _ _ h => h) (Or.inl ⟨by rfl, ?_⟩) ?_ ?_
                rotate_left
                ·intro w';go_simp;with_reducible rfl
                rotate_left
                ·simp only [Act.put, q1_, q2_, q3_, i64_w, i32_w];rfl
                refine pure_ (i := 4) (N := some 103) (v := ?_) (a' := ?_) #[Y,Y,Y,Z,Y,Z,Z,Z,Z,Z,Z,Z,Z,Z,Z,Z,Z,Z,Z,Z,Z,Z,Z,Z,Z,Z,Z,Z,Z] rfl rfl (any_of HT_.out (by kernel_rfl)) (fun _ _ _ h => h) (Or.inl ⟨by rfl, ?_⟩) ?_ ?_
                rotate_left
                ·intro w';go_simp;with_reducible rfl
                rotate_left
                ·simp only [Act.put, q1_, q2_, q3_, i64_w, i32_w];rfl
                refine pure_ (i := 8) (N := some 107) (v := ?_) (a' := ?_) #[Y,Y,Y,Z,Y,Z,Z,Z,Y,Z,Z,Z,Z,Z,Z,Z,Z,Z,Z,Z,Z,Z,Z,Z,Z,Z,Z,Z,Z] rfl rfl (any_of HT_.out (by kernel_rfl)) (fun _ _ _ h => h) (Or.inl ⟨by rfl, ?_⟩) ?_ ?_
                rotate_left
                ·intro w';go_simp;with_reducible rfl
                rotate_left
                ·simp only [Act.put, q1_, q2_, q3_, i64_w, i32_w];rfl
                refine take_ (i := 3) (N := some 102) (v := ?_) (a' := ?_) #[Y,Y,Y,Y,Y,Z,Z,Z,Y,Z,Z,Z,Z,Z,Z,Z,Z,Z,Z,Z,Z,Z,Z,Z,Z,Z,Z,Z,Z] rfl rfl (take_ofW HT_.out HW_.out (by kernel_rfl)) (fun _ _ _ h => h) (Or.inl ⟨by rfl, ?_⟩) hHeld ?_ ?_
                rotate_left
                ·rintro w' ⟨s0, s1, s2, s3, s4⟩;go_simp;with_reducible rfl
                rotate_left
                ·simp only [Act.put, q1_, q2_, q3_, i64_w, i32_w];rfl
                refine pure_ (i := 5) (N := some 104) (v := ?_) (a' := ?_) #[Y,Y,Y,Y,Y,Y,Z,Z,Y,Z,Z,Z,Z,Z,Z,Z,Z,Z,Z,Z,Z,Z,Z,Z,Z,Z,Z,Z,Z] rfl rfl (any_of HT_.out (by kernel_rfl)) (fun _ _ _ h => h) (Or.inl ⟨by rfl, ?_⟩) ?_ ?_
                rotate_left
                ·intro w';go_simp;with_reducible rfl
                rotate_left
                ·simp only [Act.put, q1_, q2_, q3_, i64_w, i32_w];rfl
                refine pure_ (i := 6) (N := some 105) (v := ?_) (a' := ?_) #[Y,Y,Y,Y,Y,Y,Y,Z,Y,Z,Z,Z,Z,Z,Z,Z,Z,Z,Z,Z,Z,Z,Z,Z,Z,Z,Z,Z,Z] rfl rfl (any_of HT_.out (by kernel_rfl)) (fun _ _ _ h => h) (Or.inl ⟨by rfl, ?_⟩) ?_ ?_
                rotate_left
                ·intro w';go_simp;with_reducible rfl
                rotate_left
                ·simp only [Act.put, q1_, q2_, q3_, i64_w, i32_w];rfl
                refine take_ (i := 7) (N := some 106) (v := ?_) (a' := ?_) #[Y,Y,Y,Y,Y,Y,Y,Y,Y,Z,Z,Z,Z,Z,Z,Z,Z,Z,Z,Z,Z,Z,Z,Z,Z,Z,Z,Z,Z] rfl rfl (take_ofW HT_.out HW_.out (by kernel_rfl)) (fun _ _ _ h => h) (Or.inl ⟨by rfl, ?_⟩) hHeld ?_ ?_
                rotate_left
                ·rintro w' ⟨s0, s1, s2, s3, s4⟩;go_simp;with_reducible rfl
                rotate_left
                ·simp only [Act.put, q1_, q2_, q3_, i64_w, i32_w];rfl
                refine pure_ (i := 9) (N := some 108) (v := ?_) (a' := ?_) #[Y,Y,Y,Y,Y,Y,Y,Y,Y,Y,Z,Z,Z,Z,Z,Z,Z,Z,Z,Z,Z,Z,Z,Z,Z,Z,Z,Z,Z] rfl rfl (any_of HT_.out (by kernel_rfl)) (fun _ _ _ h => h) (Or.inl ⟨by rfl, ?_⟩) ?_ ?_
                rotate_left
                ·intro w';go_simp;with_reducible rfl
                rotate_left
                ·simp only [Act.put, q1_, q2_, q3_, i64_w, i32_w];rfl
                refine pure_ (i := 10) (N := some 109) (v := ?_) (a' := ?_) #[Y,Y,Y,Y,Y,Y,Y,Y,Y,Y,Y,Z,Z,Z,Z,Z,Z,Z,Z,Z,Z,Z,Z,Z,Z,Z,Z,Z,Z] rfl rfl (any_of HT_.out (by kernel_rfl)) (fun _ _ _ h => h) (Or.inl ⟨by rfl, ?_⟩) ?_ ?_
                rotate_left
                ·intro w';go_simp;with_reducible rfl
                rotate_left
                ·simp only [Act.put, q1_, q2_, q3_, i64_w, i32_w];rfl
                refine pure_ (i := 11) (N := some 110) (v := undef) (a' := ?_) #[Y,Y,Y,Y,Y,Y,Y,Y,Y,Y,Y,Y,Z,Z,Z,Z,Z,Z,Z,Z,Z,Z,Z,Z,Z,Z,Z,Z,Z] rfl rfl (any_of HT_.out (by kernel_rfl)) (fun _ _ _ h => h) (Or.inr ⟨by rfl, rfl⟩) ?_ ?_
                rotate_left
                ·simp only [Act.put, q1_, q2_, q3_, i64_w, i32_w];rfl
                refine pure_ (i := 12) (N := some 111) (v := undef) (a' := ?_) #[Y,Y,Y,Y,Y,Y,Y,Y,Y,Y,Y,Y,Y,Z,Z,Z,Z,Z,Z,Z,Z,Z,Z,Z,Z,Z,Z,Z,Z] rfl rfl (any_of HT_.out (by kernel_rfl)) (fun _ _ _ h => h) (Or.inr ⟨by rfl, rfl⟩) ?_ ?_
                rotate_left
                ·simp only [Act.put, q1_, q2_, q3_, i64_w, i32_w];rfl
                refine pure_ (i := 13) (N := some 112) (v := undef) (a' := ?_) #[Y,Y,Y,Y,Y,Y,Y,Y,Y,Y,Y,Y,Y,Y,Z,Z,Z,Z,Z,Z,Z,Z,Z,Z,Z,Z,Z,Z,Z] rfl rfl (any_of HT_.out (by kernel_rfl)) (fun _ _ _ h => h) (Or.inr ⟨by rfl, rfl⟩) ?_ ?_
                rotate_left
                ·simp only [Act.put, q1_, q2_, q3_, i64_w, i32_w];rfl
                refine pure_ (i := 14) (N := some 113) (v := undef) (a' := ?_) #[Y,Y,Y,Y,Y,Y,Y,Y,Y,Y,Y,Y,Y,Y,Y,Z,Z,Z,Z,Z,Z,Z,Z,Z,Z,Z,Z,Z,Z] rfl rfl (any_of HT_.out (by kernel_rfl)) (fun _ _ _ h => h) (Or.inr ⟨by rfl, rfl⟩) ?_ ?_
                rotate_left
                ·simp only [Act.put, q1_, q2_, q3_, i64_w, i32_w];rfl
                refine pure_ (i := 15) (N := some 114) (v := undef) (a' := ?_) #[Y,Y,Y,Y,Y,Y,Y,Y,Y,Y,Y,Y,Y,Y,Y,Y,Z,Z,Z,Z,Z,Z,Z,Z,Z,Z,Z,Z,Z] rfl rfl (any_of HT_.out (by kernel_rfl)) (fun _ _ _ h => h) (Or.inr ⟨by rfl, rfl⟩) ?_ ?_
                rotate_left
                ·simp only [Act.put, q1_, q2_, q3_, i64_w, i32_w];rfl
                refine pure_ (i := 16) (N := some 115) (v := undef) (a' := ?_) #[Y,Y,Y,Y,Y,Y,Y,Y,Y,Y,Y,Y,Y,Y,Y,Y,Y,Z,Z,Z,Z,Z,Z,Z,Z,Z,Z,Z,Z] rfl rfl (any_of HT_.out (by kernel_rfl)) (fun _ _ _ h => h) (Or.inr ⟨by rfl, rfl⟩) ?_ ?_
                rotate_left
                ·simp only [Act.put, q1_, q2_, q3_, i64_w, i32_w];rfl
                refine pure_ (i := 17) (N := some 116) (v := undef) (a' := ?_) #[Y,Y,Y,Y,Y,Y,Y,Y,Y,Y,Y,Y,Y,Y,Y,Y,Y,Y,Z,Z,Z,Z,Z,Z,Z,Z,Z,Z,Z] rfl rfl (any_of HT_.out (by kernel_rfl)) (fun _ _ _ h => h) (Or.inr ⟨by rfl, rfl⟩) ?_ ?_
                rotate_left
                ·simp only [Act.put, q1_, q2_, q3_, i64_w, i32_w];rfl
                refine pure_ (i := 18) (N := some 117) (v := undef) (a' := ?_) #[Y,Y,Y,Y,Y,Y,Y,Y,Y,Y,Y,Y,Y,Y,Y,Y,Y,Y,Y,Z,Z,Z,Z,Z,Z,Z,Z,Z,Z] rfl rfl (any_of HT_.out (by kernel_rfl)) (fun _ _ _ h => h) (Or.inr ⟨by rfl, rfl⟩) ?_ ?_
                rotate_left
                ·simp only [Act.put, q1_, q2_, q3_, i64_w, i32_w];rfl
                refine pure_ (i := 19) (N := some 118) (v := undef) (a' := ?_) #[Y,Y,Y,Y,Y,Y,Y,Y,Y,Y,Y,Y,Y,Y,Y,Y,Y,Y,Y,Y,Z,Z,Z,Z,Z,Z,Z,Z,Z] rfl rfl (any_of HT_.out (by kernel_rfl)) (fun _ _ _ h => h) (Or.inr ⟨by rfl, rfl⟩) ?_ ?_
                rotate_left
                ·simp only [Act.put, q1_, q2_, q3_, i64_w, i32_w];rfl
                refine pure_ (i := 20) (N := some 119) (v := undef) (a' := ?_) #[Y,Y,Y,Y,Y,Y,Y,Y,Y,Y,Y,Y,Y,Y,Y,Y,Y,Y,Y,Y,Y,Z,Z,Z,Z,Z,Z,Z,Z] rfl rfl (any_of HT_.out (by kernel_rfl)) (fun _ _ _ h => h) (Or.inr ⟨by rfl, rfl⟩) ?_ ?_
                rotate_left
                ·simp only [Act.put, q1_, q2_, q3_, i64_w, i32_w];rfl
                refine pure_ (i := 21) (N := some 120) (v := undef) (a' := ?_) #[Y,Y,Y,Y,Y,Y,Y,Y,Y,Y,Y,Y,Y,Y,Y,Y,Y,Y,Y,Y,Y,Y,Z,Z,Z,Z,Z,Z,Z] rfl rfl (any_of HT_.out (by kernel_rfl)) (fun _ _ _ h => h) (Or.inr ⟨by rfl, rfl⟩) ?_ ?_
                rotate_left
                ·simp only [Act.put, q1_, q2_, q3_, i64_w, i32_w];rfl
                refine pure_ (i := 22) (N := some 121) (v := undef) (a' := ?_) #[Y,Y,Y,Y,Y,Y,Y,Y,Y,Y,Y,Y,Y,Y,Y,Y,Y,Y,Y,Y,Y,Y,Y,Z,Z,Z,Z,Z,Z] rfl rfl (any_of HT_.out (by kernel_rfl)) (fun _ _ _ h => h) (Or.inr ⟨by rfl, rfl⟩) ?_ ?_
                rotate_left
                ·simp only [Act.put, q1_, q2_, q3_, i64_w, i32_w];rfl
                refine pure_ (i := 23) (N := some 122) (v := undef) (a' := ?_) #[Y,Y,Y,Y,Y,Y,Y,Y,Y,Y,Y,Y,Y,Y,Y,Y,Y,Y,Y,Y,Y,Y,Y,Y,Z,Z,Z,Z,Z] rfl rfl (any_of HT_.out (by kernel_rfl)) (fun _ _ _ h => h) (Or.inr ⟨by rfl, rfl⟩) ?_ ?_
                rotate_left
                ·simp only [Act.put, q1_, q2_, q3_, i64_w, i32_w];rfl
                refine pure_ (i := 24) (N := some 123) (v := undef) (a' := ?_) #[Y,Y,Y,Y,Y,Y,Y,Y,Y,Y,Y,Y,Y,Y,Y,Y,Y,Y,Y,Y,Y,Y,Y,Y,Y,Z,Z,Z,Z] rfl rfl (any_of HT_.out (by kernel_rfl)) (fun _ _ _ h => h) (Or.inr ⟨by rfl, rfl⟩) ?_ ?_
                rotate_left
                ·simp only [Act.put, q1_, q2_, q3_, i64_w, i32_w];rfl
                refine pure_ (i := 25) (N := some 124) (v := undef) (a' := ?_) #[Y,Y,Y,Y,Y,Y,Y,Y,Y,Y,Y,Y,Y,Y,Y,Y,Y,Y,Y,Y,Y,Y,Y,Y,Y,Y,Z,Z,Z] rfl rfl (any_of HT_.out (by kernel_rfl)) (fun _ _ _ h => h) (Or.inr ⟨by rfl, rfl⟩) ?_ ?_
                rotate_left
                ·simp only [Act.put, q1_, q2_, q3_, i64_w, i32_w];rfl
                refine pure_ (i := 26) (N := some 125) (v := ?_) (a' := ?_) #[Y,Y,Y,Y,Y,Y,Y,Y,Y,Y,Y,Y,Y,Y,Y,Y,Y,Y,Y,Y,Y,Y,Y,Y,Y,Y,Y,Z,Z] rfl rfl (any_of HT_.out (by kernel_rfl)) (fun _ _ _ h => h) (Or.inl ⟨by rfl, ?_⟩) ?_ ?_
                rotate_left
                ·intro w';go_simp;with_reducible rfl
                rotate_left
                ·simp only [Act.put, q1_, q2_, q3_, i64_w, i32_w];rfl
                refine pure_ (i := 27) (N := some 126) (v := ?_) (a' := ?_) #[Y,Y,Y,Y,Y,Y,Y,Y,Y,Y,Y,Y,Y,Y,Y,Y,Y,Y,Y,Y,Y,Y,Y,Y,Y,Y,Y,Y,Z] rfl rfl (any_of HT_.out (by kernel_rfl)) (fun _ _ _ h => h) (Or.inl ⟨by rfl, ?_⟩) ?_ ?_
                rotate_left
                ·intro w';go_simp;with_reducible rfl
                rotate_left
                ·simp only [Act.put, q1_, q2_, q3_, i64_w, i32_w];rfl
                refine pure_ (i := 28) (N := some 13) (v := ?_) (a' := ?_) #[Y,Y,Y,Y,Y,Y,Y,Y,Y,Y,Y,Y,Y,Y,Y,Y,Y,Y,Y,Y,Y,Y,Y,Y,Y,Y,Y,Y,Y] rfl rfl (any_of HT_.out (by kernel_rfl)) (fun _ _ _ h => h) (Or.inl ⟨by rfl, ?_⟩) ?_ ?_
                rotate_left
                ·intro w';go_simp;with_reducible rfl
                rotate_left
                ·simp only [Act.put, q1_, q2_, q3_, i64_w, i32_w];rfl
                refine done_ (done_of HT_.out (by kernel_rfl)) ?_
                try go_wp2
                go_roundg k4
                case measure => have := HJ2.out; have := HK2.out; have := HK3.out; have := HK4.out; omega
                case rel => exact ⟨(false), (wrap64 (x14_4 + 1)), (by first | rfl | (simp; done) | (simp [*]; done)), (by first | rfl | (simp; done) | (simp [*]; done)), H', ⟨by have := HJ2.out; have := HK2.out; have := HK3.out; have := HK4.out; omega⟩, ⟨by (with_reducible repeat (first | apply Kd.R_alloc | apply Kd.R_drewN | apply Kd.R_drew)); exact HO_6.out⟩, ⟨by (with_reducible repeat (first | refine blk_drewN ?_ _ | refine blk_drew ?_ | refine blk_alloc ?_ _)); exact BK254.out⟩, ⟨by (with_reducible repeat (first | refine blk_drewN ?_ _ | refine blk_drew ?_ | refine blk_alloc ?_ _)); exact BK257.out⟩, ⟨by repeat (first | (with_reducible first | exact HB.out | apply below_alloc | apply pw_below_drewN | apply below_drew1 | refine below_set ?_ GE254.out | refine below_set ?_ GE257.out) | exact HB.out)⟩⟩
             ·rw [if_neg c57] at H
              have c57b0 := decide_eq_false c57
              clear c57
              by_cases c74 : x13_4 = true
              ·subst c74
               have H1 : (if 0 ≤ x12_3 then (if x12_3 < (t262.length : Int) then (if (rd t262 x12_3) = 0 then (if x12_3 = a1 then (modillionlaw09_SeqReaches.l1 k4 a1 t262 (wrap64 (x12_3 + 1)) a0_0 l0_1) else (some false)) else (modillionlaw09_SeqReaches.l1 k4 a1 t262 (wrap64 (x12_3 + 1)) a0_0 l0_1)) else (none)) else (none)) = some r := by rw [if_pos rfl] at H; exact H
               clear H
               have H := H1
               clear H1
               obtain ⟨c75, H⟩ := iteS13 H
               have c75b0 := decide_eq_true c75
               clear c75
               obtain ⟨c76, H⟩ := iteS13 H
               have c76b0 := decide_eq_true c76
               clear c76
               by_cases c77 : (rd t262 x12_3) = 0
               ·rw [if_pos c77] at H
                have c77b0 : ((rd t262 x12_3) == 0) = true := beq_iff_eq.mpr c77
                have c77b1 : ((rd t262 x12_3) != 0) = false := bne_eq_false_iff_eq.mpr c77
                clear c77
                by_cases c78 : x12_3 = a1
                ·rw [if_pos c78] at H
                 have c78b0 : (x12_3 == a1) = true := beq_iff_eq.mpr c78
                 have c78b1 : (x12_3 != a1) = false := bne_eq_false_iff_eq.mpr c78
                 clear c78
                 have H' := Aside0.mk H
                 clear H
                 have hnb79 := NB254_257.out
                 have hnc79 := NB257_254.out
                 have hcz80_0 : wr.cell? ⟨gb254, 0, none⟩ = some (.int .i64 a0_0) := (blk_cell BK254.out 0).trans rfl
                 have hcz80_1 : wr.cell? ⟨gb254, 1, none⟩ = some (.slice A0_1 l0_1.length c0_1) := (blk_cell BK254.out 1).trans rfl
                 have hfz80_0 := blk_frozen BK254.out 0
                 have hfz80_1 := blk_frozen BK254.out 1
                 have p277 : 0 ≤ (x12_3 : Int) := of_decide_eq_true (by first | (with_reducible assumption) | assumption)
                 have q277 : x12_3 < (t262.length : Int) := of_decide_eq_true (by first | (with_reducible assumption) | assumption)
                 obtain ⟨ad277, e277, hx277_0⟩ := Kd.at_int (Kd.R_reads' HO_6.out).2.2 x12_3 p277 q277
                 obtain rfl : ad272 = ad277 := (by injection e277)
                 replace p277 := eq_true p277
                 replace q277 := eq_true q277
                 go_wp2
                 go_roundg k4
                 case measure => have := HJ2.out; have := HK2.out; have := HK3.out; have := HK4.out; omega
                 case rel => exact ⟨(wrap64 (x12_3 + 1)), (by first | rfl | (simp; done) | (simp [*]; done)), H', ⟨by have := HJ2.out; have := HK2.out; have := HK3.out; have := HK4.out; omega⟩, ⟨by (with_reducible repeat (first | apply Kd.R_alloc | apply Kd.R_drewN | apply Kd.R_drew)); exact HO_6.out⟩, ⟨by (with_reducible repeat (first | refine blk_drewN ?_ _ | refine blk_drew ?_ | refine blk_alloc ?_ _)); exact BK254.out⟩, ⟨by (with_reducible repeat (first | refine blk_drewN ?_ _ | refine blk_drew ?_ | refine blk_alloc ?_ _)); exact BK257.out⟩, ⟨by repeat (first | (with_reducible first | exact HB.out | apply below_alloc | apply pw_below_drewN | apply below_drew1 | refine below_set ?_ GE254.out | refine below_set ?_ GE257.out) | exact HB.out)⟩⟩
                ·rw [if_neg c78] at H
                 have c78b0 : (x12_3 == a1) = false := beq_eq_false_iff_ne.mpr c78
                 have c78b1 : (x12_3 != a1) = true := bne_iff_ne.mpr c78
                 obtain rfl := Option.some.inj H
                 have hnb81 := NB254_257.out
                 have hnc81 := NB257_254.out
                 have hcz82_0 : wr.cell? ⟨gb254, 0, none⟩ = some (.int .i64 a0_0) := (blk_cell BK254.out 0).trans rfl
                 have hcz82_1 : wr.cell? ⟨gb254, 1, none⟩ = some (.slice A0_1 l0_1.length c0_1) := (blk_cell BK254.out 1).trans rfl
                 have hfz82_0 := blk_frozen BK254.out 0
                 have hfz82_1 := blk_frozen BK254.out 1
                 have p277 : 0 ≤ (x12_3 : Int) := of_decide_eq_true (by first | (with_reducible assumption) | assumption)
                 have q277 : x12_3 < (t262.length : Int) := of_decide_eq_true (by first | (with_reducible assumption) | assumption)
                 obtain ⟨ad277, e277, hx277_0⟩ := Kd.at_int (Kd.R_reads' HO_6.out).2.2 x12_3 p277 q277
                 obtain rfl : ad272 = ad277 := (by injection e277)
                 replace p277 := eq_true p277
                 replace q277 := eq_true q277
                 go_wp2
                 go_ret
                 exact ⟨by first | rfl | (simp [errW_none, errW_some] <;> rfl) | (simp [*, errW_none, errW_some] <;> rfl), by repeat (first | (with_reducible first | exact HB.out | apply below_alloc | apply pw_below_drewN | apply below_drew1 | refine below_set ?_ GE254.out | refine below_set ?_ GE257.out) | exact HB.out)⟩
               ·rw [if_neg c77] at H
                have c77b0 : ((rd t262 x12_3) == 0) = false := beq_eq_false_iff_ne.mpr c77
                have c77b1 : ((rd t262 x12_3) != 0) = true := bne_iff_ne.mpr c77
                have H' := Aside0.mk H
                clear H
                have hnb83 := NB254_257.out
                have hnc83 := NB257_254.out
                have hcz84_0 : wr.cell? ⟨gb254, 0, none⟩ = some (.int .i64 a0_0) := (blk_cell BK254.out 0).trans rfl
                have hcz84_1 : wr.cell? ⟨gb254, 1, none⟩ = some (.slice A0_1 l0_1.length c0_1) := (blk_cell BK254.out 1).trans rfl
                have hfz84_0 := blk_frozen BK254.out 0
                have hfz84_1 := blk_frozen BK254.out 1
                have p277 : 0 ≤ (x12_3 : Int) := of_decide_eq_true (by first | (with_reducible assumption) | assumption)
                have q277 : x12_3 < (t262.length : Int) := of_decide_eq_true (by first | (with_reducible assumption) | assumption)
                obtain ⟨ad277, e277, hx277_0⟩ := Kd.at_int (Kd.R_reads' HO_6.out).2.2 x12_3 p277 q277
                obtain rfl : ad272 = ad277 := (by injection e277)
                replace p277 := eq_true p277
                replace q277 := eq_true q277
                go_wp2
                go_roundg k4
                case measure => have := HJ2.out; have := HK2.out; have := HK3.out; have := HK4.out; omega
                case rel => exact ⟨(wrap64 (x12_3 + 1)), (by first | rfl | (simp; done) | (simp [*]; done)), H', ⟨by have := HJ2.out; have := HK2.out; have := HK3.out; have := HK4.out; omega⟩, ⟨by (with_reducible repeat (first | apply Kd.R_alloc | apply Kd.R_drewN | apply Kd.R_drew)); exact HO_6.out⟩, ⟨by (with_reducible repeat (first | refine blk_drewN ?_ _ | refine blk_drew ?_ | refine blk_alloc ?_ _)); exact BK254.out⟩, ⟨by (with_reducible repeat (first | refine blk_drewN ?_ _ | refine blk_drew ?_ | refine blk_alloc ?_ _)); exact BK257.out⟩, ⟨by repeat (first | (with_reducible first | exact HB.out | apply below_alloc | apply pw_below_drewN | apply below_drew1 | refine below_set ?_ GE254.out | refine below_set ?_ GE257.out) | exact HB.out)⟩⟩
              ·replace c74 := Bool.eq_false_iff.mpr c74
               subst c74
               have H1 : (some false) = some r := by rw [if_neg (show ¬ (false = true) by decide)] at H; exact H
               clear H
               have H := H1
               clear H1
               obtain rfl := Option.some.inj H
               have hnb85 := NB254_257.out
               have hnc85 := NB257_254.out
               have hcz86_0 : wr.cell? ⟨gb254, 0, none⟩ = some (.int .i64 a0_0) := (blk_cell BK254.out 0).trans rfl
               have hcz86_1 : wr.cell? ⟨gb254, 1, none⟩ = some (.slice A0_1 l0_1.length c0_1) := (blk_cell BK254.out 1).trans rfl
               have hfz86_0 := blk_frozen BK254.out 0
               have hfz86_1 := blk_frozen BK254.out 1
               go_wp2
               go_ret
               exact ⟨by first | rfl | (simp [errW_none, errW_some] <;> rfl) | (simp [*, errW_none, errW_some] <;> rfl), by repeat (first | (with_reducible first | exact HB.out | apply below_alloc | apply pw_below_drewN | apply below_drew1 | refine below_set ?_ GE254.out | refine below_set ?_ GE257.out) | exact HB.out)⟩
          ·rw [if_neg c54] at H
           have c54b0 := decide_eq_false c54
           clear c54
           obtain ⟨c87, H⟩ := iteS13 H
           have c87b0 := decide_eq_true c87
           clear c87
           obtain ⟨c88, H⟩ := iteS13 H
           have c88b0 := decide_eq_true c88
           clear c88
           obtain rfl := Option.some.inj H
           obtain ⟨Ao89, co89, eo89⟩ := Kd.R_slice HO_6.out
           subst eo89
           have p271 : 0 ≤ (a1 : Int) := of_decide_eq_true (by first | (with_reducible assumption) | assumption)
           have q271 : a1 < (t262.length : Int) := of_decide_eq_true (by first | (with_reducible assumption) | assumption)
           obtain ⟨ad271, e271, hx271_0⟩ := Kd.at_int (Kd.R_reads' HO_6.out).2.2 a1 p271 q271
           cases e271
           replace p271 := eq_true p271
           replace q271 := eq_true q271
           go_wp2
           go_ret
           exact ⟨by first | rfl | (simp [errW_none, errW_some] <;> rfl) | (simp [*, errW_none, errW_some] <;> rfl), by repeat (first | (with_reducible first | exact HB.out | apply below_alloc | apply pw_below_drewN | apply below_drew1 | refine below_set ?_ GE254.out | refine below_set ?_ GE257.out) | exact HB.out)⟩
    ·rw [if_neg c18] at H
     have c18b0 : (t266 == 0) = false := beq_eq_false_iff_ne.mpr c18
     have c18b1 : (t266 != 0) = true := bne_iff_ne.mpr c18
     obtain rfl := Option.some.inj H
     obtain ⟨Ao98, co98, eo98⟩ := Kd.R_slice HO264.out
     subst eo98
     try go_wp2
     go_ret
     exact ⟨by first | rfl | (simp [errW_none, errW_some] <;> rfl) | (simp [*, errW_none, errW_some] <;> rfl), by repeat (first | (with_reducible first | exact HB.out | apply below_alloc | apply pw_below_drewN | apply below_drew1 | refine below_set ?_ GE254.out | refine below_set ?_ GE257.out) | exact HB.out)⟩

end Go.Proofs.Ytpndhkeoljoapaa.P
