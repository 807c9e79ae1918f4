/- What these Go functions compute, as Lean functions, and that they do. No condition. -/
import Derived.Test.YtdmihkffjbapjaaPx0
import Derived.Test.YtdmihkffjbapjaaPx1
import Derived.Test.YtdmihkffjbapjaaPx4
import Derived.Test.YtdmihkffjbapjaaPx6
import Derived.Test.YtdmihkffjbapjaaPx7
import Derived.Test.YtdmihkffjbapjaaPx9
import Derived.Test.YtdmihkffjbapjaaPx11
import Derived.Test.YtdmihkffjbapjaaPx14
namespace Go.Proofs.Ytdmihkffjbapjaa.P
open Go.RowKit Go.Proofs.YtdmihkffjbapjaaW.PrintWords Go.Proofs.YtdmihkffjbapjaaW.PrintLast Go.Proofs.YtdmihkffjbapjaaW.PrintMore
open Bool renaming true → Y, false → Z
open List renaming setIfInBounds_toArray → q1_, set_cons_zero → q2_, set_cons_succ → q3_
attribute [local go_sem] max2_int min2_int max_two min_two max_three min_three max_four min_four   -- for this text's walks alone
set_option linter.unusedVariables false
set_option linter.unusedSimpArgs false
set_option linter.unnecessarySimpa false

attribute [local go_sem high] eqA28
/-! ### modillionlaw07_ProgSteps: function 3 -/
mutual
def modillionlaw07_ProgSteps.j0 : Nat → Int → Bool → Int → List (S46) → ByteArray → Int → Int → Int → Int → Bool → Bool → Int → Option (Bool)
 | 0, _, _, _, _, _, _, _, _, _, _, _, _ => none
 | k + 1, x2, x23, x183000, x183001, x184000, x184001, x184002, x185000, x185001, x185002, x185003, x185004 => if x23 = true then ((modillionlaw07_awake.f k).bind fun t186 => (some t186)) else ((modillionref07_Right.f k x183000 x183001 x184000 x184001 x184002).bind fun t187 => (if t187 = true then (modillionlaw07_ProgSteps.j1 k x2 0 x183000 x183001 x184000 x184001 x184002 x185000 x185001 x185002 x185003 x185004) else (modillionlaw07_ProgSteps.j1 k x2 70 x183000 x183001 x184000 x184001 x184002 x185000 x185001 x185002 x185003 x185004)))
def modillionlaw07_ProgSteps.j1 : Nat → Int → Int → Int → List (S46) → ByteArray → Int → Int → Int → Int → Bool → Bool → Int → Option (Bool)
 | 0, _, _, _, _, _, _, _, _, _, _, _, _ => none
 | k + 1, x2, x9, x183000, x183001, x184000, x184001, x184002, x185000, x185001, x185002, x185003, x185004 => (modillionlaw07_own.f x183000 x183001).bind fun bt188 => ((prog_Step.f bt188.1 bt188.2 x184000 x184001 x184002 x2 x185000 x185001 x185002 x185003 x185004).bind fun bt192 => ((modillionref07_Step.f k x183000 x183001 x184000 x184001 x184002 x2 x185000 x185001 x185002 x185003 x185004).bind fun bt202 => ((modillionlaw07_own.f x183000 x183001).bind fun bt212 => ((prog_Check.f k bt212.1 bt212.2 x184000 x184001 x184002).bind fun t216 => (if t216 = x9 then (if (bt192.1 == bt202.1 && (bt192.2.1 == bt202.2.1 && (bt192.2.2.1 == bt202.2.2.1 && (bt192.2.2.2.1 == bt202.2.2.2.1 && (bt192.2.2.2.2.1 == bt202.2.2.2.2.1))))) = true then ((modillionref07_Same.f k bt192.2.2.2.2.2.1 bt202.2.2.2.2.2.1).bind fun t217 => (if t217 = true then (some (bt192.2.2.2.2.2.2 == bt202.2.2.2.2.2.2)) else (some false))) else (some false)) else (some false))))))
end
def modillionlaw07_ProgSteps.f (k : Nat) (a0_0 : Int) (l0_1 : List (S46)) (a1_0 : ByteArray) (a1_1 : Int) (a1_2 : Int) (a2 : Int) (a3_0 : Int) (a3_1 : Int) (a3_2 : Bool) (a3_3 : Bool) (a3_4 : Int) : Option (Bool) := (modillionlaw07_awake.f k).bind fun t185 => (if t185 = true then (modillionlaw07_ProgSteps.j0 k a2 (decide ((l0_1.length : Int) > 100)) a0_0 l0_1 a1_0 a1_1 a1_2 a3_0 a3_1 a3_2 a3_3 a3_4) else (modillionlaw07_ProgSteps.j0 k a2 true a0_0 l0_1 a1_0 a1_1 a1_2 a3_0 a3_1 a3_2 a3_3 a3_4))
theorem modillionlaw07_ProgSteps.mono_l : ∀ k, (∀ y0 y1 y2 y3 y4 y5 y6 y7 y8 y9 y10 y11, LeO (modillionlaw07_ProgSteps.j0 k y0 y1 y2 y3 y4 y5 y6 y7 y8 y9 y10 y11) (modillionlaw07_ProgSteps.j0 (k + 1) y0 y1 y2 y3 y4 y5 y6 y7 y8 y9 y10 y11)) ∧ (∀ y0 y1 y2 y3 y4 y5 y6 y7 y8 y9 y10 y11, LeO (modillionlaw07_ProgSteps.j1 k y0 y1 y2 y3 y4 y5 y6 y7 y8 y9 y10 y11) (modillionlaw07_ProgSteps.j1 (k + 1) y0 y1 y2 y3 y4 y5 y6 y7 y8 y9 y10 y11))
 | 0 => ⟨fun _ _ _ _ _ _ _ _ _ _ _ _ r h => by simp [modillionlaw07_ProgSteps.j0] at h, fun _ _ _ _ _ _ _ _ _ _ _ _ r h => by simp [modillionlaw07_ProgSteps.j1] at h⟩
 | k + 1 => by
  obtain ⟨ih0, ih1⟩ := modillionlaw07_ProgSteps.mono_l k
  refine ⟨?_, ?_⟩
  ·intro y0 y1 y2 y3 y4 y5 y6 y7 y8 y9 y10 y11
   unfold modillionlaw07_ProgSteps.j0
   repeat' first
   | (with_reducible exact ih0 _ _ _ _ _ _ _ _ _ _ _ _)
   | (with_reducible exact ih1 _ _ _ _ _ _ _ _ _ _ _ _)
   | (with_reducible exact modillionlaw07_awake.mono _)
   | (with_reducible exact modillionref07_Right.mono _ _ _ _ _ _)
   | (with_reducible exact modillionref07_Same.mono _ _ _)
   | (with_reducible exact modillionref07_Step.mono _ _ _ _ _ _ _ _ _ _ _ _)
   | (with_reducible exact prog_Check.mono _ _ _ _ _ _)
   | (with_reducible exact LeO.refl _)
   | (with_reducible exact LeO.none _)
   | (with_reducible refine LeO.ite ?_ ?_)
   | (with_reducible refine LeO.bind ?_ (fun _ => ?_))
   | exact ih0 _ _ _ _ _ _ _ _ _ _ _ _
   | exact ih1 _ _ _ _ _ _ _ _ _ _ _ _
   | exact modillionlaw07_awake.mono _
   | exact modillionref07_Right.mono _ _ _ _ _ _
   | exact modillionref07_Same.mono _ _ _
   | exact modillionref07_Step.mono _ _ _ _ _ _ _ _ _ _ _ _
   | exact prog_Check.mono _ _ _ _ _ _
   | exact LeO.none _
   | refine LeO.ite ?_ ?_
   | refine LeO.bind ?_ (fun _ => ?_)
  ·intro y0 y1 y2 y3 y4 y5 y6 y7 y8 y9 y10 y11
   unfold modillionlaw07_ProgSteps.j1
   repeat' first
   | (with_reducible exact ih0 _ _ _ _ _ _ _ _ _ _ _ _)
   | (with_reducible exact ih1 _ _ _ _ _ _ _ _ _ _ _ _)
   | (with_reducible exact modillionlaw07_awake.mono _)
   | (with_reducible exact modillionref07_Right.mono _ _ _ _ _ _)
   | (with_reducible exact modillionref07_Same.mono _ _ _)
   | (with_reducible exact modillionref07_Step.mono _ _ _ _ _ _ _ _ _ _ _ _)
   | (with_reducible exact prog_Check.mono _ _ _ _ _ _)
   | (with_reducible exact LeO.refl _)
   | (with_reducible exact LeO.none _)
   | (with_reducible refine LeO.ite ?_ ?_)
   | (with_reducible refine LeO.bind ?_ (fun _ => ?_))
   | exact ih0 _ _ _ _ _ _ _ _ _ _ _ _
   | exact ih1 _ _ _ _ _ _ _ _ _ _ _ _
   | exact modillionlaw07_awake.mono _
   | exact modillionref07_Right.mono _ _ _ _ _ _
   | exact modillionref07_Same.mono _ _ _
   | exact modillionref07_Step.mono _ _ _ _ _ _ _ _ _ _ _ _
   | exact prog_Check.mono _ _ _ _ _ _
   | exact LeO.none _
   | refine LeO.ite ?_ ?_
   | refine LeO.bind ?_ (fun _ => ?_)
theorem modillionlaw07_ProgSteps.mono : ∀ a0 a1 a2 a3 a4 a5 a6 a7 a8 a9 a10 k, LeO (modillionlaw07_ProgSteps.f k a0 a1 a2 a3 a4 a5 a6 a7 a8 a9 a10) (modillionlaw07_ProgSteps.f (k + 1) a0 a1 a2 a3 a4 a5 a6 a7 a8 a9 a10) := by
 intro a0 a1 a2 a3 a4 a5 a6 a7 a8 a9 a10 k
 obtain ⟨ih0, ih1⟩ := modillionlaw07_ProgSteps.mono_l k
 unfold modillionlaw07_ProgSteps.f
 repeat' first
   | (with_reducible exact ih0 _ _ _ _ _ _ _ _ _ _ _ _)
   | (with_reducible exact ih1 _ _ _ _ _ _ _ _ _ _ _ _)
   | (with_reducible exact modillionlaw07_awake.mono _)
   | (with_reducible exact modillionref07_Right.mono _ _ _ _ _ _)
   | (with_reducible exact modillionref07_Same.mono _ _ _)
   | (with_reducible exact modillionref07_Step.mono _ _ _ _ _ _ _ _ _ _ _ _)
   | (with_reducible exact prog_Check.mono _ _ _ _ _ _)
   | (with_reducible exact LeO.refl _)
   | (with_reducible exact LeO.none _)
   | (with_reducible refine LeO.ite ?_ ?_)
   | (with_reducible refine LeO.bind ?_ (fun _ => ?_))
   | exact ih0 _ _ _ _ _ _ _ _ _ _ _ _
   | exact ih1 _ _ _ _ _ _ _ _ _ _ _ _
   | exact modillionlaw07_awake.mono _
   | exact modillionref07_Right.mono _ _ _ _ _ _
   | exact modillionref07_Same.mono _ _ _
   | exact modillionref07_Step.mono _ _ _ _ _ _ _ _ _ _ _ _
   | exact prog_Check.mono _ _ _ _ _ _
   | exact LeO.none _
   | refine LeO.ite ?_ ?_
   | refine LeO.bind ?_ (fun _ => ?_)
def modillionlaw07_ProgSteps.T6 : Bool × List (List Nat × List Nat) := (true, [([], []), ([0], [0]), ([], []), ([], []), ([], []), ([1, 2, 3, 4, 1], [1, 2, 3, 4]), ([5], [5]), ([6], [6]), ([6], [6]), ([6], [6]), ([], []), ([10, 7, 5, 0, 1, 2, 3, 4, 5, 6, 7, 10], [7, 10]), ([8, 11, 0, 1, 2, 3, 4, 5, 6, 7, 8, 10, 11], [8]), ([9, 12, 0, 1, 2, 3, 4, 5, 6, 7, 8, 9, 10, 11, 12], [9])])
def modillionlaw07_ProgSteps.B6 : List Nat := [0, 1, 0, 0, 0, 31, 63, 127, 127, 127, 0, 1279, 3583, 8191]
theorem modillionlaw07_ProgSteps.tab6 : rtab .any (opsOf Try.f3 6) = modillionlaw07_ProgSteps.T6 := by kernel_rfl
theorem modillionlaw07_ProgSteps.bits6 : waitsOk modillionlaw07_ProgSteps.T6.2 modillionlaw07_ProgSteps.B6 = true := by kernel_rfl
def modillionlaw07_ProgSteps.T8 : Bool × List (List Nat × List Nat) := (true, [([], []), ([0], [0]), ([], []), ([1, 2, 1], [1, 2]), ([], []), ([3, 4], [3, 4]), ([5, 3], [5]), ([6], [6]), ([6], [6]), ([7, 8, 6], [6, 7, 8]), ([6, 9], [6, 9]), ([10, 6], [10]), ([11], [11]), ([11], [11]), ([12, 13, 11, 11], [11, 12, 13]), ([11, 14], [11, 14]), ([15, 14], [15]), ([16], [16]), ([16], [16]), ([17, 18, 16], [16, 17, 18]), ([16, 19], [16, 19]), ([20, 16, 0, 1, 2, 3, 4, 5, 6, 7, 8, 9, 10, 11, 12, 13, 14, 15, 16, 17, 18, 19, 20], [20])])
def modillionlaw07_ProgSteps.B8 : List Nat := [0, 1, 0, 7, 0, 31, 63, 127, 127, 511, 1023, 2047, 4095, 4095, 16383, 32767, 65535, 131071, 131071, 524287, 1048575, 2097151]
theorem modillionlaw07_ProgSteps.tab8 : rtab .any (opsOf Try.f3 8) = modillionlaw07_ProgSteps.T8 := by kernel_rfl
theorem modillionlaw07_ProgSteps.bits8 : waitsOk modillionlaw07_ProgSteps.T8.2 modillionlaw07_ProgSteps.B8 = true := by kernel_rfl
set_option maxHeartbeats 8000000 in
set_option maxRecDepth 100000 in
theorem modillionlaw07_ProgSteps.calls (k : Nat) (a0_0 : Int) (A0_1 : Option Addr) (c0_1 : Nat) (l0_1 : List (S46)) (a1_0 : ByteArray) (a1_1 : Int) (a1_2 : Int) (a2 : Int) (a3_0 : Int) (a3_1 : Int) (a3_2 : Bool) (a3_3 : Bool) (a3_4 : Int) (r : Bool) (w : World) (hr0_1 : Kd.C k46 w A0_1 l0_1.length l0_1) (hc0_1 : l0_1.length ≤ c0_1) (h : modillionlaw07_ProgSteps.f k a0_0 l0_1 a1_0 a1_1 a1_2 a2 a3_0 a3_1 a3_2 a3_3 a3_4 = some r) :
  Calls Try.prog 3 #[.agg #[.int .i64 a0_0, .slice A0_1 l0_1.length c0_1], .agg #[.string a1_0, .int .i64 a1_1, .int .i64 a1_2], .int .i64 a2, .agg #[.int .i64 a3_0, .int .i64 a3_1, .bool a3_2, .bool a3_3, .int .i64 a3_4]] w fun e w' => e = .returned (.bool r) ∧ Below w.heap.size w w' := by
 have hu24 := Try.underlying24
 have hu26 := Try.underlying26
 have hu28 := Try.underlying28
 have HR0_1 := Aside0.mk hr0_1
 have HC0_1 := Aside0.mk hc0_1
 clear hr0_1 hc0_1
 have HB := Aside0.mk (Below.refl w.heap.size w)
 have H : ((modillionlaw07_awake.f k).bind fun t185 => (if t185 = true then (modillionlaw07_ProgSteps.j0 k a2 (decide ((l0_1.length : Int) > 100)) a0_0 l0_1 a1_0 a1_1 a1_2 a3_0 a3_1 a3_2 a3_3 a3_4) else (modillionlaw07_ProgSteps.j0 k a2 true a0_0 l0_1 a1_0 a1_1 a1_2 a3_0 a3_1 a3_2 a3_3 a3_4))) = some r := h
 clear h
 have HC5 := Aside0.mk H
 clear H
 go_enter Try.func3, Try.ntmps3
 go_upto_region 1 with (first | ((with_reducible refine gate_dst (N := 4) rfl ?_); (try (refine gate_guard (by rfl) ?_; dsimp only)); refine box_event ?hg (N := 4) ?hd (cs := #[.int .i64 a0_0, .slice A0_1 l0_1.length c0_1]) (t := 24) ?hr ?_; (case hd => rfl); (case hg => rfl); (case hr => first | (go_simp; done) | (go_simp; rfl)); intro gb182 hg w6 hbox hb; have n0_ := Aside0.mk (below_step (kB HB.out) hb); have n1_ := Aside0.mk (hbox); have n2_ := Aside0.mk ((by rw [hg]; exact (below_size (kB HB.out)) : w.heap.size ≤ gb182)); have n3_ := Aside0.mk ((by rw [hg]; exact (below_size (kB HB.out)) : w.heap.size ≤ gb182)); clear HB; have HB := n0_; have BK182 := n1_; have GW182 := n2_; have GE182 := n3_; clear n0_ n1_ n2_ n3_; clear hb hbox hg) | ((with_reducible refine gate_dst (N := 5) rfl ?_); (try (refine gate_guard (by rfl) ?_; dsimp only)); refine box_event ?hg (N := 5) ?hd (cs := #[.string a1_0, .int .i64 a1_1, .int .i64 a1_2]) (t := 26) ?hr ?_; (case hd => rfl); (case hg => rfl); (case hr => first | (go_simp; done) | (go_simp; rfl)); intro gb183 hg w7 hbox hb; have n0_ := Aside0.mk (blk_below (g := gb182) (o := .cells #[.int .i64 a0_0, .slice A0_1 l0_1.length c0_1] 24 (0, 0)) (kA BK182.out) hb); have n1_ := Aside0.mk (below_step (kB HB.out) hb); have n2_ := Aside0.mk (hbox); have n3_ := Aside0.mk ((by rw [hg]; exact (below_size (kB HB.out)) : w.heap.size ≤ gb183)); have n4_ := Aside0.mk ((by rw [hg]; exact (below_size (kB HB.out)) : w.heap.size ≤ gb183)); have n5_ := Aside0.mk ((by rw [hg]; exact Nat.ne_of_lt (blk_lt (g := gb182) (o := .cells #[.int .i64 a0_0, .slice A0_1 l0_1.length c0_1] 24 (0, 0)) (kA BK182.out)) : gb182 ≠ gb183)); have n6_ := Aside0.mk ((by rw [hg]; exact Nat.ne_of_gt (blk_lt (g := gb182) (o := .cells #[.int .i64 a0_0, .slice A0_1 l0_1.length c0_1] 24 (0, 0)) (kA BK182.out)) : gb183 ≠ gb182)); clear BK182; clear HB; have BK182 := n0_; have HB := n1_; have BK183 := n2_; have GW183 := n3_; have GE183 := n4_; have NB182_183 := n5_; have NB183_182 := n6_; clear n0_ n1_ n2_ n3_ n4_ n5_ n6_; clear hb hbox hg) | ((with_reducible refine gate_dst (N := 7) rfl ?_); (try (refine gate_guard (by rfl) ?_; dsimp only)); refine box_event ?hg (N := 7) ?hd (cs := #[.int .i64 a3_0, .int .i64 a3_1, .bool a3_2, .bool a3_3, .int .i64 a3_4]) (t := 28) ?hr ?_; (case hd => rfl); (case hg => rfl); (case hr => first | (go_simp; done) | (go_simp; rfl)); intro gb184 hg w8 hbox hb; have n0_ := Aside0.mk (blk_below (g := gb182) (o := .cells #[.int .i64 a0_0, .slice A0_1 l0_1.length c0_1] 24 (0, 0)) (kA BK182.out) hb); have n1_ := Aside0.mk (blk_below (g := gb183) (o := .cells #[.string a1_0, .int .i64 a1_1, .int .i64 a1_2] 26 (0, 0)) (kA BK183.out) hb); have n2_ := Aside0.mk (below_step (kB HB.out) hb); have n3_ := Aside0.mk (hbox); have n4_ := Aside0.mk ((by rw [hg]; exact (below_size (kB HB.out)) : w.heap.size ≤ gb184)); have n5_ := Aside0.mk ((by rw [hg]; exact (below_size (kB HB.out)) : w.heap.size ≤ gb184)); have n6_ := Aside0.mk ((by rw [hg]; exact Nat.ne_of_lt (blk_lt (g := gb182) (o := .cells #[.int .i64 a0_0, .slice A0_1 l0_1.length c0_1] 24 (0, 0)) (kA BK182.out)) : gb182 ≠ gb184)); have n7_ := Aside0.mk ((by rw [hg]; exact Nat.ne_of_gt (blk_lt (g := gb182) (o := .cells #[.int .i64 a0_0, .slice A0_1 l0_1.length c0_1] 24 (0, 0)) (kA BK182.out)) : gb184 ≠ gb182)); have n8_ := Aside0.mk ((by rw [hg]; exact Nat.ne_of_lt (blk_lt (g := gb183) (o := .cells #[.string a1_0, .int .i64 a1_1, .int .i64 a1_2] 26 (0, 0)) (kA BK183.out)) : gb183 ≠ gb184)); have n9_ := Aside0.mk ((by rw [hg]; exact Nat.ne_of_gt (blk_lt (g := gb183) (o := .cells #[.string a1_0, .int .i64 a1_1, .int .i64 a1_2] 26 (0, 0)) (kA BK183.out)) : gb184 ≠ gb183)); clear BK182; clear BK183; clear HB; have BK182 := n0_; have BK183 := n1_; have HB := n2_; have BK184 := n3_; have GW184 := n4_; have GE184 := n5_; have NB182_184 := n6_; have NB184_182 := n7_; have NB183_184 := n8_; have NB184_183 := n9_; clear n0_ n1_ n2_ n3_ n4_ n5_ n6_ n7_ n8_ n9_; clear hb hbox hg))
 (try simp only [Act.put, q1_, q2_, q3_])
 go_cut [23] (fun v23 wc => ∃ (kq : Nat) (x23_4 : Bool), v23 = .bool x23_4 ∧ Aside0 (modillionlaw07_ProgSteps.j0 kq a2 x23_4 a0_0 l0_1 a1_0 a1_1 a1_2 a3_0 a3_1 a3_2 a3_3 a3_4 = some r) ∧ Aside0 (kq ≤ k) ∧ Aside0 (wc.heap[gb182]? = some (.cells #[.int .i64 a0_0, (.slice A0_1 l0_1.length c0_1)] 24 (0, 0))) ∧ Aside0 (wc.heap[gb183]? = some (.cells #[.string a1_0, .int .i64 a1_1, .int .i64 a1_2] 26 (0, 0))) ∧ Aside0 (wc.heap[gb184]? = some (.cells #[.int .i64 a3_0, .int .i64 a3_1, .bool a3_2, .bool a3_3, .int .i64 a3_4] 28 (0, 0))) ∧ Aside0 (Below w.heap.size w wc))
 case first =>
  have H := HC5.out
  clear HC5
  replace H := Option.bind_eq_some_iff.mp H
  obtain ⟨t185, A90, H⟩ := H
  replace H : (if t185 = true then (modillionlaw07_ProgSteps.j0 k a2 (decide ((l0_1.length : Int) > 100)) a0_0 l0_1 a1_0 a1_1 a1_2 a3_0 a3_1 a3_2 a3_3 a3_4) else (modillionlaw07_ProgSteps.j0 k a2 true a0_0 l0_1 a1_0 a1_1 a1_2 a3_0 a3_1 a3_2 a3_3 a3_4)) = some r := H
  have A9 := Aside0.mk A90
  clear A90
  by_cases c10 : t185 = true
  ·subst c10
   have H1 : (modillionlaw07_ProgSteps.j0 k a2 (decide ((l0_1.length : Int) > 100)) a0_0 l0_1 a1_0 a1_1 a1_2 a3_0 a3_1 a3_2 a3_3 a3_4) = some r := by rw [if_pos rfl] at H; exact H
   clear H
   have H := H1
   clear H1
   have H' := Aside0.mk H
   clear H
   go_wp2_with (first | ((with_reducible refine gate_callee (f := 10) rfl ?_); refine goesL_ (some 16) rfl rfl Try.func10 (by kernel_rfl) rfl #[] rfl (by (try simp only [List.map_toArray, List.map_cons, List.map_nil]); first | done | rfl | (simp only [List.length_drop, List.length_take]; rfl)) ?_; (with_reducible refine (modillionlaw07_awake.calls k  true _ A9.out).mono ?_); rintro e w11 ⟨rfl, hb⟩; refine ⟨_, rfl, ?_⟩; have n0_ := Aside0.mk (blk_below (g := gb182) (o := .cells #[.int .i64 a0_0, .slice A0_1 l0_1.length c0_1] 24 (0, 0)) (kA BK182.out) hb); have n1_ := Aside0.mk (blk_below (g := gb183) (o := .cells #[.string a1_0, .int .i64 a1_1, .int .i64 a1_2] 26 (0, 0)) (kA BK183.out) hb); have n2_ := Aside0.mk (blk_below (g := gb184) (o := .cells #[.int .i64 a3_0, .int .i64 a3_1, .bool a3_2, .bool a3_3, .int .i64 a3_4] 28 (0, 0)) (kA BK184.out) hb); have n3_ := Aside0.mk (below_step (kB HB.out) hb); clear BK182; clear BK183; clear BK184; clear HB; have BK182 := n0_; have BK183 := n1_; have BK184 := n2_; have HB := n3_; clear n0_ n1_ n2_ n3_; (try clear hb); (try clear hb2); (try clear hk); (try clear hi); have hnb12 := NB182_183.out; have hnc12 := NB183_182.out; have hnb13 := NB182_184.out; have hnc13 := NB184_182.out; have hcz14_0 : w11.cell? ⟨gb182, 0, none⟩ = some (.int .i64 a0_0) := (blk_cell BK182.out 0).trans rfl; have hcz14_1 : w11.cell? ⟨gb182, 1, none⟩ = some (.slice A0_1 l0_1.length c0_1) := (blk_cell BK182.out 1).trans rfl; have hfz14_0 := blk_frozen BK182.out 0; have hfz14_1 := blk_frozen BK182.out 1))
   go_meet
   case rel => exact ⟨_, (decide ((l0_1.length : Int) > 100)), (by first | rfl | (simp; done) | (simp [*]; done)), H', ⟨by first | omega | exact Nat.le_refl _⟩, ⟨kA BK182.out⟩, ⟨kA BK183.out⟩, ⟨kA BK184.out⟩, ⟨kB HB.out⟩⟩
  ·replace c10 := Bool.eq_false_iff.mpr c10
   subst c10
   have H1 : (modillionlaw07_ProgSteps.j0 k a2 true a0_0 l0_1 a1_0 a1_1 a1_2 a3_0 a3_1 a3_2 a3_3 a3_4) = some r := by rw [if_neg (show ¬ (false = true) by decide)] at H; exact H
   clear H
   have H := H1
   clear H1
   have H' := Aside0.mk H
   clear H
   go_wp2_with (first | ((with_reducible refine gate_callee (f := 10) rfl ?_); refine goesL_ (some 16) rfl rfl Try.func10 (by kernel_rfl) rfl #[] rfl (by (try simp only [List.map_toArray, List.map_cons, List.map_nil]); first | done | rfl | (simp only [List.length_drop, List.length_take]; rfl)) ?_; (with_reducible refine (modillionlaw07_awake.calls k  false _ A9.out).mono ?_); rintro e w15 ⟨rfl, hb⟩; refine ⟨_, rfl, ?_⟩; have n0_ := Aside0.mk (blk_below (g := gb182) (o := .cells #[.int .i64 a0_0, .slice A0_1 l0_1.length c0_1] 24 (0, 0)) (kA BK182.out) hb); have n1_ := Aside0.mk (blk_below (g := gb183) (o := .cells #[.string a1_0, .int .i64 a1_1, .int .i64 a1_2] 26 (0, 0)) (kA BK183.out) hb); have n2_ := Aside0.mk (blk_below (g := gb184) (o := .cells #[.int .i64 a3_0, .int .i64 a3_1, .bool a3_2, .bool a3_3, .int .i64 a3_4] 28 (0, 0)) (kA BK184.out) hb); have n3_ := Aside0.mk (below_step (kB HB.out) hb); clear BK182; clear BK183; clear BK184; clear HB; have BK182 := n0_; have BK183 := n1_; have BK184 := n2_; have HB := n3_; clear n0_ n1_ n2_ n3_; (try clear hb); (try clear hb2); (try clear hk); (try clear hi)))
   go_meet
   case rel => exact ⟨_, (true), (by first | rfl | (simp; done) | (simp [*]; done)), H', ⟨by first | omega | exact Nat.le_refl _⟩, ⟨kA BK182.out⟩, ⟨kA BK183.out⟩, ⟨kA BK184.out⟩, ⟨kB HB.out⟩⟩
 case rest =>
  clear HC5
  try clear c1
  try clear p2
  try clear c3
  try clear c10
  try clear c12
  try clear c13
  try clear hcz14_0
  try clear hcz14_1
  try clear hfz14_0
  try clear hfz14_1
  obtain ⟨kq, x23_4, rfl, HA, HJ4, BK182, BK183, BK184, HB⟩ := hcut
  cases kq with
  | zero => exact absurd HA.out (by simp [modillionlaw07_ProgSteps.j0])
  | succ kj4 =>
   have H := HA.out
   clear HA
   simp only [modillionlaw07_ProgSteps.j0] at H
   by_cases c16 : x23_4 = true
   ·subst c16
    have H1 : ((modillionlaw07_awake.f kj4).bind fun t186 => (some t186)) = some r := by rw [if_pos rfl] at H; exact H
    clear H
    have H := H1
    clear H1
    replace H := Option.bind_eq_some_iff.mp H
    obtain ⟨t186, A170, H⟩ := H
    replace H : (some t186) = some r := H
    have A17 := Aside0.mk A170
    clear A170
    obtain rfl := Option.some.inj H
    go_wp2_with (first | ((with_reducible refine gate_callee (f := 10) rfl ?_); refine goesL_ (some 24) rfl rfl Try.func10 (by kernel_rfl) rfl #[] rfl (by (try simp only [List.map_toArray, List.map_cons, List.map_nil]); first | done | rfl | (simp only [List.length_drop, List.length_take]; rfl)) ?_; (with_reducible refine (modillionlaw07_awake.calls kj4  t186 _ A17.out).mono ?_); rintro e w18 ⟨rfl, hb⟩; refine ⟨_, rfl, ?_⟩; have n0_ := Aside0.mk (blk_below (g := gb182) (o := .cells #[.int .i64 a0_0, .slice A0_1 l0_1.length c0_1] 24 (0, 0)) (kA BK182.out) hb); have n1_ := Aside0.mk (blk_below (g := gb183) (o := .cells #[.string a1_0, .int .i64 a1_1, .int .i64 a1_2] 26 (0, 0)) (kA BK183.out) hb); have n2_ := Aside0.mk (blk_below (g := gb184) (o := .cells #[.int .i64 a3_0, .int .i64 a3_1, .bool a3_2, .bool a3_3, .int .i64 a3_4] 28 (0, 0)) (kA BK184.out) hb); have n3_ := Aside0.mk (below_step (kB HB.out) hb); clear BK182; clear BK183; clear BK184; clear HB; have BK182 := n0_; have BK183 := n1_; have BK184 := n2_; have HB := n3_; clear n0_ n1_ n2_ n3_; (try clear hb); (try clear hb2); (try clear hk); (try clear hi)))
    go_ret
    exact ⟨by first | rfl | (simp [errW_none, errW_some] <;> rfl) | (simp [*, errW_none, errW_some] <;> rfl), by exact kB HB.out⟩
   ·replace c16 := Bool.eq_false_iff.mpr c16
    subst c16
    have H1 : ((modillionref07_Right.f kj4 a0_0 l0_1 a1_0 a1_1 a1_2).bind fun t187 => (if t187 = true then (modillionlaw07_ProgSteps.j1 kj4 a2 0 a0_0 l0_1 a1_0 a1_1 a1_2 a3_0 a3_1 a3_2 a3_3 a3_4) else (modillionlaw07_ProgSteps.j1 kj4 a2 70 a0_0 l0_1 a1_0 a1_1 a1_2 a3_0 a3_1 a3_2 a3_3 a3_4))) = some r := by rw [if_neg (show ¬ (false = true) by decide)] at H; exact H
    clear H
    have H := H1
    clear H1
    replace H := Option.bind_eq_some_iff.mp H
    obtain ⟨t187, A190, H⟩ := H
    replace H : (if t187 = true then (modillionlaw07_ProgSteps.j1 kj4 a2 0 a0_0 l0_1 a1_0 a1_1 a1_2 a3_0 a3_1 a3_2 a3_3 a3_4) else (modillionlaw07_ProgSteps.j1 kj4 a2 70 a0_0 l0_1 a1_0 a1_1 a1_2 a3_0 a3_1 a3_2 a3_3 a3_4)) = some r := H
    have A19 := Aside0.mk A190
    clear A190
    have HC20 := Aside0.mk H
    clear H
    have hnb21 := NB182_183.out
    have hnc21 := NB183_182.out
    have hnb22 := NB182_184.out
    have hnc22 := NB184_182.out
    have hcz23_0 : wc.cell? ⟨gb182, 0, none⟩ = some (.int .i64 a0_0) := (blk_cell BK182.out 0).trans rfl
    have hcz23_1 : wc.cell? ⟨gb182, 1, none⟩ = some (.slice A0_1 l0_1.length c0_1) := (blk_cell BK182.out 1).trans rfl
    have hfz23_0 := blk_frozen BK182.out 0
    have hfz23_1 := blk_frozen BK182.out 1
    have hnb24 := NB183_184.out
    have hnc24 := NB184_183.out
    have hcz25_0 : wc.cell? ⟨gb183, 0, none⟩ = some (.string a1_0) := (blk_cell BK183.out 0).trans rfl
    have hcz25_1 : wc.cell? ⟨gb183, 1, none⟩ = some (.int .i64 a1_1) := (blk_cell BK183.out 1).trans rfl
    have hcz25_2 : wc.cell? ⟨gb183, 2, none⟩ = some (.int .i64 a1_2) := (blk_cell BK183.out 2).trans rfl
    have hfz25_0 := blk_frozen BK183.out 0
    have hfz25_1 := blk_frozen BK183.out 1
    have hfz25_2 := blk_frozen BK183.out 2
    go_upto_if 27 with (first | ((with_reducible refine gate_callee (f := 11) rfl ?_); refine goesL_ (some 27) rfl rfl Try.func11 (by kernel_rfl) rfl #[.agg #[.int .i64 a0_0, .slice A0_1 l0_1.length c0_1], .agg #[.string a1_0, .int .i64 a1_1, .int .i64 a1_2]] rfl (by (try simp only [List.map_toArray, List.map_cons, List.map_nil]); first | done | rfl | (simp only [List.length_drop, List.length_take]; rfl)) ?_; (with_reducible refine (modillionref07_Right.calls kj4 a0_0 _ _ l0_1 a1_0 a1_1 a1_2 t187 _ ?side1 ?side2 A19.out).mono ?_); (case side1 => repeat (first | exact (Kd.C_below HR0_1.out HB.out) | (with_reducible refine Kd.C_alloc ?_ _) | (with_reducible refine Kd.C_drewN ?_ _) | (with_reducible refine Kd.C_drew ?_))); (case side2 => exact HC0_1.out); rintro e w26 ⟨rfl, hb⟩; refine ⟨_, rfl, ?_⟩; have n0_ := Aside0.mk (blk_below (g := gb182) (o := .cells #[.int .i64 a0_0, .slice A0_1 l0_1.length c0_1] 24 (0, 0)) (kA BK182.out) hb); have n1_ := Aside0.mk (blk_below (g := gb183) (o := .cells #[.string a1_0, .int .i64 a1_1, .int .i64 a1_2] 26 (0, 0)) (kA BK183.out) hb); have n2_ := Aside0.mk (blk_below (g := gb184) (o := .cells #[.int .i64 a3_0, .int .i64 a3_1, .bool a3_2, .bool a3_3, .int .i64 a3_4] 28 (0, 0)) (kA BK184.out) hb); have n3_ := Aside0.mk (below_step (kB HB.out) hb); clear BK182; clear BK183; clear BK184; clear HB; have BK182 := n0_; have BK183 := n1_; have BK184 := n2_; have HB := n3_; clear n0_ n1_ n2_ n3_; (try clear hb); (try clear hb2); (try clear hk); (try clear hi)))
    (try simp only [Act.put, q1_, q2_, q3_])
    go_cut [9] (fun v9 wc => ∃ (kq : Nat) (x9_19 : Int), v9 = .int .i64 x9_19 ∧ Aside0 (modillionlaw07_ProgSteps.j1 kq a2 x9_19 a0_0 l0_1 a1_0 a1_1 a1_2 a3_0 a3_1 a3_2 a3_3 a3_4 = some r) ∧ Aside0 (kq ≤ kj4) ∧ Aside0 (wc.heap[gb182]? = some (.cells #[.int .i64 a0_0, (.slice A0_1 l0_1.length c0_1)] 24 (0, 0))) ∧ Aside0 (wc.heap[gb183]? = some (.cells #[.string a1_0, .int .i64 a1_1, .int .i64 a1_2] 26 (0, 0))) ∧ Aside0 (wc.heap[gb184]? = some (.cells #[.int .i64 a3_0, .int .i64 a3_1, .bool a3_2, .bool a3_3, .int .i64 a3_4] 28 (0, 0))) ∧ Aside0 (Below w.heap.size w wc))
    case first =>
     have H := HC20.out
     clear HC20
     by_cases c27 : t187 = true
     ·subst c27
      have H1 : (modillionlaw07_ProgSteps.j1 kj4 a2 0 a0_0 l0_1 a1_0 a1_1 a1_2 a3_0 a3_1 a3_2 a3_3 a3_4) = some r := by rw [if_pos rfl] at H; exact H
      clear H
      have H := H1
      clear H1
      have H' := Aside0.mk H
      clear H
      go_wp2
      go_meet
      case rel => exact ⟨_, (0), (by first | rfl | (simp; done) | (simp [*]; done)), H', ⟨by have := HJ4.out; first | omega | exact Nat.le_refl _⟩, ⟨kA BK182.out⟩, ⟨kA BK183.out⟩, ⟨kA BK184.out⟩, ⟨kB HB.out⟩⟩
     ·replace c27 := Bool.eq_false_iff.mpr c27
      subst c27
      have H1 : (modillionlaw07_ProgSteps.j1 kj4 a2 70 a0_0 l0_1 a1_0 a1_1 a1_2 a3_0 a3_1 a3_2 a3_3 a3_4) = some r := by rw [if_neg (show ¬ (false = true) by decide)] at H; exact H
      clear H
      have H := H1
      clear H1
      have H' := Aside0.mk H
      clear H
      go_wp2
      go_meet
      case rel => exact ⟨_, (70), (by first | rfl | (simp; done) | (simp [*]; done)), H', ⟨by have := HJ4.out; first | omega | exact Nat.le_refl _⟩, ⟨kA BK182.out⟩, ⟨kA BK183.out⟩, ⟨kA BK184.out⟩, ⟨kB HB.out⟩⟩
    case rest =>
     clear HC20
     try clear c1
     try clear c2
     try clear p2
     try clear c3
     try clear c10
     try clear c11
     try clear c12
     try clear c13
     try clear c16
     try clear c21
     try clear c22
     try clear c24
     try clear c27
     try clear hcz14_0
     try clear hcz14_1
     try clear hcz23_0
     try clear hcz23_1
     try clear hcz25_0
     try clear hcz25_1
     try clear hcz25_2
     try clear hfz14_0
     try clear hfz14_1
     try clear hfz23_0
     try clear hfz23_1
     try clear hfz25_0
     try clear hfz25_1
     try clear hfz25_2
     try clear p2
     obtain ⟨kq, x9_19, rfl, HA, HJ19, BK182, BK183, BK184, HB⟩ := hcut
     cases kq with
     | zero => exact absurd HA.out (by simp [modillionlaw07_ProgSteps.j1])
     | succ kj19 =>
      have H := HA.out
      clear HA
      simp only [modillionlaw07_ProgSteps.j1] at H
      replace H := Option.bind_eq_some_iff.mp H
      obtain ⟨⟨t188, t189⟩, A280, H⟩ := H
      replace H : ((prog_Step.f t188 t189 a1_0 a1_1 a1_2 a2 a3_0 a3_1 a3_2 a3_3 a3_4).bind fun bt192 => ((modillionref07_Step.f kj19 a0_0 l0_1 a1_0 a1_1 a1_2 a2 a3_0 a3_1 a3_2 a3_3 a3_4).bind fun bt202 => ((modillionlaw07_own.f a0_0 l0_1).bind fun bt212 => ((prog_Check.f kj19 bt212.1 bt212.2 a1_0 a1_1 a1_2).bind fun t216 => (if t216 = x9_19 then (if (bt192.1 == bt202.1 && (bt192.2.1 == bt202.2.1 && (bt192.2.2.1 == bt202.2.2.1 && (bt192.2.2.2.1 == bt202.2.2.2.1 && (bt192.2.2.2.2.1 == bt202.2.2.2.2.1))))) = true then ((modillionref07_Same.f kj19 bt192.2.2.2.2.2.1 bt202.2.2.2.2.2.1).bind fun t217 => (if t217 = true then (some (bt192.2.2.2.2.2.2 == bt202.2.2.2.2.2.2)) else (some false))) else (some false)) else (some false)))))) = some r := H
      have A28 := Aside0.mk A280
      clear A280
      replace H := Option.bind_eq_some_iff.mp H
      obtain ⟨⟨t192, t193, t194, t195, t196, t197, t200⟩, A290, H⟩ := H
      replace H : ((modillionref07_Step.f kj19 a0_0 l0_1 a1_0 a1_1 a1_2 a2 a3_0 a3_1 a3_2 a3_3 a3_4).bind fun bt202 => ((modillionlaw07_own.f a0_0 l0_1).bind fun bt212 => ((prog_Check.f kj19 bt212.1 bt212.2 a1_0 a1_1 a1_2).bind fun t216 => (if t216 = x9_19 then (if (t192 == bt202.1 && (t193 == bt202.2.1 && (t194 == bt202.2.2.1 && (t195 == bt202.2.2.2.1 && (t196 == bt202.2.2.2.2.1))))) = true then ((modillionref07_Same.f kj19 t197 bt202.2.2.2.2.2.1).bind fun t217 => (if t217 = true then (some (t200 == bt202.2.2.2.2.2.2)) else (some false))) else (some false)) else (some false))))) = some r := H
      have A29 := Aside0.mk A290
      clear A290
      replace H := Option.bind_eq_some_iff.mp H
      obtain ⟨⟨t202, t203, t204, t205, t206, t207, t210⟩, A300, H⟩ := H
      replace H : ((modillionlaw07_own.f a0_0 l0_1).bind fun bt212 => ((prog_Check.f kj19 bt212.1 bt212.2 a1_0 a1_1 a1_2).bind fun t216 => (if t216 = x9_19 then (if (t192 == t202 && (t193 == t203 && (t194 == t204 && (t195 == t205 && (t196 == t206))))) = true then ((modillionref07_Same.f kj19 t197 t207).bind fun t217 => (if t217 = true then (some (t200 == t210)) else (some false))) else (some false)) else (some false)))) = some r := H
      have A30 := Aside0.mk A300
      clear A300
      replace H := Option.bind_eq_some_iff.mp H
      obtain ⟨⟨t212, t213⟩, A310, H⟩ := H
      replace H : ((prog_Check.f kj19 t212 t213 a1_0 a1_1 a1_2).bind fun t216 => (if t216 = x9_19 then (if (t192 == t202 && (t193 == t203 && (t194 == t204 && (t195 == t205 && (t196 == t206))))) = true then ((modillionref07_Same.f kj19 t197 t207).bind fun t217 => (if t217 = true then (some (t200 == t210)) else (some false))) else (some false)) else (some false))) = some r := H
      have A31 := Aside0.mk A310
      clear A310
      replace H := Option.bind_eq_some_iff.mp H
      obtain ⟨t216, A320, H⟩ := H
      replace H : (if t216 = x9_19 then (if (t192 == t202 && (t193 == t203 && (t194 == t204 && (t195 == t205 && (t196 == t206))))) = true then ((modillionref07_Same.f kj19 t197 t207).bind fun t217 => (if t217 = true then (some (t200 == t210)) else (some false))) else (some false)) else (some false)) = some r := H
      have A32 := Aside0.mk A320
      clear A320
      have HH_ := Aside0.mk H
      clear H
      try go_wp2
      have n0_ := Aside0.mk (blk_drew BK182.out)
      have n1_ := Aside0.mk (blk_drew BK183.out)
      have n2_ := Aside0.mk (blk_drew BK184.out)
      have n3_ := Aside0.mk (below_drew1 HB.out)
      clear BK182
      clear BK183
      clear BK184
      clear HB
      have BK182 := n0_
      have BK183 := n1_
      have BK184 := n2_
      have HB := n3_
      clear n0_ n1_ n2_ n3_
      refine start_ (n := 14) (S := fun w' => w'.cell? ⟨gb182, 0, none⟩ = some (.int .i64 a0_0) ∧ w'.cell? ⟨gb182, 1, none⟩ = some (.slice A0_1 l0_1.length c0_1) ∧ w'.cell? ⟨gb183, 0, none⟩ = some (.string a1_0) ∧ w'.cell? ⟨gb183, 1, none⟩ = some (.int .i64 a1_1) ∧ w'.cell? ⟨gb183, 2, none⟩ = some (.int .i64 a1_2) ∧ w'.cell? ⟨gb184, 0, none⟩ = some (.int .i64 a3_0) ∧ w'.cell? ⟨gb184, 1, none⟩ = some (.int .i64 a3_1) ∧ w'.cell? ⟨gb184, 2, none⟩ = some (.bool a3_2) ∧ w'.cell? ⟨gb184, 3, none⟩ = some (.bool a3_3) ∧ w'.cell? ⟨gb184, 4, none⟩ = some (.int .i64 a3_4)) (ds := []) #[Z,Z,Z,Z,Z,Z,Z,Z,Z,Z,Z,Z,Z,Z] (by kernel_rfl) rfl rfl ⟨(blk_cell BK182.out 0).trans rfl, (blk_cell BK182.out 1).trans rfl, (blk_cell BK183.out 0).trans rfl, (blk_cell BK183.out 1).trans rfl, (blk_cell BK183.out 2).trans rfl, (blk_cell BK184.out 0).trans rfl, (blk_cell BK184.out 1).trans rfl, (blk_cell BK184.out 2).trans rfl, (blk_cell BK184.out 3).trans rfl, (blk_cell BK184.out 4).trans rfl⟩ (fun hHeld => ?_); refine with_tabW modillionlaw07_ProgSteps.tab6 modillionlaw07_ProgSteps.bits6 (fun HT_ HW_ => ?_)
      generalize wc.drew = w37 at BK182 BK183 BK184 HB hHeld ⊢
      refine pure_ (i := 3) (N := some 32) (v := ?_) (a' := ?_) #[Z,Z,Z,Y,Z,Z,Z,Z,Z,Z,Z,Z,Z,Z] rfl rfl (any_of HT_.out (by kernel_rfl)) (fun _ _ _ h => h) (Or.inl ⟨by rfl, ?_⟩) ?_ ?_
      rotate_left
      ·intro w';go_simp;with_reducible rfl
      rotate_left
      ·simp only [Act.put, q1_, q2_, q3_, i64_w, i32_w];rfl
      refine take_ (i := 0) (N := some 29) (v := ?_) (a' := ?_) #[Y,Z,Z,Y,Z,Z,Z,Z,Z,Z,Z,Z,Z,Z] rfl rfl (take_ofW HT_.out HW_.out (by kernel_rfl)) (fun _ _ _ h => h) (Or.inl ⟨by rfl, ?_⟩) hHeld ?_ ?_
      rotate_left
      ·rintro w' ⟨s0, s1, s2, s3, s4, s5, s6, s7, s8, s9⟩;go_simp;with_reducible rfl
      rotate_left
      ·simp only [Act.put, q1_, q2_, q3_, i64_w, i32_w];rfl
      refine take_ (i := 2) (N := some 31) (v := ?_) (a' := ?_) #[Y,Z,Y,Y,Z,Z,Z,Z,Z,Z,Z,Z,Z,Z] rfl rfl (take_ofW HT_.out HW_.out (by kernel_rfl)) (fun _ _ _ h => h) (Or.inl ⟨by rfl, ?_⟩) hHeld ?_ ?_
      rotate_left
      ·rintro w' ⟨s0, s1, s2, s3, s4, s5, s6, s7, s8, s9⟩;go_simp;with_reducible rfl
      rotate_left
      ·simp only [Act.put, q1_, q2_, q3_, i64_w, i32_w];rfl
      refine take_ (i := 4) (N := some 33) (v := ?_) (a' := ?_) #[Y,Z,Y,Y,Y,Z,Z,Z,Z,Z,Z,Z,Z,Z] rfl rfl (take_ofW HT_.out HW_.out (by kernel_rfl)) (fun _ _ _ h => h) (Or.inl ⟨by rfl, ?_⟩) hHeld ?_ ?_
      rotate_left
      ·rintro w' ⟨s0, s1, s2, s3, s4, s5, s6, s7, s8, s9⟩;go_simp;with_reducible rfl
      rotate_left
      ·simp only [Act.put, q1_, q2_, q3_, i64_w, i32_w];rfl
      refine join_ (σ := Value × Value × Nat) 3 #[Y,Y,Y,Y,Y,Y,Y,Y,Y,Y,Y,Z,Z,Z] (fun s_ => [(30, .agg #[.int .i64 t188, s_.1]), (34, .tuple #[.agg #[.int .i64 t192, .int .i64 t193, .bool t194, .bool t195, .int .i64 t196], s_.2.1, .int .i64 t200]), (10, .pointer (some ⟨s_.2.2, 0, none⟩)), (28, .tuple #[.agg #[.int .i64 t192, .int .i64 t193, .bool t194, .bool t195, .int .i64 t196], s_.2.1, .int .i64 t200]), (35, .agg #[.int .i64 t192, .int .i64 t193, .bool t194, .bool t195, .int .i64 t196]), (36, s_.2.1), (37, .int .i64 t200)]) (fun s_ w' => (w'.cell? ⟨gb182, 0, none⟩ = some (.int .i64 a0_0) ∧ w'.cell? ⟨gb182, 1, none⟩ = some (.slice A0_1 l0_1.length c0_1) ∧ w'.cell? ⟨gb183, 0, none⟩ = some (.string a1_0) ∧ w'.cell? ⟨gb183, 1, none⟩ = some (.int .i64 a1_1) ∧ w'.cell? ⟨gb183, 2, none⟩ = some (.int .i64 a1_2) ∧ w'.cell? ⟨gb184, 0, none⟩ = some (.int .i64 a3_0) ∧ w'.cell? ⟨gb184, 1, none⟩ = some (.int .i64 a3_1) ∧ w'.cell? ⟨gb184, 2, none⟩ = some (.bool a3_2) ∧ w'.cell? ⟨gb184, 3, none⟩ = some (.bool a3_3) ∧ w'.cell? ⟨gb184, 4, none⟩ = some (.int .i64 a3_4)) ∧ (Kd.R k46 46 w' w.heap.size (fun _ => True) s_.1 t189) ∧ (Kd.R k48 48 w' w.heap.size (fun _ => True) s_.2.1 t197) ∧ (w'.heap[gb182]? = some (.cells #[.int .i64 a0_0, .slice A0_1 l0_1.length c0_1] 24 (0, 0))) ∧ (w'.heap[gb183]? = some (.cells #[.string a1_0, .int .i64 a1_1, .int .i64 a1_2] 26 (0, 0))) ∧ (w'.heap[gb184]? = some (.cells #[.int .i64 a3_0, .int .i64 a3_1, .bool a3_2, .bool a3_3, .int .i64 a3_4] 28 (0, 0))) ∧ (w'.heap[s_.2.2]? = some (.cells #[.int .i64 0, .int .i64 0, .bool false, .bool false, .int .i64 0] 28 (0, 0))) ∧ (w.heap.size ≤ s_.2.2) ∧ (w.heap.size ≤ s_.2.2) ∧ (gb182 ≠ s_.2.2) ∧ (s_.2.2 ≠ gb182) ∧ (gb183 ≠ s_.2.2) ∧ (s_.2.2 ≠ gb183) ∧ (gb184 ≠ s_.2.2) ∧ (s_.2.2 ≠ gb184) ∧ (Below w.heap.size w w')) ?_ ?_
      rotate_left
      ·intro hCont
       refine two_ (i := 1) (j := 10) (Ni := some 30) (Nj := some 10) #[Y,Y,Y,Y,Y,Z,Z,Z,Z,Z,Z,Z,Z,Z] #[Y,Z,Y,Y,Y,Z,Z,Z,Z,Z,Y,Z,Z,Z] rfl rfl rfl rfl (two_of HT_.out (by kernel_rfl)) (by decide) (by decide) (fun K hK => ?_) (fun K hK => ?_)
       ·skip
        refine goes_ Try.func13 (by kernel_rfl) rfl #[.agg #[.int .i64 a0_0, .slice A0_1 l0_1.length c0_1]] (by rfl) rfl rfl (by (try simp only [List.map_toArray, List.map_cons, List.map_nil]); first | done | rfl | (simp only [List.length_drop, List.length_take]; rfl)) ?_
        with_reducible refine (modillionlaw07_own.calls a0_0 _ _ l0_1 t188 t189 _ ?side1 ?side2 A28.out).mono ?_
        (case side1 => repeat (first | exact (Kd.C_below HR0_1.out HB.out) | (with_reducible refine Kd.C_alloc ?_ _) | (with_reducible refine Kd.C_drewN ?_ _) | (with_reducible refine Kd.C_drew ?_)))
        (case side2 => exact HC0_1.out)
        rintro e w38 ⟨v190, rfl, ho0, hb⟩
        refine ⟨_, rfl, ?_⟩
        have n0_ := Aside0.mk (Kd.R_lower ho0 (below_size (kB HB.out)))
        have n1_ := Aside0.mk (blk_below (g := gb182) (o := .cells #[.int .i64 a0_0, .slice A0_1 l0_1.length c0_1] 24 (0, 0)) (kA BK182.out) hb)
        have n2_ := Aside0.mk (blk_below (g := gb183) (o := .cells #[.string a1_0, .int .i64 a1_1, .int .i64 a1_2] 26 (0, 0)) (kA BK183.out) hb)
        have n3_ := Aside0.mk (blk_below (g := gb184) (o := .cells #[.int .i64 a3_0, .int .i64 a3_1, .bool a3_2, .bool a3_3, .int .i64 a3_4] 28 (0, 0)) (kA BK184.out) hb)
        have n4_ := Aside0.mk (below_step (kB HB.out) hb)
        clear BK182
        clear BK183
        clear BK184
        clear HB
        have HO191 := n0_
        have BK182 := n1_
        have BK183 := n2_
        have BK184 := n3_
        have HB := n4_
        clear n0_ n1_ n2_ n3_ n4_
        (try clear hb)
        (try clear hb2)
        (try clear hk)
        (try clear hi)
        (try clear ho0)
        obtain ⟨Ao39, co39, eo39⟩ := Kd.R_slice HO191.out
        (first | subst eo39 | (injection eo39 with f1_ f2_ f3_; have f4_ := f1_.symm; have f5_ := f3_.symm; clear f1_ f2_ f3_; subst f4_; subst f5_))
        refine hK.out _ _ ⟨(blk_cell BK182.out 0).trans rfl, (blk_cell BK182.out 1).trans rfl, (blk_cell BK183.out 0).trans rfl, (blk_cell BK183.out 1).trans rfl, (blk_cell BK183.out 2).trans rfl, (blk_cell BK184.out 0).trans rfl, (blk_cell BK184.out 1).trans rfl, (blk_cell BK184.out 2).trans rfl, (blk_cell BK184.out 3).trans rfl, (blk_cell BK184.out 4).trans rfl⟩ (fun hHeld => ?_)
        clear hK K
        refine norm_ (a' := ?_) ?_ ?_
        rotate_left
        ·show Act.put _ (some 30) _ = _
         simp only [Act.put, q1_, q2_, q3_, i64_w, i32_w]
         rfl
        refine two_ (i := 5) (j := 10) (Ni := some 34) (Nj := some 10) #[Y,Y,Y,Y,Y,Y,Z,Z,Z,Z,Z,Z,Z,Z] #[Y,Y,Y,Y,Y,Z,Z,Z,Z,Z,Y,Z,Z,Z] rfl rfl rfl rfl (two_of HT_.out (by kernel_rfl)) (by decide) (by decide) (fun K hK => ?_) (fun K hK => ?_)
        ·skip
         refine goes_ Try.func12 (by kernel_rfl) rfl #[.agg #[.int .i64 t188, .slice Ao39 t189.length co39], .agg #[.string a1_0, .int .i64 a1_1, .int .i64 a1_2], .int .i64 a2, .agg #[.int .i64 a3_0, .int .i64 a3_1, .bool a3_2, .bool a3_3, .int .i64 a3_4]] (by rfl) rfl rfl (by (try simp only [List.map_toArray, List.map_cons, List.map_nil]); first | done | rfl | (simp only [List.length_drop, List.length_take]; rfl)) ?_
         with_reducible refine (prog_Step.calls t188 _ _ t189 a1_0 a1_1 a1_2 a2 a3_0 a3_1 a3_2 a3_3 a3_4 t192 t193 t194 t195 t196 t197 t200 _ ?side1 ?side2 A29.out).mono ?_
         (case side1 => repeat (first | exact (Kd.R_reads' HO191.out).2.2 | (with_reducible refine Kd.C_alloc ?_ _) | (with_reducible refine Kd.C_drewN ?_ _) | (with_reducible refine Kd.C_drew ?_)))
         (case side2 => exact (Kd.R_reads' HO191.out).2.1)
         rintro e w40 ⟨v198, rfl, ho0, hb⟩
         refine ⟨_, rfl, ?_⟩
         have n0_ := Aside0.mk (Kd.R_below (kR HO191.out) hb)
         have n1_ := Aside0.mk (Kd.R_lower ho0 (below_size (kB HB.out)))
         have n2_ := Aside0.mk (blk_below (g := gb182) (o := .cells #[.int .i64 a0_0, .slice A0_1 l0_1.length c0_1] 24 (0, 0)) (kA BK182.out) hb)
         have n3_ := Aside0.mk (blk_below (g := gb183) (o := .cells #[.string a1_0, .int .i64 a1_1, .int .i64 a1_2] 26 (0, 0)) (kA BK183.out) hb)
         have n4_ := Aside0.mk (blk_below (g := gb184) (o := .cells #[.int .i64 a3_0, .int .i64 a3_1, .bool a3_2, .bool a3_3, .int .i64 a3_4] 28 (0, 0)) (kA BK184.out) hb)
         have n5_ := Aside0.mk (below_step (kB HB.out) hb)
         clear HO191
         clear BK182
         clear BK183
         clear BK184
         clear HB
         have HO191 := n0_
         have HO199 := n1_
         have BK182 := n2_
         have BK183 := n3_
         have BK184 := n4_
         have HB := n5_
         clear n0_ n1_ n2_ n3_ n4_ n5_
         (try clear hb)
         (try clear hb2)
         (try clear hk)
         (try clear hi)
         (try clear ho0)
         refine hK.out _ _ ⟨(blk_cell BK182.out 0).trans rfl, (blk_cell BK182.out 1).trans rfl, (blk_cell BK183.out 0).trans rfl, (blk_cell BK183.out 1).trans rfl, (blk_cell BK183.out 2).trans rfl, (blk_cell BK184.out 0).trans rfl, (blk_cell BK184.out 1).trans rfl, (blk_cell BK184.out 2).trans rfl, (blk_cell BK184.out 3).trans rfl, (blk_cell BK184.out 4).trans rfl⟩ (fun hHeld => ?_)
         clear hK K
         refine norm_ (a' := ?_) ?_ ?_
         rotate_left
         ·show Act.put _ (some 34) _ = _
          simp only [Act.put, q1_, q2_, q3_, i64_w, i32_w]
          rfl
         refine pure_ (i := 6) (N := some 28) (v := ?_) (a' := ?_) #[Y,Y,Y,Y,Y,Y,Y,Z,Z,Z,Z,Z,Z,Z] rfl rfl (any_of HT_.out (by kernel_rfl)) (fun _ _ _ h => h) (Or.inl ⟨by rfl, ?_⟩) ?_ ?_
         rotate_left
         ·intro w';go_simp;with_reducible rfl
         rotate_left
         ·simp only [Act.put, q1_, q2_, q3_, i64_w, i32_w];rfl
         refine pure_ (i := 7) (N := some 35) (v := ?_) (a' := ?_) #[Y,Y,Y,Y,Y,Y,Y,Y,Z,Z,Z,Z,Z,Z] rfl rfl (any_of HT_.out (by kernel_rfl)) (fun _ _ _ h => h) (Or.inl ⟨by rfl, ?_⟩) ?_ ?_
         rotate_left
         ·intro w';go_simp;with_reducible rfl
         rotate_left
         ·simp only [Act.put, q1_, q2_, q3_, i64_w, i32_w];rfl
         refine pure_ (i := 8) (N := some 36) (v := ?_) (a' := ?_) #[Y,Y,Y,Y,Y,Y,Y,Y,Y,Z,Z,Z,Z,Z] rfl rfl (any_of HT_.out (by kernel_rfl)) (fun _ _ _ h => h) (Or.inl ⟨by rfl, ?_⟩) ?_ ?_
         rotate_left
         ·intro w';go_simp;with_reducible rfl
         rotate_left
         ·simp only [Act.put, q1_, q2_, q3_, i64_w, i32_w];rfl
         refine pure_ (i := 9) (N := some 37) (v := ?_) (a' := ?_) #[Y,Y,Y,Y,Y,Y,Y,Y,Y,Y,Z,Z,Z,Z] rfl rfl (any_of HT_.out (by kernel_rfl)) (fun _ _ _ h => h) (Or.inl ⟨by rfl, ?_⟩) ?_ ?_
         rotate_left
         ·intro w';go_simp;with_reducible rfl
         rotate_left
         ·simp only [Act.put, q1_, q2_, q3_, i64_w, i32_w];rfl
         refine one_ (i := 10) (N := some 10) #[Y,Y,Y,Y,Y,Y,Y,Y,Y,Y,Y,Z,Z,Z] rfl rfl (one_of HT_.out (by kernel_rfl)) (by decide) (fun K hK => ?_)
         refine box_step ?hg (N := 10) ?hd (cs := #[.int .i64 0, .int .i64 0, .bool false, .bool false, .int .i64 0]) (t := 28) ?hr ?_; (case hd => rfl); (case hg => rfl); (case hr => first | (go_simp; done) | (go_simp; rfl))
         intro gb201 hg w41 hbox hb
         have n0_ := Aside0.mk (Kd.R_below (kR HO191.out) hb)
         have n1_ := Aside0.mk (Kd.R_below (kR HO199.out) hb)
         have n2_ := Aside0.mk (blk_below (g := gb182) (o := .cells #[.int .i64 a0_0, .slice A0_1 l0_1.length c0_1] 24 (0, 0)) (kA BK182.out) hb)
         have n3_ := Aside0.mk (blk_below (g := gb183) (o := .cells #[.string a1_0, .int .i64 a1_1, .int .i64 a1_2] 26 (0, 0)) (kA BK183.out) hb)
         have n4_ := Aside0.mk (blk_below (g := gb184) (o := .cells #[.int .i64 a3_0, .int .i64 a3_1, .bool a3_2, .bool a3_3, .int .i64 a3_4] 28 (0, 0)) (kA BK184.out) hb)
         have n5_ := Aside0.mk (below_step (kB HB.out) hb)
         have n6_ := Aside0.mk (hbox)
         have n7_ := Aside0.mk ((by rw [hg]; exact (below_size (kB HB.out)) : w.heap.size ≤ gb201))
         have n8_ := Aside0.mk ((by rw [hg]; exact (below_size (kB HB.out)) : w.heap.size ≤ gb201))
         have n9_ := Aside0.mk ((by rw [hg]; exact Nat.ne_of_lt (blk_lt (g := gb182) (o := .cells #[.int .i64 a0_0, .slice A0_1 l0_1.length c0_1] 24 (0, 0)) (kA BK182.out)) : gb182 ≠ gb201))
         have n10_ := Aside0.mk ((by rw [hg]; exact Nat.ne_of_gt (blk_lt (g := gb182) (o := .cells #[.int .i64 a0_0, .slice A0_1 l0_1.length c0_1] 24 (0, 0)) (kA BK182.out)) : gb201 ≠ gb182))
         have n11_ := Aside0.mk ((by rw [hg]; exact Nat.ne_of_lt (blk_lt (g := gb183) (o := .cells #[.string a1_0, .int .i64 a1_1, .int .i64 a1_2] 26 (0, 0)) (kA BK183.out)) : gb183 ≠ gb201))
         have n12_ := Aside0.mk ((by rw [hg]; exact Nat.ne_of_gt (blk_lt (g := gb183) (o := .cells #[.string a1_0, .int .i64 a1_1, .int .i64 a1_2] 26 (0, 0)) (kA BK183.out)) : gb201 ≠ gb183))
         have n13_ := Aside0.mk ((by rw [hg]; exact Nat.ne_of_lt (blk_lt (g := gb184) (o := .cells #[.int .i64 a3_0, .int .i64 a3_1, .bool a3_2, .bool a3_3, .int .i64 a3_4] 28 (0, 0)) (kA BK184.out)) : gb184 ≠ gb201))
         have n14_ := Aside0.mk ((by rw [hg]; exact Nat.ne_of_gt (blk_lt (g := gb184) (o := .cells #[.int .i64 a3_0, .int .i64 a3_1, .bool a3_2, .bool a3_3, .int .i64 a3_4] 28 (0, 0)) (kA BK184.out)) : gb201 ≠ gb184))
         clear HO191
         clear HO199
         clear BK182
         clear BK183
         clear BK184
         clear HB
         have HO191 := n0_
         have HO199 := n1_
         have BK182 := n2_
         have BK183 := n3_
         have BK184 := n4_
         have HB := n5_
         have BK201 := n6_
         have GW201 := n7_
         have GE201 := n8_
         have NB182_201 := n9_
         have NB201_182 := n10_
         have NB183_201 := n11_
         have NB201_183 := n12_
         have NB184_201 := n13_
         have NB201_184 := n14_
         clear n0_ n1_ n2_ n3_ n4_ n5_ n6_ n7_ n8_ n9_ n10_ n11_ n12_ n13_ n14_
         clear hb hbox hg
         refine hK.out _ _ ⟨(blk_cell BK182.out 0).trans rfl, (blk_cell BK182.out 1).trans rfl, (blk_cell BK183.out 0).trans rfl, (blk_cell BK183.out 1).trans rfl, (blk_cell BK183.out 2).trans rfl, (blk_cell BK184.out 0).trans rfl, (blk_cell BK184.out 1).trans rfl, (blk_cell BK184.out 2).trans rfl, (blk_cell BK184.out 3).trans rfl, (blk_cell BK184.out 4).trans rfl⟩ (fun hHeld => ?_)
         clear hK K
         refine norm_ (a' := ?_) ?_ ?_
         rotate_left
         ·show Act.put _ (some 10) _ = _
          simp only [Act.put, q1_, q2_, q3_, i64_w, i32_w]
          rfl
         exact norm_ (by simp only [putAll, Act.put, q1_, q2_, q3_]) (hCont (.slice Ao39 t189.length co39, v198, gb201) _ ⟨hHeld, (kR HO191.out), (kR HO199.out), (kA BK182.out), (kA BK183.out), (kA BK184.out), (kA BK201.out), GW201.out, GE201.out, NB182_201.out, NB201_182.out, NB183_201.out, NB201_183.out, NB184_201.out, NB201_184.out, (kB HB.out)⟩)
        ·skip
         refine box_step ?hg (N := 10) ?hd (cs := #[.int .i64 0, .int .i64 0, .bool false, .bool false, .int .i64 0]) (t := 28) ?hr ?_; (case hd => rfl); (case hg => rfl); (case hr => first | (go_simp; done) | (go_simp; rfl))
         intro gb201 hg w39 hbox hb
         have n0_ := Aside0.mk (Kd.R_below (kR HO191.out) hb)
         have n1_ := Aside0.mk (blk_below (g := gb182) (o := .cells #[.int .i64 a0_0, .slice A0_1 l0_1.length c0_1] 24 (0, 0)) (kA BK182.out) hb)
         have n2_ := Aside0.mk (blk_below (g := gb183) (o := .cells #[.string a1_0, .int .i64 a1_1, .int .i64 a1_2] 26 (0, 0)) (kA BK183.out) hb)
         have n3_ := Aside0.mk (blk_below (g := gb184) (o := .cells #[.int .i64 a3_0, .int .i64 a3_1, .bool a3_2, .bool a3_3, .int .i64 a3_4] 28 (0, 0)) (kA BK184.out) hb)
         have n4_ := Aside0.mk (below_step (kB HB.out) hb)
         have n5_ := Aside0.mk (hbox)
         have n6_ := Aside0.mk ((by rw [hg]; exact (below_size (kB HB.out)) : w.heap.size ≤ gb201))
         have n7_ := Aside0.mk ((by rw [hg]; exact (below_size (kB HB.out)) : w.heap.size ≤ gb201))
         have n8_ := Aside0.mk ((by rw [hg]; exact Nat.ne_of_lt (blk_lt (g := gb182) (o := .cells #[.int .i64 a0_0, .slice A0_1 l0_1.length c0_1] 24 (0, 0)) (kA BK182.out)) : gb182 ≠ gb201))
         have n9_ := Aside0.mk ((by rw [hg]; exact Nat.ne_of_gt (blk_lt (g := gb182) (o := .cells #[.int .i64 a0_0, .slice A0_1 l0_1.length c0_1] 24 (0, 0)) (kA BK182.out)) : gb201 ≠ gb182))
         have n10_ := Aside0.mk ((by rw [hg]; exact Nat.ne_of_lt (blk_lt (g := gb183) (o := .cells #[.string a1_0, .int .i64 a1_1, .int .i64 a1_2] 26 (0, 0)) (kA BK183.out)) : gb183 ≠ gb201))
         have n11_ := Aside0.mk ((by rw [hg]; exact Nat.ne_of_gt (blk_lt (g := gb183) (o := .cells #[.string a1_0, .int .i64 a1_1, .int .i64 a1_2] 26 (0, 0)) (kA BK183.out)) : gb201 ≠ gb183))
         have n12_ := Aside0.mk ((by rw [hg]; exact Nat.ne_of_lt (blk_lt (g := gb184) (o := .cells #[.int .i64 a3_0, .int .i64 a3_1, .bool a3_2, .bool a3_3, .int .i64 a3_4] 28 (0, 0)) (kA BK184.out)) : gb184 ≠ gb201))
         have n13_ := Aside0.mk ((by rw [hg]; exact Nat.ne_of_gt (blk_lt (g := gb184) (o := .cells #[.int .i64 a3_0, .int .i64 a3_1, .bool a3_2, .bool a3_3, .int .i64 a3_4] 28 (0, 0)) (kA BK184.out)) : gb201 ≠ gb184))
         clear HO191
         clear BK182
         clear BK183
         clear BK184
         clear HB
         have HO191 := n0_
         have BK182 := n1_
         have BK183 := n2_
         have BK184 := n3_
         have HB := n4_
         have BK201 := n5_
         have GW201 := n6_
         have GE201 := n7_
         have NB182_201 := n8_
         have NB201_182 := n9_
         have NB183_201 := n10_
         have NB201_183 := n11_
         have NB184_201 := n12_
         have NB201_184 := n13_
         clear n0_ n1_ n2_ n3_ n4_ n5_ n6_ n7_ n8_ n9_ n10_ n11_ n12_ n13_
         clear hb hbox hg
         obtain ⟨Ao40, co40, eo40⟩ := Kd.R_slice HO191.out
         (first | subst eo40 | (injection eo40 with f1_ f2_ f3_; have f4_ := f1_.symm; have f5_ := f3_.symm; clear f1_ f2_ f3_; subst f4_; subst f5_))
         refine hK.out _ _ ⟨(blk_cell BK182.out 0).trans rfl, (blk_cell BK182.out 1).trans rfl, (blk_cell BK183.out 0).trans rfl, (blk_cell BK183.out 1).trans rfl, (blk_cell BK183.out 2).trans rfl, (blk_cell BK184.out 0).trans rfl, (blk_cell BK184.out 1).trans rfl, (blk_cell BK184.out 2).trans rfl, (blk_cell BK184.out 3).trans rfl, (blk_cell BK184.out 4).trans rfl⟩ (fun hHeld => ?_)
         clear hK K
         refine norm_ (a' := ?_) ?_ ?_
         rotate_left
         ·show Act.put _ (some 10) _ = _
          simp only [Act.put, q1_, q2_, q3_, i64_w, i32_w]
          rfl
         refine one_ (i := 5) (N := some 34) #[Y,Y,Y,Y,Y,Y,Z,Z,Z,Z,Y,Z,Z,Z] rfl rfl (one_of HT_.out (by kernel_rfl)) (by decide) (fun K hK => ?_)
         refine goes_ Try.func12 (by kernel_rfl) rfl #[.agg #[.int .i64 t188, .slice Ao40 t189.length co40], .agg #[.string a1_0, .int .i64 a1_1, .int .i64 a1_2], .int .i64 a2, .agg #[.int .i64 a3_0, .int .i64 a3_1, .bool a3_2, .bool a3_3, .int .i64 a3_4]] (by rfl) rfl rfl (by (try simp only [List.map_toArray, List.map_cons, List.map_nil]); first | done | rfl | (simp only [List.length_drop, List.length_take]; rfl)) ?_
         with_reducible refine (prog_Step.calls t188 _ _ t189 a1_0 a1_1 a1_2 a2 a3_0 a3_1 a3_2 a3_3 a3_4 t192 t193 t194 t195 t196 t197 t200 _ ?side1 ?side2 A29.out).mono ?_
         (case side1 => repeat (first | exact (Kd.R_reads' HO191.out).2.2 | (with_reducible refine Kd.C_alloc ?_ _) | (with_reducible refine Kd.C_drewN ?_ _) | (with_reducible refine Kd.C_drew ?_)))
         (case side2 => exact (Kd.R_reads' HO191.out).2.1)
         rintro e w41 ⟨v198, rfl, ho0, hb⟩
         refine ⟨_, rfl, ?_⟩
         have n0_ := Aside0.mk (Kd.R_below (kR HO191.out) hb)
         have n1_ := Aside0.mk (Kd.R_lower ho0 (below_size (kB HB.out)))
         have n2_ := Aside0.mk (blk_below (g := gb182) (o := .cells #[.int .i64 a0_0, .slice A0_1 l0_1.length c0_1] 24 (0, 0)) (kA BK182.out) hb)
         have n3_ := Aside0.mk (blk_below (g := gb183) (o := .cells #[.string a1_0, .int .i64 a1_1, .int .i64 a1_2] 26 (0, 0)) (kA BK183.out) hb)
         have n4_ := Aside0.mk (blk_below (g := gb184) (o := .cells #[.int .i64 a3_0, .int .i64 a3_1, .bool a3_2, .bool a3_3, .int .i64 a3_4] 28 (0, 0)) (kA BK184.out) hb)
         have n5_ := Aside0.mk (blk_below (g := gb201) (o := .cells #[.int .i64 0, .int .i64 0, .bool false, .bool false, .int .i64 0] 28 (0, 0)) (kA BK201.out) hb)
         have n6_ := Aside0.mk (below_step (kB HB.out) hb)
         clear HO191
         clear BK182
         clear BK183
         clear BK184
         clear BK201
         clear HB
         have HO191 := n0_
         have HO199 := n1_
         have BK182 := n2_
         have BK183 := n3_
         have BK184 := n4_
         have BK201 := n5_
         have HB := n6_
         clear n0_ n1_ n2_ n3_ n4_ n5_ n6_
         (try clear hb)
         (try clear hb2)
         (try clear hk)
         (try clear hi)
         (try clear ho0)
         refine hK.out _ _ ⟨(blk_cell BK182.out 0).trans rfl, (blk_cell BK182.out 1).trans rfl, (blk_cell BK183.out 0).trans rfl, (blk_cell BK183.out 1).trans rfl, (blk_cell BK183.out 2).trans rfl, (blk_cell BK184.out 0).trans rfl, (blk_cell BK184.out 1).trans rfl, (blk_cell BK184.out 2).trans rfl, (blk_cell BK184.out 3).trans rfl, (blk_cell BK184.out 4).trans rfl⟩ (fun hHeld => ?_)
         clear hK K
         refine norm_ (a' := ?_) ?_ ?_
         rotate_left
         ·show Act.put _ (some 34) _ = _
          simp only [Act.put, q1_, q2_, q3_, i64_w, i32_w]
          rfl
         refine pure_ (i := 6) (N := some 28) (v := ?_) (a' := ?_) #[Y,Y,Y,Y,Y,Y,Y,Z,Z,Z,Y,Z,Z,Z] rfl rfl (any_of HT_.out (by kernel_rfl)) (fun _ _ _ h => h) (Or.inl ⟨by rfl, ?_⟩) ?_ ?_
         rotate_left
         ·intro w';go_simp;with_reducible rfl
         rotate_left
         ·simp only [Act.put, q1_, q2_, q3_, i64_w, i32_w];rfl
         refine pure_ (i := 7) (N := some 35) (v := ?_) (a' := ?_) #[Y,Y,Y,Y,Y,Y,Y,Y,Z,Z,Y,Z,Z,Z] rfl rfl (any_of HT_.out (by kernel_rfl)) (fun _ _ _ h => h) (Or.inl ⟨by rfl, ?_⟩) ?_ ?_
         rotate_left
         ·intro w';go_simp;with_reducible rfl
         rotate_left
         ·simp only [Act.put, q1_, q2_, q3_, i64_w, i32_w];rfl
         refine pure_ (i := 8) (N := some 36) (v := ?_) (a' := ?_) #[Y,Y,Y,Y,Y,Y,Y,Y,Y,Z,Y,Z,Z,Z] rfl rfl (any_of HT_.out (by kernel_rfl)) (fun _ _ _ h => h) (Or.inl ⟨by rfl, ?_⟩) ?_ ?_
         rotate_left
         ·intro w';go_simp;with_reducible rfl
         rotate_left
         ·simp only [Act.put, q1_, q2_, q3_, i64_w, i32_w];rfl
         refine pure_ (i := 9) (N := some 37) (v := ?_) (a' := ?_) #[Y,Y,Y,Y,Y,Y,Y,Y,Y,Y,Y,Z,Z,Z] rfl rfl (any_of HT_.out (by kernel_rfl)) (fun _ _ _ h => h) (Or.inl ⟨by rfl, ?_⟩) ?_ ?_
         rotate_left
         ·intro w';go_simp;with_reducible rfl
         rotate_left
         ·simp only [Act.put, q1_, q2_, q3_, i64_w, i32_w];rfl
         exact norm_ (by simp only [putAll, Act.put, q1_, q2_, q3_]) (hCont (.slice Ao40 t189.length co40, v198, gb201) _ ⟨hHeld, (kR HO191.out), (kR HO199.out), (kA BK182.out), (kA BK183.out), (kA BK184.out), (kA BK201.out), GW201.out, GE201.out, NB182_201.out, NB201_182.out, NB183_201.out, NB201_183.out, NB184_201.out, NB201_184.out, (kB HB.out)⟩)
       ·skip
        refine box_step ?hg (N := 10) ?hd (cs := #[.int .i64 0, .int .i64 0, .bool false, .bool false, .int .i64 0]) (t := 28) ?hr ?_; (case hd => rfl); (case hg => rfl); (case hr => first | (go_simp; done) | (go_simp; rfl))
        intro gb201 hg w38 hbox hb
        have n0_ := Aside0.mk (blk_below (g := gb182) (o := .cells #[.int .i64 a0_0, .slice A0_1 l0_1.length c0_1] 24 (0, 0)) (kA BK182.out) hb)
        have n1_ := Aside0.mk (blk_below (g := gb183) (o := .cells #[.string a1_0, .int .i64 a1_1, .int .i64 a1_2] 26 (0, 0)) (kA BK183.out) hb)
        have n2_ := Aside0.mk (blk_below (g := gb184) (o := .cells #[.int .i64 a3_0, .int .i64 a3_1, .bool a3_2, .bool a3_3, .int .i64 a3_4] 28 (0, 0)) (kA BK184.out) hb)
        have n3_ := Aside0.mk (below_step (kB HB.out) hb)
        have n4_ := Aside0.mk (hbox)
        have n5_ := Aside0.mk ((by rw [hg]; exact (below_size (kB HB.out)) : w.heap.size ≤ gb201))
        have n6_ := Aside0.mk ((by rw [hg]; exact (below_size (kB HB.out)) : w.heap.size ≤ gb201))
        have n7_ := Aside0.mk ((by rw [hg]; exact Nat.ne_of_lt (blk_lt (g := gb182) (o := .cells #[.int .i64 a0_0, .slice A0_1 l0_1.length c0_1] 24 (0, 0)) (kA BK182.out)) : gb182 ≠ gb201))
        have n8_ := Aside0.mk ((by rw [hg]; exact Nat.ne_of_gt (blk_lt (g := gb182) (o := .cells #[.int .i64 a0_0, .slice A0_1 l0_1.length c0_1] 24 (0, 0)) (kA BK182.out)) : gb201 ≠ gb182))
        have n9_ := Aside0.mk ((by rw [hg]; exact Nat.ne_of_lt (blk_lt (g := gb183) (o := .cells #[.string a1_0, .int .i64 a1_1, .int .i64 a1_2] 26 (0, 0)) (kA BK183.out)) : gb183 ≠ gb201))
        have n10_ := Aside0.mk ((by rw [hg]; exact Nat.ne_of_gt (blk_lt (g := gb183) (o := .cells #[.string a1_0, .int .i64 a1_1, .int .i64 a1_2] 26 (0, 0)) (kA BK183.out)) : gb201 ≠ gb183))
        have n11_ := Aside0.mk ((by rw [hg]; exact Nat.ne_of_lt (blk_lt (g := gb184) (o := .cells #[.int .i64 a3_0, .int .i64 a3_1, .bool a3_2, .bool a3_3, .int .i64 a3_4] 28 (0, 0)) (kA BK184.out)) : gb184 ≠ gb201))
        have n12_ := Aside0.mk ((by rw [hg]; exact Nat.ne_of_gt (blk_lt (g := gb184) (o := .cells #[.int .i64 a3_0, .int .i64 a3_1, .bool a3_2, .bool a3_3, .int .i64 a3_4] 28 (0, 0)) (kA BK184.out)) : gb201 ≠ gb184))
        clear BK182
        clear BK183
        clear BK184
        clear HB
        have BK182 := n0_
        have BK183 := n1_
        have BK184 := n2_
        have HB := n3_
        have BK201 := n4_
        have GW201 := n5_
        have GE201 := n6_
        have NB182_201 := n7_
        have NB201_182 := n8_
        have NB183_201 := n9_
        have NB201_183 := n10_
        have NB184_201 := n11_
        have NB201_184 := n12_
        clear n0_ n1_ n2_ n3_ n4_ n5_ n6_ n7_ n8_ n9_ n10_ n11_ n12_
        clear hb hbox hg
        refine hK.out _ _ ⟨(blk_cell BK182.out 0).trans rfl, (blk_cell BK182.out 1).trans rfl, (blk_cell BK183.out 0).trans rfl, (blk_cell BK183.out 1).trans rfl, (blk_cell BK183.out 2).trans rfl, (blk_cell BK184.out 0).trans rfl, (blk_cell BK184.out 1).trans rfl, (blk_cell BK184.out 2).trans rfl, (blk_cell BK184.out 3).trans rfl, (blk_cell BK184.out 4).trans rfl⟩ (fun hHeld => ?_)
        clear hK K
        refine norm_ (a' := ?_) ?_ ?_
        rotate_left
        ·show Act.put _ (some 10) _ = _
         simp only [Act.put, q1_, q2_, q3_, i64_w, i32_w]
         rfl
        refine one_ (i := 1) (N := some 30) #[Y,Y,Y,Y,Y,Z,Z,Z,Z,Z,Y,Z,Z,Z] rfl rfl (one_of HT_.out (by kernel_rfl)) (by decide) (fun K hK => ?_)
        refine goes_ Try.func13 (by kernel_rfl) rfl #[.agg #[.int .i64 a0_0, .slice A0_1 l0_1.length c0_1]] (by rfl) rfl rfl (by (try simp only [List.map_toArray, List.map_cons, List.map_nil]); first | done | rfl | (simp only [List.length_drop, List.length_take]; rfl)) ?_
        with_reducible refine (modillionlaw07_own.calls a0_0 _ _ l0_1 t188 t189 _ ?side1 ?side2 A28.out).mono ?_
        (case side1 => repeat (first | exact (Kd.C_below HR0_1.out HB.out) | (with_reducible refine Kd.C_alloc ?_ _) | (with_reducible refine Kd.C_drewN ?_ _) | (with_reducible refine Kd.C_drew ?_)))
        (case side2 => exact HC0_1.out)
        rintro e w39 ⟨v190, rfl, ho0, hb⟩
        refine ⟨_, rfl, ?_⟩
        have n0_ := Aside0.mk (Kd.R_lower ho0 (below_size (kB HB.out)))
        have n1_ := Aside0.mk (blk_below (g := gb182) (o := .cells #[.int .i64 a0_0, .slice A0_1 l0_1.length c0_1] 24 (0, 0)) (kA BK182.out) hb)
        have n2_ := Aside0.mk (blk_below (g := gb183) (o := .cells #[.string a1_0, .int .i64 a1_1, .int .i64 a1_2] 26 (0, 0)) (kA BK183.out) hb)
        have n3_ := Aside0.mk (blk_below (g := gb184) (o := .cells #[.int .i64 a3_0, .int .i64 a3_1, .bool a3_2, .bool a3_3, .int .i64 a3_4] 28 (0, 0)) (kA BK184.out) hb)
        have n4_ := Aside0.mk (blk_below (g := gb201) (o := .cells #[.int .i64 0, .int .i64 0, .bool false, .bool false, .int .i64 0] 28 (0, 0)) (kA BK201.out) hb)
        have n5_ := Aside0.mk (below_step (kB HB.out) hb)
        clear BK182
        clear BK183
        clear BK184
        clear BK201
        clear HB
        have HO191 := n0_
        have BK182 := n1_
        have BK183 := n2_
        have BK184 := n3_
        have BK201 := n4_
        have HB := n5_
        clear n0_ n1_ n2_ n3_ n4_ n5_
        (try clear hb)
        (try clear hb2)
        (try clear hk)
        (try clear hi)
        (try clear ho0)
        obtain ⟨Ao40, co40, eo40⟩ := Kd.R_slice HO191.out
        (first | subst eo40 | (injection eo40 with f1_ f2_ f3_; have f4_ := f1_.symm; have f5_ := f3_.symm; clear f1_ f2_ f3_; subst f4_; subst f5_))
        refine hK.out _ _ ⟨(blk_cell BK182.out 0).trans rfl, (blk_cell BK182.out 1).trans rfl, (blk_cell BK183.out 0).trans rfl, (blk_cell BK183.out 1).trans rfl, (blk_cell BK183.out 2).trans rfl, (blk_cell BK184.out 0).trans rfl, (blk_cell BK184.out 1).trans rfl, (blk_cell BK184.out 2).trans rfl, (blk_cell BK184.out 3).trans rfl, (blk_cell BK184.out 4).trans rfl⟩ (fun hHeld => ?_)
        clear hK K
        refine norm_ (a' := ?_) ?_ ?_
        rotate_left
        ·show Act.put _ (some 30) _ = _
         simp only [Act.put, q1_, q2_, q3_, i64_w, i32_w]
         rfl
        refine one_ (i := 5) (N := some 34) #[Y,Y,Y,Y,Y,Y,Z,Z,Z,Z,Y,Z,Z,Z] rfl rfl (one_of HT_.out (by kernel_rfl)) (by decide) (fun K hK => ?_)
        refine goes_ Try.func12 (by kernel_rfl) rfl #[.agg #[.int .i64 t188, .slice Ao40 t189.length co40], .agg #[.string a1_0, .int .i64 a1_1, .int .i64 a1_2], .int .i64 a2, .agg #[.int .i64 a3_0, .int .i64 a3_1, .bool a3_2, .bool a3_3, .int .i64 a3_4]] (by rfl) rfl rfl (by (try simp only [List.map_toArray, List.map_cons, List.map_nil]); first | done | rfl | (simp only [List.length_drop, List.length_take]; rfl)) ?_
        with_reducible refine (prog_Step.calls t188 _ _ t189 a1_0 a1_1 a1_2 a2 a3_0 a3_1 a3_2 a3_3 a3_4 t192 t193 t194 t195 t196 t197 t200 _ ?side1 ?side2 A29.out).mono ?_
        (case side1 => repeat (first | exact (Kd.R_reads' HO191.out).2.2 | (with_reducible refine Kd.C_alloc ?_ _) | (with_reducible refine Kd.C_drewN ?_ _) | (with_reducible refine Kd.C_drew ?_)))
        (case side2 => exact (Kd.R_reads' HO191.out).2.1)
        rintro e w41 ⟨v198, rfl, ho0, hb⟩
        refine ⟨_, rfl, ?_⟩
        have n0_ := Aside0.mk (Kd.R_below (kR HO191.out) hb)
        have n1_ := Aside0.mk (Kd.R_lower ho0 (below_size (kB HB.out)))
        have n2_ := Aside0.mk (blk_below (g := gb182) (o := .cells #[.int .i64 a0_0, .slice A0_1 l0_1.length c0_1] 24 (0, 0)) (kA BK182.out) hb)
        have n3_ := Aside0.mk (blk_below (g := gb183) (o := .cells #[.string a1_0, .int .i64 a1_1, .int .i64 a1_2] 26 (0, 0)) (kA BK183.out) hb)
        have n4_ := Aside0.mk (blk_below (g := gb184) (o := .cells #[.int .i64 a3_0, .int .i64 a3_1, .bool a3_2, .bool a3_3, .int .i64 a3_4] 28 (0, 0)) (kA BK184.out) hb)
        have n5_ := Aside0.mk (blk_below (g := gb201) (o := .cells #[.int .i64 0, .int .i64 0, .bool false, .bool false, .int .i64 0] 28 (0, 0)) (kA BK201.out) hb)
        have n6_ := Aside0.mk (below_step (kB HB.out) hb)
        clear HO191
        clear BK182
        clear BK183
        clear BK184
        clear BK201
        clear HB
        have HO191 := n0_
        have HO199 := n1_
        have BK182 := n2_
        have BK183 := n3_
        have BK184 := n4_
        have BK201 := n5_
        have HB := n6_
        clear n0_ n1_ n2_ n3_ n4_ n5_ n6_
        (try clear hb)
        (try clear hb2)
        (try clear hk)
        (try clear hi)
        (try clear ho0)
        refine hK.out _ _ ⟨(blk_cell BK182.out 0).trans rfl, (blk_cell BK182.out 1).trans rfl, (blk_cell BK183.out 0).trans rfl, (blk_cell BK183.out 1).trans rfl, (blk_cell BK183.out 2).trans rfl, (blk_cell BK184.out 0).trans rfl, (blk_cell BK184.out 1).trans rfl, (blk_cell BK184.out 2).trans rfl, (blk_cell BK184.out 3).trans rfl, (blk_cell BK184.out 4).trans rfl⟩ (fun hHeld => ?_)
        clear hK K
        refine norm_ (a' := ?_) ?_ ?_
        rotate_left
        ·show Act.put _ (some 34) _ = _
         simp only [Act.put, q1_, q2_, q3_, i64_w, i32_w]
         rfl
        refine pure_ (i := 6) (N := some 28) (v := ?_) (a' := ?_) #[Y,Y,Y,Y,Y,Y,Y,Z,Z,Z,Y,Z,Z,Z] rfl rfl (any_of HT_.out (by kernel_rfl)) (fun _ _ _ h => h) (Or.inl ⟨by rfl, ?_⟩) ?_ ?_
        rotate_left
        ·intro w';go_simp;with_reducible rfl
        rotate_left
        ·simp only [Act.put, q1_, q2_, q3_, i64_w, i32_w];rfl
        refine pure_ (i := 7) (N := some 35) (v := ?_) (a' := ?_) #[Y,Y,Y,Y,Y,Y,Y,Y,Z,Z,Y,Z,Z,Z] rfl rfl (any_of HT_.out (by kernel_rfl)) (fun _ _ _ h => h) (Or.inl ⟨by rfl, ?_⟩) ?_ ?_
        rotate_left
        ·intro w';go_simp;with_reducible rfl
        rotate_left
        ·simp only [Act.put, q1_, q2_, q3_, i64_w, i32_w];rfl
        refine pure_ (i := 8) (N := some 36) (v := ?_) (a' := ?_) #[Y,Y,Y,Y,Y,Y,Y,Y,Y,Z,Y,Z,Z,Z] rfl rfl (any_of HT_.out (by kernel_rfl)) (fun _ _ _ h => h) (Or.inl ⟨by rfl, ?_⟩) ?_ ?_
        rotate_left
        ·intro w';go_simp;with_reducible rfl
        rotate_left
        ·simp only [Act.put, q1_, q2_, q3_, i64_w, i32_w];rfl
        refine pure_ (i := 9) (N := some 37) (v := ?_) (a' := ?_) #[Y,Y,Y,Y,Y,Y,Y,Y,Y,Y,Y,Z,Z,Z] rfl rfl (any_of HT_.out (by kernel_rfl)) (fun _ _ _ h => h) (Or.inl ⟨by rfl, ?_⟩) ?_ ?_
        rotate_left
        ·intro w';go_simp;with_reducible rfl
        rotate_left
        ·simp only [Act.put, q1_, q2_, q3_, i64_w, i32_w];rfl
        exact norm_ (by simp only [putAll, Act.put, q1_, q2_, q3_]) (hCont (.slice Ao40 t189.length co40, v198, gb201) _ ⟨hHeld, (kR HO191.out), (kR HO199.out), (kA BK182.out), (kA BK183.out), (kA BK184.out), (kA BK201.out), GW201.out, GE201.out, NB182_201.out, NB201_182.out, NB183_201.out, NB201_183.out, NB184_201.out, NB201_184.out, (kB HB.out)⟩)
      rintro ⟨v190, v198, gb201⟩ w42 ⟨hS_, h0_, h1_, h2_, h3_, h4_, h5_, h6_, h7_, h8_, h9_, h10_, h11_, h12_, h13_, h14_⟩
      have n0_ : Aside0 (Kd.R k46 46 w42 w.heap.size (fun _ => True) v190 t189) := ⟨h0_⟩
      have n1_ : Aside0 (Kd.R k48 48 w42 w.heap.size (fun _ => True) v198 t197) := ⟨h1_⟩
      have n2_ : Aside0 (w42.heap[gb182]? = some (.cells #[.int .i64 a0_0, .slice A0_1 l0_1.length c0_1] 24 (0, 0))) := ⟨h2_⟩
      have n3_ : Aside0 (w42.heap[gb183]? = some (.cells #[.string a1_0, .int .i64 a1_1, .int .i64 a1_2] 26 (0, 0))) := ⟨h3_⟩
      have n4_ : Aside0 (w42.heap[gb184]? = some (.cells #[.int .i64 a3_0, .int .i64 a3_1, .bool a3_2, .bool a3_3, .int .i64 a3_4] 28 (0, 0))) := ⟨h4_⟩
      have n5_ : Aside0 (w42.heap[gb201]? = some (.cells #[.int .i64 0, .int .i64 0, .bool false, .bool false, .int .i64 0] 28 (0, 0))) := ⟨h5_⟩
      have n6_ : Aside0 (w.heap.size ≤ gb201) := ⟨h6_⟩
      have n7_ : Aside0 (w.heap.size ≤ gb201) := ⟨h7_⟩
      have n8_ : Aside0 (gb182 ≠ gb201) := ⟨h8_⟩
      have n9_ : Aside0 (gb201 ≠ gb182) := ⟨h9_⟩
      have n10_ : Aside0 (gb183 ≠ gb201) := ⟨h10_⟩
      have n11_ : Aside0 (gb201 ≠ gb183) := ⟨h11_⟩
      have n12_ : Aside0 (gb184 ≠ gb201) := ⟨h12_⟩
      have n13_ : Aside0 (gb201 ≠ gb184) := ⟨h13_⟩
      have n14_ : Aside0 (Below w.heap.size w w42) := ⟨h14_⟩
      clear BK182
      clear BK183
      clear BK184
      clear HB
      clear h0_ h1_ h2_ h3_ h4_ h5_ h6_ h7_ h8_ h9_ h10_ h11_ h12_ h13_ h14_
      have HO191 := n0_
      have HO199 := n1_
      have BK182 := n2_
      have BK183 := n3_
      have BK184 := n4_
      have BK201 := n5_
      have GW201 := n6_
      have GE201 := n7_
      have NB182_201 := n8_
      have NB201_182 := n9_
      have NB183_201 := n10_
      have NB201_183 := n11_
      have NB184_201 := n12_
      have NB201_184 := n13_
      have HB := n14_
      clear n0_ n1_ n2_ n3_ n4_ n5_ n6_ n7_ n8_ n9_ n10_ n11_ n12_ n13_ n14_
      have hHeld : w42.cell? ⟨gb182, 0, none⟩ = some (.int .i64 a0_0) ∧ w42.cell? ⟨gb182, 1, none⟩ = some (.slice A0_1 l0_1.length c0_1) ∧ w42.cell? ⟨gb183, 0, none⟩ = some (.string a1_0) ∧ w42.cell? ⟨gb183, 1, none⟩ = some (.int .i64 a1_1) ∧ w42.cell? ⟨gb183, 2, none⟩ = some (.int .i64 a1_2) ∧ w42.cell? ⟨gb184, 0, none⟩ = some (.int .i64 a3_0) ∧ w42.cell? ⟨gb184, 1, none⟩ = some (.int .i64 a3_1) ∧ w42.cell? ⟨gb184, 2, none⟩ = some (.bool a3_2) ∧ w42.cell? ⟨gb184, 3, none⟩ = some (.bool a3_3) ∧ w42.cell? ⟨gb184, 4, none⟩ = some (.int .i64 a3_4) := hS_
      refine norm_ (a' := ?_) ?_ ?_
      rotate_left
      ·simp only [putAll, Act.put, q1_, q2_, q3_]
       rfl
      refine one_ (i := 11) (N := none) #[Y,Y,Y,Y,Y,Y,Y,Y,Y,Y,Y,Y,Z,Z] rfl rfl (one_of HT_.out (by kernel_rfl)) (by decide) (fun K hK => ?_)
      have hs43 : w42.cell? ⟨gb201, 0, none⟩ = some (.int .i64 0) := (blk_cell BK201.out 0).trans rfl
      have hfs43 := blk_frozen BK201.out 0
      have hns43_0 := NB182_201.out
      have hns43_1 := NB183_201.out
      have hns43_2 := NB184_201.out
      have hms43_0 := NB201_182.out
      have hms43_1 := NB201_183.out
      have hms43_2 := NB201_184.out
      have hs44 : w42.cell? ⟨gb201, 1, none⟩ = some (.int .i64 0) := (blk_cell BK201.out 1).trans rfl
      have hfs44 := blk_frozen BK201.out 1
      have hns44_0 := NB182_201.out
      have hns44_1 := NB183_201.out
      have hns44_2 := NB184_201.out
      have hms44_0 := NB201_182.out
      have hms44_1 := NB201_183.out
      have hms44_2 := NB201_184.out
      have hs45 : w42.cell? ⟨gb201, 2, none⟩ = some (.bool false) := (blk_cell BK201.out 2).trans rfl
      have hfs45 := blk_frozen BK201.out 2
      have hns45_0 := NB182_201.out
      have hns45_1 := NB183_201.out
      have hns45_2 := NB184_201.out
      have hms45_0 := NB201_182.out
      have hms45_1 := NB201_183.out
      have hms45_2 := NB201_184.out
      have hs46 : w42.cell? ⟨gb201, 3, none⟩ = some (.bool false) := (blk_cell BK201.out 3).trans rfl
      have hfs46 := blk_frozen BK201.out 3
      have hns46_0 := NB182_201.out
      have hns46_1 := NB183_201.out
      have hns46_2 := NB184_201.out
      have hms46_0 := NB201_182.out
      have hms46_1 := NB201_183.out
      have hms46_2 := NB201_184.out
      have hs47 : w42.cell? ⟨gb201, 4, none⟩ = some (.int .i64 0) := (blk_cell BK201.out 4).trans rfl
      have hfs47 := blk_frozen BK201.out 4
      have hns47_0 := NB182_201.out
      have hns47_1 := NB183_201.out
      have hns47_2 := NB184_201.out
      have hms47_0 := NB201_182.out
      have hms47_1 := NB201_183.out
      have hms47_2 := NB201_184.out
      refine skip_ (w1 := ?_) (by rfl) rfl ?_ ?_
      rotate_left
      ·go_simp
       rfl
      refine hK.out _ _ ⟨((cell_far (p := ⟨gb201, _, none⟩) NB182_201.out _).trans (((cell_far (p := ⟨gb201, _, none⟩) NB182_201.out _).trans (((cell_far (p := ⟨gb201, _, none⟩) NB182_201.out _).trans (((cell_far (p := ⟨gb201, _, none⟩) NB182_201.out _).trans (((cell_far (p := ⟨gb201, _, none⟩) NB182_201.out _).trans (hHeld.1)))))))))), ((cell_far (p := ⟨gb201, _, none⟩) NB182_201.out _).trans (((cell_far (p := ⟨gb201, _, none⟩) NB182_201.out _).trans (((cell_far (p := ⟨gb201, _, none⟩) NB182_201.out _).trans (((cell_far (p := ⟨gb201, _, none⟩) NB182_201.out _).trans (((cell_far (p := ⟨gb201, _, none⟩) NB182_201.out _).trans (hHeld.2.1)))))))))), ((cell_far (p := ⟨gb201, _, none⟩) NB183_201.out _).trans (((cell_far (p := ⟨gb201, _, none⟩) NB183_201.out _).trans (((cell_far (p := ⟨gb201, _, none⟩) NB183_201.out _).trans (((cell_far (p := ⟨gb201, _, none⟩) NB183_201.out _).trans (((cell_far (p := ⟨gb201, _, none⟩) NB183_201.out _).trans (hHeld.2.2.1)))))))))), ((cell_far (p := ⟨gb201, _, none⟩) NB183_201.out _).trans (((cell_far (p := ⟨gb201, _, none⟩) NB183_201.out _).trans (((cell_far (p := ⟨gb201, _, none⟩) NB183_201.out _).trans (((cell_far (p := ⟨gb201, _, none⟩) NB183_201.out _).trans (((cell_far (p := ⟨gb201, _, none⟩) NB183_201.out _).trans (hHeld.2.2.2.1)))))))))), ((cell_far (p := ⟨gb201, _, none⟩) NB183_201.out _).trans (((cell_far (p := ⟨gb201, _, none⟩) NB183_201.out _).trans (((cell_far (p := ⟨gb201, _, none⟩) NB183_201.out _).trans (((cell_far (p := ⟨gb201, _, none⟩) NB183_201.out _).trans (((cell_far (p := ⟨gb201, _, none⟩) NB183_201.out _).trans (hHeld.2.2.2.2.1)))))))))), ((cell_far (p := ⟨gb201, _, none⟩) NB184_201.out _).trans (((cell_far (p := ⟨gb201, _, none⟩) NB184_201.out _).trans (((cell_far (p := ⟨gb201, _, none⟩) NB184_201.out _).trans (((cell_far (p := ⟨gb201, _, none⟩) NB184_201.out _).trans (((cell_far (p := ⟨gb201, _, none⟩) NB184_201.out _).trans (hHeld.2.2.2.2.2.1)))))))))), ((cell_far (p := ⟨gb201, _, none⟩) NB184_201.out _).trans (((cell_far (p := ⟨gb201, _, none⟩) NB184_201.out _).trans (((cell_far (p := ⟨gb201, _, none⟩) NB184_201.out _).trans (((cell_far (p := ⟨gb201, _, none⟩) NB184_201.out _).trans (((cell_far (p := ⟨gb201, _, none⟩) NB184_201.out _).trans (hHeld.2.2.2.2.2.2.1)))))))))), ((cell_far (p := ⟨gb201, _, none⟩) NB184_201.out _).trans (((cell_far (p := ⟨gb201, _, none⟩) NB184_201.out _).trans (((cell_far (p := ⟨gb201, _, none⟩) NB184_201.out _).trans (((cell_far (p := ⟨gb201, _, none⟩) NB184_201.out _).trans (((cell_far (p := ⟨gb201, _, none⟩) NB184_201.out _).trans (hHeld.2.2.2.2.2.2.2.1)))))))))), ((cell_far (p := ⟨gb201, _, none⟩) NB184_201.out _).trans (((cell_far (p := ⟨gb201, _, none⟩) NB184_201.out _).trans (((cell_far (p := ⟨gb201, _, none⟩) NB184_201.out _).trans (((cell_far (p := ⟨gb201, _, none⟩) NB184_201.out _).trans (((cell_far (p := ⟨gb201, _, none⟩) NB184_201.out _).trans (hHeld.2.2.2.2.2.2.2.2.1)))))))))), ((cell_far (p := ⟨gb201, _, none⟩) NB184_201.out _).trans (((cell_far (p := ⟨gb201, _, none⟩) NB184_201.out _).trans (((cell_far (p := ⟨gb201, _, none⟩) NB184_201.out _).trans (((cell_far (p := ⟨gb201, _, none⟩) NB184_201.out _).trans (((cell_far (p := ⟨gb201, _, none⟩) NB184_201.out _).trans (hHeld.2.2.2.2.2.2.2.2.2))))))))))⟩ (fun hHeld => ?_)
      clear hK K
      refine pure_ (i := 12) (N := some 11) (v := ?_) (a' := ?_) #[Y,Y,Y,Y,Y,Y,Y,Y,Y,Y,Y,Y,Y,Z] rfl rfl (any_of HT_.out (by kernel_rfl)) (fun _ _ _ h => h) (Or.inl ⟨by rfl, ?_⟩) ?_ ?_
      rotate_left
      ·intro w';go_simp;with_reducible rfl
      rotate_left
      ·simp only [Act.put, q1_, q2_, q3_, i64_w, i32_w];rfl
      refine pure_ (i := 13) (N := some 12) (v := ?_) (a' := ?_) #[Y,Y,Y,Y,Y,Y,Y,Y,Y,Y,Y,Y,Y,Y] rfl rfl (any_of HT_.out (by kernel_rfl)) (fun _ _ _ h => h) (Or.inl ⟨by rfl, ?_⟩) ?_ ?_
      rotate_left
      ·intro w';go_simp;with_reducible rfl
      rotate_left
      ·simp only [Act.put, q1_, q2_, q3_, i64_w, i32_w];rfl
      refine done_ (done_of HT_.out (by kernel_rfl)) ?_
      have hnb48 := NB182_183.out
      have hnc48 := NB183_182.out
      have hnb49 := NB182_184.out
      have hnc49 := NB184_182.out
      have hnb50 := NB182_201.out
      have hnc50 := NB201_182.out
      have hcz51_0 : w42.cell? ⟨gb182, 0, none⟩ = some (.int .i64 a0_0) := (blk_cell BK182.out 0).trans rfl
      have hcz51_1 : w42.cell? ⟨gb182, 1, none⟩ = some (.slice A0_1 l0_1.length c0_1) := (blk_cell BK182.out 1).trans rfl
      have hfz51_0 := blk_frozen BK182.out 0
      have hfz51_1 := blk_frozen BK182.out 1
      have hnb52 := NB183_184.out
      have hnc52 := NB184_183.out
      have hnb53 := NB183_201.out
      have hnc53 := NB201_183.out
      have hcz54_0 : w42.cell? ⟨gb183, 0, none⟩ = some (.string a1_0) := (blk_cell BK183.out 0).trans rfl
      have hcz54_1 : w42.cell? ⟨gb183, 1, none⟩ = some (.int .i64 a1_1) := (blk_cell BK183.out 1).trans rfl
      have hcz54_2 : w42.cell? ⟨gb183, 2, none⟩ = some (.int .i64 a1_2) := (blk_cell BK183.out 2).trans rfl
      have hfz54_0 := blk_frozen BK183.out 0
      have hfz54_1 := blk_frozen BK183.out 1
      have hfz54_2 := blk_frozen BK183.out 2
      have hnb55 := NB184_201.out
      have hnc55 := NB201_184.out
      have hcz56_0 : w42.cell? ⟨gb184, 0, none⟩ = some (.int .i64 a3_0) := (blk_cell BK184.out 0).trans rfl
      have hcz56_1 : w42.cell? ⟨gb184, 1, none⟩ = some (.int .i64 a3_1) := (blk_cell BK184.out 1).trans rfl
      have hcz56_2 : w42.cell? ⟨gb184, 2, none⟩ = some (.bool a3_2) := (blk_cell BK184.out 2).trans rfl
      have hcz56_3 : w42.cell? ⟨gb184, 3, none⟩ = some (.bool a3_3) := (blk_cell BK184.out 3).trans rfl
      have hcz56_4 : w42.cell? ⟨gb184, 4, none⟩ = some (.int .i64 a3_4) := (blk_cell BK184.out 4).trans rfl
      have hfz56_0 := blk_frozen BK184.out 0
      have hfz56_1 := blk_frozen BK184.out 1
      have hfz56_2 := blk_frozen BK184.out 2
      have hfz56_3 := blk_frozen BK184.out 3
      have hfz56_4 := blk_frozen BK184.out 4
      try go_wp2_with (first | ((with_reducible refine gate_callee (f := 14) rfl ?_); refine goesL_ (some 43) rfl rfl Try.func14 (by kernel_rfl) rfl #[.agg #[.int .i64 a0_0, .slice A0_1 l0_1.length c0_1], .agg #[.string a1_0, .int .i64 a1_1, .int .i64 a1_2], .int .i64 a2, .agg #[.int .i64 a3_0, .int .i64 a3_1, .bool a3_2, .bool a3_3, .int .i64 a3_4]] rfl (by (try simp only [List.map_toArray, List.map_cons, List.map_nil]); first | done | rfl | (simp only [List.length_drop, List.length_take]; rfl)) ?_; (with_reducible refine (modillionref07_Step.calls kj19 a0_0 _ _ l0_1 a1_0 a1_1 a1_2 a2 a3_0 a3_1 a3_2 a3_3 a3_4 t202 t203 t204 t205 t206 t207 t210 _ ?side1 ?side2 A30.out).mono ?_); (case side1 => exact Kd.C_below HR0_1.out (kB HB.out)); (case side2 => exact HC0_1.out); rintro e w57 ⟨v208, rfl, ho0, hb⟩; refine ⟨_, rfl, ?_⟩; have n0_ := Aside0.mk (Kd.R_below (by (with_reducible repeat (first | apply Kd.R_alloc | apply Kd.R_drewN | apply Kd.R_drew)); exact (Kd.R_mono (Kd.R_far (p := ⟨gb201, 4, none⟩) (Kd.R_far (p := ⟨gb201, 3, none⟩) (Kd.R_far (p := ⟨gb201, 2, none⟩) (Kd.R_far (p := ⟨gb201, 1, none⟩) (Kd.R_far (p := ⟨gb201, 0, none⟩) (Kd.R_types HO191.out BK201.out (by decide)) (fun _ hk => hk.2) (.int .i64 t192)) (fun _ hk => hk.2) (.int .i64 t193)) (fun _ hk => hk.2) (.bool t194)) (fun _ hk => hk.2) (.bool t195)) (fun _ hk => hk.2) (.int .i64 t196)) (fun _ h_ => h_.1))) hb); have n1_ := Aside0.mk (Kd.R_elder' (by (with_reducible repeat (first | apply Kd.R_alloc | apply Kd.R_drewN | apply Kd.R_drew)); exact (Kd.R_mono (Kd.R_far (p := ⟨gb201, 4, none⟩) (Kd.R_far (p := ⟨gb201, 3, none⟩) (Kd.R_far (p := ⟨gb201, 2, none⟩) (Kd.R_far (p := ⟨gb201, 1, none⟩) (Kd.R_far (p := ⟨gb201, 0, none⟩) (Kd.R_types HO199.out BK201.out (by decide)) (fun _ hk => hk.2) (.int .i64 t192)) (fun _ hk => hk.2) (.int .i64 t193)) (fun _ hk => hk.2) (.bool t194)) (fun _ hk => hk.2) (.bool t195)) (fun _ hk => hk.2) (.int .i64 t196)) (fun _ h_ => h_.1))) (Kd.R_base ho0) hb); have n2_ := Aside0.mk (Kd.R_lower (Kd.R_new' ho0 (Kd.R_lt (by (with_reducible repeat (first | apply Kd.R_alloc | apply Kd.R_drewN | apply Kd.R_drew)); exact (Kd.R_mono (Kd.R_far (p := ⟨gb201, 4, none⟩) (Kd.R_far (p := ⟨gb201, 3, none⟩) (Kd.R_far (p := ⟨gb201, 2, none⟩) (Kd.R_far (p := ⟨gb201, 1, none⟩) (Kd.R_far (p := ⟨gb201, 0, none⟩) (Kd.R_types HO199.out BK201.out (by decide)) (fun _ hk => hk.2) (.int .i64 t192)) (fun _ hk => hk.2) (.int .i64 t193)) (fun _ hk => hk.2) (.bool t194)) (fun _ hk => hk.2) (.bool t195)) (fun _ hk => hk.2) (.int .i64 t196)) (fun _ h_ => h_.1))))) (below_size (kB HB.out))); have n3_ := Aside0.mk (blk_below (g := gb182) (o := .cells #[.int .i64 a0_0, .slice A0_1 l0_1.length c0_1] 24 (0, 0)) (kF NB182_201.out BK182.out) hb); have n4_ := Aside0.mk (blk_below (g := gb183) (o := .cells #[.string a1_0, .int .i64 a1_1, .int .i64 a1_2] 26 (0, 0)) (kF NB183_201.out BK183.out) hb); have n5_ := Aside0.mk (blk_below (g := gb184) (o := .cells #[.int .i64 a3_0, .int .i64 a3_1, .bool a3_2, .bool a3_3, .int .i64 a3_4] 28 (0, 0)) (kF NB184_201.out BK184.out) hb); have n6_ := Aside0.mk (blk_below (g := gb201) (o := .cells #[.int .i64 t192, .int .i64 t193, .bool t194, .bool t195, .int .i64 t196] 28 (0, 0)) (by (with_reducible repeat (first | refine blk_drewN ?_ _ | refine blk_drew ?_ | refine blk_alloc ?_ _)); refine blk_put (cs := #[.int .i64 t192, .int .i64 t193, .bool t194, .bool t195, .int .i64 0]) ?_ 4 _ rfl; refine blk_put (cs := #[.int .i64 t192, .int .i64 t193, .bool t194, .bool false, .int .i64 0]) ?_ 3 _ rfl; refine blk_put (cs := #[.int .i64 t192, .int .i64 t193, .bool false, .bool false, .int .i64 0]) ?_ 2 _ rfl; refine blk_put (cs := #[.int .i64 t192, .int .i64 0, .bool false, .bool false, .int .i64 0]) ?_ 1 _ rfl; refine blk_put (cs := #[.int .i64 0, .int .i64 0, .bool false, .bool false, .int .i64 0]) ?_ 0 _ rfl; exact kA BK201.out) hb); have n7_ := Aside0.mk (below_step (kB HB.out) hb); clear HO191; clear HO199; clear BK182; clear BK183; clear BK184; clear BK201; clear HB; have HO191 := n0_; have HO199 := n1_; have HO209 := n2_; have BK182 := n3_; have BK183 := n4_; have BK184 := n5_; have BK201 := n6_; have HB := n7_; clear n0_ n1_ n2_ n3_ n4_ n5_ n6_ n7_; (try clear hb); (try clear hb2); (try clear hk); (try clear hi); (try clear ho0)) | ((with_reducible refine gate_dst (N := 13) rfl ?_); (try (refine gate_guard (by rfl) ?_; dsimp only)); refine box_event ?hg (N := 13) ?hd (cs := #[.int .i64 0, .int .i64 0, .bool false, .bool false, .int .i64 0]) (t := 28) ?hr ?_; (case hd => rfl); (case hg => rfl); (case hr => first | (go_simp; done) | (go_simp; rfl)); intro gb211 hg w58 hbox hb; have n0_ := Aside0.mk (Kd.R_below (kR HO191.out) hb); have n1_ := Aside0.mk (Kd.R_below (kR HO199.out) hb); have n2_ := Aside0.mk (Kd.R_below (kR HO209.out) hb); have n3_ := Aside0.mk (blk_below (g := gb182) (o := .cells #[.int .i64 a0_0, .slice A0_1 l0_1.length c0_1] 24 (0, 0)) (kA BK182.out) hb); have n4_ := Aside0.mk (blk_below (g := gb183) (o := .cells #[.string a1_0, .int .i64 a1_1, .int .i64 a1_2] 26 (0, 0)) (kA BK183.out) hb); have n5_ := Aside0.mk (blk_below (g := gb184) (o := .cells #[.int .i64 a3_0, .int .i64 a3_1, .bool a3_2, .bool a3_3, .int .i64 a3_4] 28 (0, 0)) (kA BK184.out) hb); have n6_ := Aside0.mk (blk_below (g := gb201) (o := .cells #[.int .i64 t192, .int .i64 t193, .bool t194, .bool t195, .int .i64 t196] 28 (0, 0)) (kA BK201.out) hb); have n7_ := Aside0.mk (below_step (kB HB.out) hb); have n8_ := Aside0.mk (hbox); have n9_ := Aside0.mk ((by rw [hg]; exact (below_size (kB HB.out)) : w.heap.size ≤ gb211)); have n10_ := Aside0.mk ((by rw [hg]; exact (below_size (kB HB.out)) : w.heap.size ≤ gb211)); have n11_ := Aside0.mk ((by rw [hg]; exact Nat.ne_of_lt (blk_lt (g := gb182) (o := .cells #[.int .i64 a0_0, .slice A0_1 l0_1.length c0_1] 24 (0, 0)) (kA BK182.out)) : gb182 ≠ gb211)); have n12_ := Aside0.mk ((by rw [hg]; exact Nat.ne_of_gt (blk_lt (g := gb182) (o := .cells #[.int .i64 a0_0, .slice A0_1 l0_1.length c0_1] 24 (0, 0)) (kA BK182.out)) : gb211 ≠ gb182)); have n13_ := Aside0.mk ((by rw [hg]; exact Nat.ne_of_lt (blk_lt (g := gb183) (o := .cells #[.string a1_0, .int .i64 a1_1, .int .i64 a1_2] 26 (0, 0)) (kA BK183.out)) : gb183 ≠ gb211)); have n14_ := Aside0.mk ((by rw [hg]; exact Nat.ne_of_gt (blk_lt (g := gb183) (o := .cells #[.string a1_0, .int .i64 a1_1, .int .i64 a1_2] 26 (0, 0)) (kA BK183.out)) : gb211 ≠ gb183)); have n15_ := Aside0.mk ((by rw [hg]; exact Nat.ne_of_lt (blk_lt (g := gb184) (o := .cells #[.int .i64 a3_0, .int .i64 a3_1, .bool a3_2, .bool a3_3, .int .i64 a3_4] 28 (0, 0)) (kA BK184.out)) : gb184 ≠ gb211)); have n16_ := Aside0.mk ((by rw [hg]; exact Nat.ne_of_gt (blk_lt (g := gb184) (o := .cells #[.int .i64 a3_0, .int .i64 a3_1, .bool a3_2, .bool a3_3, .int .i64 a3_4] 28 (0, 0)) (kA BK184.out)) : gb211 ≠ gb184)); have n17_ := Aside0.mk ((by rw [hg]; exact Nat.ne_of_lt (blk_lt (g := gb201) (o := .cells #[.int .i64 t192, .int .i64 t193, .bool t194, .bool t195, .int .i64 t196] 28 (0, 0)) (kA BK201.out)) : gb201 ≠ gb211)); have n18_ := Aside0.mk ((by rw [hg]; exact Nat.ne_of_gt (blk_lt (g := gb201) (o := .cells #[.int .i64 t192, .int .i64 t193, .bool t194, .bool t195, .int .i64 t196] 28 (0, 0)) (kA BK201.out)) : gb211 ≠ gb201)); clear HO191; clear HO199; clear HO209; clear BK182; clear BK183; clear BK184; clear BK201; clear HB; have HO191 := n0_; have HO199 := n1_; have HO209 := n2_; have BK182 := n3_; have BK183 := n4_; have BK184 := n5_; have BK201 := n6_; have HB := n7_; have BK211 := n8_; have GW211 := n9_; have GE211 := n10_; have NB182_211 := n11_; have NB211_182 := n12_; have NB183_211 := n13_; have NB211_183 := n14_; have NB184_211 := n15_; have NB211_184 := n16_; have NB201_211 := n17_; have NB211_201 := n18_; clear n0_ n1_ n2_ n3_ n4_ n5_ n6_ n7_ n8_ n9_ n10_ n11_ n12_ n13_ n14_ n15_ n16_ n17_ n18_; clear hb hbox hg; have hnb59 := NB211_182.out; have hnc59 := NB182_211.out; have hnb60 := NB211_183.out; have hnc60 := NB183_211.out; have hnb61 := NB211_184.out; have hnc61 := NB184_211.out; have hnb62 := NB211_201.out; have hnc62 := NB201_211.out; have hcz63_0 : w58.cell? ⟨gb211, 0, none⟩ = some (.int .i64 0) := (blk_cell BK211.out 0).trans rfl; have hcz63_1 : w58.cell? ⟨gb211, 1, none⟩ = some (.int .i64 0) := (blk_cell BK211.out 1).trans rfl; have hcz63_2 : w58.cell? ⟨gb211, 2, none⟩ = some (.bool false) := (blk_cell BK211.out 2).trans rfl; have hcz63_3 : w58.cell? ⟨gb211, 3, none⟩ = some (.bool false) := (blk_cell BK211.out 3).trans rfl; have hcz63_4 : w58.cell? ⟨gb211, 4, none⟩ = some (.int .i64 0) := (blk_cell BK211.out 4).trans rfl; have hfz63_0 := blk_frozen BK211.out 0; have hfz63_1 := blk_frozen BK211.out 1; have hfz63_2 := blk_frozen BK211.out 2; have hfz63_3 := blk_frozen BK211.out 3; have hfz63_4 := blk_frozen BK211.out 4))
      have n0_ : Aside0 (Kd.R k46 46 (((((w58.setCell ⟨gb211, 0, none⟩ (.int .i64 t202)).setCell ⟨gb211, 1, none⟩ (.int .i64 t203)).setCell ⟨gb211, 2, none⟩ (.bool t204)).setCell ⟨gb211, 3, none⟩ (.bool t205)).setCell ⟨gb211, 4, none⟩ (.int .i64 t206)) w.heap.size (fun _ => True) v190 t189) := ⟨by (with_reducible repeat (first | apply Kd.R_alloc | apply Kd.R_drewN | apply Kd.R_drew)); exact Kd.R_mono (Kd.R_far (p := ⟨gb211, 4, none⟩) (Kd.R_far (p := ⟨gb211, 3, none⟩) (Kd.R_far (p := ⟨gb211, 2, none⟩) (Kd.R_far (p := ⟨gb211, 1, none⟩) (Kd.R_far (p := ⟨gb211, 0, none⟩) (Kd.R_types HO191.out BK211.out (by decide)) (fun _ hk => hk.2) (.int .i64 t202)) (fun _ hk => hk.2) (.int .i64 t203)) (fun _ hk => hk.2) (.bool t204)) (fun _ hk => hk.2) (.bool t205)) (fun _ hk => hk.2) (.int .i64 t206)) (fun _ hk => trivial)⟩
      have n1_ : Aside0 (Kd.R k48 48 (((((w58.setCell ⟨gb211, 0, none⟩ (.int .i64 t202)).setCell ⟨gb211, 1, none⟩ (.int .i64 t203)).setCell ⟨gb211, 2, none⟩ (.bool t204)).setCell ⟨gb211, 3, none⟩ (.bool t205)).setCell ⟨gb211, 4, none⟩ (.int .i64 t206)) w.heap.size (fun k_ => some k_ ≠ (v208 : Value).ownBlock) v198 t197) := ⟨by (with_reducible repeat (first | apply Kd.R_alloc | apply Kd.R_drewN | apply Kd.R_drew)); exact Kd.R_mono (Kd.R_far (p := ⟨gb211, 4, none⟩) (Kd.R_far (p := ⟨gb211, 3, none⟩) (Kd.R_far (p := ⟨gb211, 2, none⟩) (Kd.R_far (p := ⟨gb211, 1, none⟩) (Kd.R_far (p := ⟨gb211, 0, none⟩) (Kd.R_types HO199.out BK211.out (by decide)) (fun _ hk => hk.2) (.int .i64 t202)) (fun _ hk => hk.2) (.int .i64 t203)) (fun _ hk => hk.2) (.bool t204)) (fun _ hk => hk.2) (.bool t205)) (fun _ hk => hk.2) (.int .i64 t206)) (fun _ hk => hk.1.2)⟩
      have n2_ : Aside0 (Kd.R k48 48 (((((w58.setCell ⟨gb211, 0, none⟩ (.int .i64 t202)).setCell ⟨gb211, 1, none⟩ (.int .i64 t203)).setCell ⟨gb211, 2, none⟩ (.bool t204)).setCell ⟨gb211, 3, none⟩ (.bool t205)).setCell ⟨gb211, 4, none⟩ (.int .i64 t206)) w.heap.size (fun k_ => some k_ ≠ (v198 : Value).ownBlock) v208 t207) := ⟨by (with_reducible repeat (first | apply Kd.R_alloc | apply Kd.R_drewN | apply Kd.R_drew)); exact Kd.R_mono (Kd.R_far (p := ⟨gb211, 4, none⟩) (Kd.R_far (p := ⟨gb211, 3, none⟩) (Kd.R_far (p := ⟨gb211, 2, none⟩) (Kd.R_far (p := ⟨gb211, 1, none⟩) (Kd.R_far (p := ⟨gb211, 0, none⟩) (Kd.R_types HO209.out BK211.out (by decide)) (fun _ hk => hk.2) (.int .i64 t202)) (fun _ hk => hk.2) (.int .i64 t203)) (fun _ hk => hk.2) (.bool t204)) (fun _ hk => hk.2) (.bool t205)) (fun _ hk => hk.2) (.int .i64 t206)) (fun _ hk => hk.1.2)⟩
      have n3_ : Aside0 ((((((w58.setCell ⟨gb211, 0, none⟩ (.int .i64 t202)).setCell ⟨gb211, 1, none⟩ (.int .i64 t203)).setCell ⟨gb211, 2, none⟩ (.bool t204)).setCell ⟨gb211, 3, none⟩ (.bool t205)).setCell ⟨gb211, 4, none⟩ (.int .i64 t206)).heap[gb182]? = some (.cells #[.int .i64 a0_0, .slice A0_1 l0_1.length c0_1] 24 (0, 0))) := ⟨kF NB182_211.out BK182.out⟩
      have n4_ : Aside0 ((((((w58.setCell ⟨gb211, 0, none⟩ (.int .i64 t202)).setCell ⟨gb211, 1, none⟩ (.int .i64 t203)).setCell ⟨gb211, 2, none⟩ (.bool t204)).setCell ⟨gb211, 3, none⟩ (.bool t205)).setCell ⟨gb211, 4, none⟩ (.int .i64 t206)).heap[gb183]? = some (.cells #[.string a1_0, .int .i64 a1_1, .int .i64 a1_2] 26 (0, 0))) := ⟨kF NB183_211.out BK183.out⟩
      have n5_ : Aside0 ((((((w58.setCell ⟨gb211, 0, none⟩ (.int .i64 t202)).setCell ⟨gb211, 1, none⟩ (.int .i64 t203)).setCell ⟨gb211, 2, none⟩ (.bool t204)).setCell ⟨gb211, 3, none⟩ (.bool t205)).setCell ⟨gb211, 4, none⟩ (.int .i64 t206)).heap[gb184]? = some (.cells #[.int .i64 a3_0, .int .i64 a3_1, .bool a3_2, .bool a3_3, .int .i64 a3_4] 28 (0, 0))) := ⟨kF NB184_211.out BK184.out⟩
      have n6_ : Aside0 ((((((w58.setCell ⟨gb211, 0, none⟩ (.int .i64 t202)).setCell ⟨gb211, 1, none⟩ (.int .i64 t203)).setCell ⟨gb211, 2, none⟩ (.bool t204)).setCell ⟨gb211, 3, none⟩ (.bool t205)).setCell ⟨gb211, 4, none⟩ (.int .i64 t206)).heap[gb201]? = some (.cells #[.int .i64 t192, .int .i64 t193, .bool t194, .bool t195, .int .i64 t196] 28 (0, 0))) := ⟨kF NB201_211.out BK201.out⟩
      have n7_ : Aside0 ((((((w58.setCell ⟨gb211, 0, none⟩ (.int .i64 t202)).setCell ⟨gb211, 1, none⟩ (.int .i64 t203)).setCell ⟨gb211, 2, none⟩ (.bool t204)).setCell ⟨gb211, 3, none⟩ (.bool t205)).setCell ⟨gb211, 4, none⟩ (.int .i64 t206)).heap[gb211]? = some (.cells #[.int .i64 t202, .int .i64 t203, .bool t204, .bool t205, .int .i64 t206] 28 (0, 0))) := ⟨by (with_reducible repeat (first | refine blk_drewN ?_ _ | refine blk_drew ?_ | refine blk_alloc ?_ _)); refine blk_put (cs := #[.int .i64 t202, .int .i64 t203, .bool t204, .bool t205, .int .i64 0]) ?_ 4 _ rfl; refine blk_put (cs := #[.int .i64 t202, .int .i64 t203, .bool t204, .bool false, .int .i64 0]) ?_ 3 _ rfl; refine blk_put (cs := #[.int .i64 t202, .int .i64 t203, .bool false, .bool false, .int .i64 0]) ?_ 2 _ rfl; refine blk_put (cs := #[.int .i64 t202, .int .i64 0, .bool false, .bool false, .int .i64 0]) ?_ 1 _ rfl; refine blk_put (cs := #[.int .i64 0, .int .i64 0, .bool false, .bool false, .int .i64 0]) ?_ 0 _ rfl; exact kA BK211.out⟩
      have n8_ : Aside0 (Below w.heap.size w (((((w58.setCell ⟨gb211, 0, none⟩ (.int .i64 t202)).setCell ⟨gb211, 1, none⟩ (.int .i64 t203)).setCell ⟨gb211, 2, none⟩ (.bool t204)).setCell ⟨gb211, 3, none⟩ (.bool t205)).setCell ⟨gb211, 4, none⟩ (.int .i64 t206))) := ⟨kB HB.out⟩
      (try clear HO191)
      (try clear HO199)
      (try clear HO209)
      (try clear BK182)
      (try clear BK183)
      (try clear BK184)
      (try clear BK201)
      (try clear BK211)
      (try clear HB)
      generalize (((((w58.setCell ⟨gb211, 0, none⟩ (.int .i64 t202)).setCell ⟨gb211, 1, none⟩ (.int .i64 t203)).setCell ⟨gb211, 2, none⟩ (.bool t204)).setCell ⟨gb211, 3, none⟩ (.bool t205)).setCell ⟨gb211, 4, none⟩ (.int .i64 t206)) = w64 at n0_ n1_ n2_ n3_ n4_ n5_ n6_ n7_ n8_ ⊢
      have HO191 := n0_
      have HO199 := n1_
      have HO209 := n2_
      have BK182 := n3_
      have BK183 := n4_
      have BK184 := n5_
      have BK201 := n6_
      have BK211 := n7_
      have HB := n8_
      clear n0_ n1_ n2_ n3_ n4_ n5_ n6_ n7_ n8_
      have n0_ := Aside0.mk (Kd.R_drew HO191.out)
      have n1_ := Aside0.mk (Kd.R_drew HO199.out)
      have n2_ := Aside0.mk (Kd.R_drew HO209.out)
      have n3_ := Aside0.mk (blk_drew BK182.out)
      have n4_ := Aside0.mk (blk_drew BK183.out)
      have n5_ := Aside0.mk (blk_drew BK184.out)
      have n6_ := Aside0.mk (blk_drew BK201.out)
      have n7_ := Aside0.mk (blk_drew BK211.out)
      have n8_ := Aside0.mk (below_drew1 HB.out)
      clear HO191
      clear HO199
      clear HO209
      clear BK182
      clear BK183
      clear BK184
      clear BK201
      clear BK211
      clear HB
      have HO191 := n0_
      have HO199 := n1_
      have HO209 := n2_
      have BK182 := n3_
      have BK183 := n4_
      have BK184 := n5_
      have BK201 := n6_
      have BK211 := n7_
      have HB := n8_
      clear n0_ n1_ n2_ n3_ n4_ n5_ n6_ n7_ n8_
      have H := HH_.out
      clear HH_
      by_cases c33 : t216 = x9_19
      ·rw [if_pos c33] at H
       have c33b0 : (t216 == x9_19) = true := beq_iff_eq.mpr c33
       have c33b1 : (t216 != x9_19) = false := bne_eq_false_iff_eq.mpr c33
       clear c33
       (first | rw [c33b0] | simp only [c33b0] | skip)
       have HH_ := Aside0.mk H
       clear H
       refine start_ (n := 22) (S := fun w' => w'.cell? ⟨gb182, 0, none⟩ = some (.int .i64 a0_0) ∧ w'.cell? ⟨gb182, 1, none⟩ = some (.slice A0_1 l0_1.length c0_1) ∧ w'.cell? ⟨gb183, 0, none⟩ = some (.string a1_0) ∧ w'.cell? ⟨gb183, 1, none⟩ = some (.int .i64 a1_1) ∧ w'.cell? ⟨gb183, 2, none⟩ = some (.int .i64 a1_2) ∧ w'.cell? ⟨gb201, 0, none⟩ = some (.int .i64 t192) ∧ w'.cell? ⟨gb201, 1, none⟩ = some (.int .i64 t193) ∧ w'.cell? ⟨gb201, 2, none⟩ = some (.bool t194) ∧ w'.cell? ⟨gb201, 3, none⟩ = some (.bool t195) ∧ w'.cell? ⟨gb201, 4, none⟩ = some (.int .i64 t196) ∧ w'.cell? ⟨gb211, 0, none⟩ = some (.int .i64 t202) ∧ w'.cell? ⟨gb211, 1, none⟩ = some (.int .i64 t203) ∧ w'.cell? ⟨gb211, 2, none⟩ = some (.bool t204) ∧ w'.cell? ⟨gb211, 3, none⟩ = some (.bool t205) ∧ w'.cell? ⟨gb211, 4, none⟩ = some (.int .i64 t206)) (ds := []) #[Z,Z,Z,Z,Z,Z,Z,Z,Z,Z,Z,Z,Z,Z,Z,Z,Z,Z,Z,Z,Z,Z] (by kernel_rfl) rfl rfl ⟨(blk_cell BK182.out 0).trans rfl, (blk_cell BK182.out 1).trans rfl, (blk_cell BK183.out 0).trans rfl, (blk_cell BK183.out 1).trans rfl, (blk_cell BK183.out 2).trans rfl, (blk_cell BK201.out 0).trans rfl, (blk_cell BK201.out 1).trans rfl, (blk_cell BK201.out 2).trans rfl, (blk_cell BK201.out 3).trans rfl, (blk_cell BK201.out 4).trans rfl, (blk_cell BK211.out 0).trans rfl, (blk_cell BK211.out 1).trans rfl, (blk_cell BK211.out 2).trans rfl, (blk_cell BK211.out 3).trans rfl, (blk_cell BK211.out 4).trans rfl⟩ (fun hHeld => ?_); refine with_tabW modillionlaw07_ProgSteps.tab8 modillionlaw07_ProgSteps.bits8 (fun HT_ HW_ => ?_)
       generalize w64.drew = w65 at HO191 HO199 HO209 BK182 BK183 BK184 BK201 BK211 HB hHeld ⊢
       refine pure_ (i := 4) (N := some 51) (v := ?_) (a' := ?_) #[Z,Z,Z,Z,Y,Z,Z,Z,Z,Z,Z,Z,Z,Z,Z,Z,Z,Z,Z,Z,Z,Z] rfl rfl (any_of HT_.out (by kernel_rfl)) (fun _ _ _ h => h) (Or.inl ⟨by rfl, ?_⟩) ?_ ?_
       rotate_left
       ·intro w';go_simp;with_reducible rfl
       rotate_left
       ·simp only [Act.put, q1_, q2_, q3_, i64_w, i32_w];rfl
       refine take_ (i := 0) (N := some 47) (v := ?_) (a' := ?_) #[Y,Z,Z,Z,Y,Z,Z,Z,Z,Z,Z,Z,Z,Z,Z,Z,Z,Z,Z,Z,Z,Z] rfl rfl (take_ofW HT_.out HW_.out (by kernel_rfl)) (fun _ _ _ h => h) (Or.inl ⟨by rfl, ?_⟩) hHeld ?_ ?_
       rotate_left
       ·rintro w' ⟨s0, s1, s2, s3, s4, s5, s6, s7, s8, s9, s10, s11, s12, s13, s14⟩;go_simp;with_reducible rfl
       rotate_left
       ·simp only [Act.put, q1_, q2_, q3_, i64_w, i32_w];rfl
       refine take_ (i := 2) (N := some 49) (v := ?_) (a' := ?_) #[Y,Z,Y,Z,Y,Z,Z,Z,Z,Z,Z,Z,Z,Z,Z,Z,Z,Z,Z,Z,Z,Z] rfl rfl (take_ofW HT_.out HW_.out (by kernel_rfl)) (fun _ _ _ h => h) (Or.inl ⟨by rfl, ?_⟩) hHeld ?_ ?_
       rotate_left
       ·rintro w' ⟨s0, s1, s2, s3, s4, s5, s6, s7, s8, s9, s10, s11, s12, s13, s14⟩;go_simp;with_reducible rfl
       rotate_left
       ·simp only [Act.put, q1_, q2_, q3_, i64_w, i32_w];rfl
       refine one_ (i := 1) (N := some 48) #[Y,Y,Y,Z,Y,Z,Z,Z,Z,Z,Z,Z,Z,Z,Z,Z,Z,Z,Z,Z,Z,Z] rfl rfl (one_of HT_.out (by kernel_rfl)) (by decide) (fun K hK => ?_)
       refine goes_ Try.func13 (by kernel_rfl) rfl #[.agg #[.int .i64 a0_0, .slice A0_1 l0_1.length c0_1]] (by rfl) rfl rfl (by (try simp only [List.map_toArray, List.map_cons, List.map_nil]); first | done | rfl | (simp only [List.length_drop, List.length_take]; rfl)) ?_
       with_reducible refine (modillionlaw07_own.calls a0_0 _ _ l0_1 t212 t213 _ ?side1 ?side2 A31.out).mono ?_
       (case side1 => repeat (first | exact (Kd.C_below HR0_1.out HB.out) | (with_reducible refine Kd.C_alloc ?_ _) | (with_reducible refine Kd.C_drewN ?_ _) | (with_reducible refine Kd.C_drew ?_)))
       (case side2 => exact HC0_1.out)
       rintro e w66 ⟨v214, rfl, ho0, hb⟩
       refine ⟨_, rfl, ?_⟩
       have n0_ := Aside0.mk (Kd.R_elder' (kR HO191.out) (Kd.R_base ho0) hb)
       have n1_ := Aside0.mk (Kd.R_below (kR HO199.out) hb)
       have n2_ := Aside0.mk (Kd.R_below (kR HO209.out) hb)
       have n3_ := Aside0.mk (Kd.R_lower (Kd.R_new' ho0 (Kd.R_lt (kR HO191.out))) (below_size (kB HB.out)))
       have n4_ := Aside0.mk (blk_below (g := gb182) (o := .cells #[.int .i64 a0_0, .slice A0_1 l0_1.length c0_1] 24 (0, 0)) (kA BK182.out) hb)
       have n5_ := Aside0.mk (blk_below (g := gb183) (o := .cells #[.string a1_0, .int .i64 a1_1, .int .i64 a1_2] 26 (0, 0)) (kA BK183.out) hb)
       have n6_ := Aside0.mk (blk_below (g := gb184) (o := .cells #[.int .i64 a3_0, .int .i64 a3_1, .bool a3_2, .bool a3_3, .int .i64 a3_4] 28 (0, 0)) (kA BK184.out) hb)
       have n7_ := Aside0.mk (blk_below (g := gb201) (o := .cells #[.int .i64 t192, .int .i64 t193, .bool t194, .bool t195, .int .i64 t196] 28 (0, 0)) (kA BK201.out) hb)
       have n8_ := Aside0.mk (blk_below (g := gb211) (o := .cells #[.int .i64 t202, .int .i64 t203, .bool t204, .bool t205, .int .i64 t206] 28 (0, 0)) (kA BK211.out) hb)
       have n9_ := Aside0.mk (below_step (kB HB.out) hb)
       clear HO191
       clear HO199
       clear HO209
       clear BK182
       clear BK183
       clear BK184
       clear BK201
       clear BK211
       clear HB
       have HO191 := n0_
       have HO199 := n1_
       have HO209 := n2_
       have HO215 := n3_
       have BK182 := n4_
       have BK183 := n5_
       have BK184 := n6_
       have BK201 := n7_
       have BK211 := n8_
       have HB := n9_
       clear n0_ n1_ n2_ n3_ n4_ n5_ n6_ n7_ n8_ n9_
       (try clear hb)
       (try clear hb2)
       (try clear hk)
       (try clear hi)
       (try clear ho0)
       obtain ⟨Ao67, co67, eo67⟩ := Kd.R_slice HO215.out
       (first | subst eo67 | (injection eo67 with f1_ f2_ f3_; have f4_ := f1_.symm; have f5_ := f3_.symm; clear f1_ f2_ f3_; subst f4_; subst f5_))
       refine hK.out _ _ ⟨(blk_cell BK182.out 0).trans rfl, (blk_cell BK182.out 1).trans rfl, (blk_cell BK183.out 0).trans rfl, (blk_cell BK183.out 1).trans rfl, (blk_cell BK183.out 2).trans rfl, (blk_cell BK201.out 0).trans rfl, (blk_cell BK201.out 1).trans rfl, (blk_cell BK201.out 2).trans rfl, (blk_cell BK201.out 3).trans rfl, (blk_cell BK201.out 4).trans rfl, (blk_cell BK211.out 0).trans rfl, (blk_cell BK211.out 1).trans rfl, (blk_cell BK211.out 2).trans rfl, (blk_cell BK211.out 3).trans rfl, (blk_cell BK211.out 4).trans rfl⟩ (fun hHeld => ?_)
       clear hK K
       refine norm_ (a' := ?_) ?_ ?_
       rotate_left
       ·show Act.put _ (some 48) _ = _
        simp only [Act.put, q1_, q2_, q3_, i64_w, i32_w]
        rfl
       have H := HH_.out
       clear HH_
       by_cases c34 : (t192 == t202 && (t193 == t203 && (t194 == t204 && (t195 == t205 && (t196 == t206))))) = true
       ·rw [if_pos c34] at H
        have c34b0 : (t192 == t202 && (t193 == t203 && (t194 == t204 && (t195 == t205 && (t196 == t206))))) = true := c34
        (try (have c34b1 : decide (t192 = t202 && (t193 == t203 && (t194 == t204 && (t195 == t205 && (t196 == t206))))) = true := by simpa using c34))
        (try (have c34b2 : (t192 == t202 && (t193 == t203 && (t194 == t204 && (t195 == t205 && (t196 == t206))))) = true := by simpa using c34))
        clear c34
        (first | rw [c34b0] | simp only [c34b0] | skip)
        replace H := Option.bind_eq_some_iff.mp H
        obtain ⟨t217, A350, H⟩ := H
        replace H : (if t217 = true then (some (t200 == t210)) else (some false)) = some r := H
        have A35 := Aside0.mk A350
        clear A350
        have HH_ := Aside0.mk H
        clear H
        refine one_ (i := 3) (N := some 50) #[Y,Y,Y,Y,Y,Z,Z,Z,Z,Z,Z,Z,Z,Z,Z,Z,Z,Z,Z,Z,Z,Z] rfl rfl (one_of HT_.out (by kernel_rfl)) (by decide) (fun K hK => ?_)
        refine goes_ Try.func15 (by kernel_rfl) rfl #[.agg #[.int .i64 t212, .slice Ao67 t213.length co67], .agg #[.string a1_0, .int .i64 a1_1, .int .i64 a1_2]] (by rfl) rfl rfl (by (try simp only [List.map_toArray, List.map_cons, List.map_nil]); first | done | rfl | (simp only [List.length_drop, List.length_take]; rfl)) ?_
        with_reducible refine (prog_Check.calls kj19 t212 _ _ t213 a1_0 a1_1 a1_2 t216 _ ?side1 ?side2 A32.out).mono ?_
        (case side1 => repeat (first | exact (Kd.R_reads' HO215.out).2.2 | (with_reducible refine Kd.C_alloc ?_ _) | (with_reducible refine Kd.C_drewN ?_ _) | (with_reducible refine Kd.C_drew ?_)))
        (case side2 => exact (Kd.R_reads' HO215.out).2.1)
        rintro e w68 ⟨rfl, hb⟩
        refine ⟨_, rfl, ?_⟩
        have n0_ := Aside0.mk (Kd.R_below (kR HO191.out) hb)
        have n1_ := Aside0.mk (Kd.R_below (kR HO199.out) hb)
        have n2_ := Aside0.mk (Kd.R_below (kR HO209.out) hb)
        have n3_ := Aside0.mk (Kd.R_below (kR HO215.out) hb)
        have n4_ := Aside0.mk (blk_below (g := gb182) (o := .cells #[.int .i64 a0_0, .slice A0_1 l0_1.length c0_1] 24 (0, 0)) (kA BK182.out) hb)
        have n5_ := Aside0.mk (blk_below (g := gb183) (o := .cells #[.string a1_0, .int .i64 a1_1, .int .i64 a1_2] 26 (0, 0)) (kA BK183.out) hb)
        have n6_ := Aside0.mk (blk_below (g := gb184) (o := .cells #[.int .i64 a3_0, .int .i64 a3_1, .bool a3_2, .bool a3_3, .int .i64 a3_4] 28 (0, 0)) (kA BK184.out) hb)
        have n7_ := Aside0.mk (blk_below (g := gb201) (o := .cells #[.int .i64 t192, .int .i64 t193, .bool t194, .bool t195, .int .i64 t196] 28 (0, 0)) (kA BK201.out) hb)
        have n8_ := Aside0.mk (blk_below (g := gb211) (o := .cells #[.int .i64 t202, .int .i64 t203, .bool t204, .bool t205, .int .i64 t206] 28 (0, 0)) (kA BK211.out) hb)
        have n9_ := Aside0.mk (below_step (kB HB.out) hb)
        clear HO191
        clear HO199
        clear HO209
        clear HO215
        clear BK182
        clear BK183
        clear BK184
        clear BK201
        clear BK211
        clear HB
        have HO191 := n0_
        have HO199 := n1_
        have HO209 := n2_
        have HO215 := n3_
        have BK182 := n4_
        have BK183 := n5_
        have BK184 := n6_
        have BK201 := n7_
        have BK211 := n8_
        have HB := n9_
        clear n0_ n1_ n2_ n3_ n4_ n5_ n6_ n7_ n8_ n9_
        (try clear hb)
        (try clear hb2)
        (try clear hk)
        (try clear hi)
        obtain ⟨Ao69, co69, eo69⟩ := Kd.R_slice HO199.out
        (first | subst eo69 | (injection eo69 with f1_ f2_ f3_; have f4_ := f1_.symm; have f5_ := f3_.symm; clear f1_ f2_ f3_; subst f4_; subst f5_))
        obtain ⟨Ao70, co70, eo70⟩ := Kd.R_slice HO209.out
        (first | subst eo70 | (injection eo70 with f1_ f2_ f3_; have f4_ := f1_.symm; have f5_ := f3_.symm; clear f1_ f2_ f3_; subst f4_; subst f5_))
        refine hK.out _ _ ⟨(blk_cell BK182.out 0).trans rfl, (blk_cell BK182.out 1).trans rfl, (blk_cell BK183.out 0).trans rfl, (blk_cell BK183.out 1).trans rfl, (blk_cell BK183.out 2).trans rfl, (blk_cell BK201.out 0).trans rfl, (blk_cell BK201.out 1).trans rfl, (blk_cell BK201.out 2).trans rfl, (blk_cell BK201.out 3).trans rfl, (blk_cell BK201.out 4).trans rfl, (blk_cell BK211.out 0).trans rfl, (blk_cell BK211.out 1).trans rfl, (blk_cell BK211.out 2).trans rfl, (blk_cell BK211.out 3).trans rfl, (blk_cell BK211.out 4).trans rfl⟩ (fun hHeld => ?_)
        clear hK K
        refine norm_ (a' := ?_) ?_ ?_
        rotate_left
        ·show Act.put _ (some 50) _ = _
         simp only [Act.put, q1_, q2_, q3_, i64_w, i32_w]
         rfl
        refine pure_ (i := 5) (N := some 52) (v := ?_) (a' := ?_) #[Y,Y,Y,Y,Y,Y,Z,Z,Z,Z,Z,Z,Z,Z,Z,Z,Z,Z,Z,Z,Z,Z] rfl rfl (any_of HT_.out (by kernel_rfl)) (fun _ _ _ h => h) (Or.inl ⟨by rfl, ?_⟩) ?_ ?_
        rotate_left
        ·intro w';go_simp;with_reducible rfl
        rotate_left
        ·simp only [Act.put, q1_, q2_, q3_, i64_w, i32_w];rfl
        refine pure_ (i := 6) (N := some 53) (v := ?_) (a' := ?_) #[Y,Y,Y,Y,Y,Y,Y,Z,Z,Z,Z,Z,Z,Z,Z,Z,Z,Z,Z,Z,Z,Z] rfl rfl (any_of HT_.out (by kernel_rfl)) (fun _ _ _ h => h) (Or.inl ⟨by rfl, ?_⟩) ?_ ?_
        rotate_left
        ·intro w';go_simp;with_reducible rfl
        rotate_left
        ·simp only [Act.put, q1_, q2_, q3_, i64_w, i32_w];rfl
        refine take_ (i := 7) (N := some 54) (v := ?_) (a' := ?_) #[Y,Y,Y,Y,Y,Y,Y,Y,Z,Z,Z,Z,Z,Z,Z,Z,Z,Z,Z,Z,Z,Z] rfl rfl (take_ofW HT_.out HW_.out (by kernel_rfl)) (fun _ _ _ h => h) (Or.inl ⟨by rfl, ?_⟩) hHeld ?_ ?_
        rotate_left
        ·rintro w' ⟨s0, s1, s2, s3, s4, s5, s6, s7, s8, s9, s10, s11, s12, s13, s14⟩;go_simp;with_reducible rfl
        rotate_left
        ·simp only [Act.put, q1_, q2_, q3_, i64_w, i32_w];rfl
        refine take_ (i := 8) (N := some 55) (v := ?_) (a' := ?_) #[Y,Y,Y,Y,Y,Y,Y,Y,Y,Z,Z,Z,Z,Z,Z,Z,Z,Z,Z,Z,Z,Z] rfl rfl (take_ofW HT_.out HW_.out (by kernel_rfl)) (fun _ _ _ h => h) (Or.inl ⟨by rfl, ?_⟩) hHeld ?_ ?_
        rotate_left
        ·rintro w' ⟨s0, s1, s2, s3, s4, s5, s6, s7, s8, s9, s10, s11, s12, s13, s14⟩;go_simp;with_reducible rfl
        rotate_left
        ·simp only [Act.put, q1_, q2_, q3_, i64_w, i32_w];rfl
        refine pure_ (i := 9) (N := some 56) (v := ?_) (a' := ?_) #[Y,Y,Y,Y,Y,Y,Y,Y,Y,Y,Z,Z,Z,Z,Z,Z,Z,Z,Z,Z,Z,Z] rfl rfl (any_of HT_.out (by kernel_rfl)) (fun _ _ _ h => h) (Or.inl ⟨by rfl, ?_⟩) ?_ ?_
        rotate_left
        ·intro w';go_simp;with_reducible rfl
        rotate_left
        ·simp only [Act.put, q1_, q2_, q3_, i64_w, i32_w];rfl
        refine pure_ (i := 10) (N := some 57) (v := ?_) (a' := ?_) #[Y,Y,Y,Y,Y,Y,Y,Y,Y,Y,Y,Z,Z,Z,Z,Z,Z,Z,Z,Z,Z,Z] rfl rfl (any_of HT_.out (by kernel_rfl)) (fun _ _ _ h => h) (Or.inl ⟨by rfl, ?_⟩) ?_ ?_
        rotate_left
        ·intro w';go_simp;with_reducible rfl
        rotate_left
        ·simp only [Act.put, q1_, q2_, q3_, i64_w, i32_w];rfl
        refine pure_ (i := 11) (N := some 58) (v := ?_) (a' := ?_) #[Y,Y,Y,Y,Y,Y,Y,Y,Y,Y,Y,Y,Z,Z,Z,Z,Z,Z,Z,Z,Z,Z] rfl rfl (any_of HT_.out (by kernel_rfl)) (fun _ _ _ h => h) (Or.inl ⟨by rfl, ?_⟩) ?_ ?_
        rotate_left
        ·intro w';go_simp;with_reducible rfl
        rotate_left
        ·simp only [Act.put, q1_, q2_, q3_, i64_w, i32_w];rfl
        refine pure_ (i := 12) (N := some 59) (v := ?_) (a' := ?_) #[Y,Y,Y,Y,Y,Y,Y,Y,Y,Y,Y,Y,Y,Z,Z,Z,Z,Z,Z,Z,Z,Z] rfl rfl (any_of HT_.out (by kernel_rfl)) (fun _ _ _ h => h) (Or.inl ⟨by rfl, ?_⟩) ?_ ?_
        rotate_left
        ·intro w';go_simp;with_reducible rfl
        rotate_left
        ·simp only [Act.put, q1_, q2_, q3_, i64_w, i32_w];rfl
        refine pure_ (i := 13) (N := some 60) (v := ?_) (a' := ?_) #[Y,Y,Y,Y,Y,Y,Y,Y,Y,Y,Y,Y,Y,Y,Z,Z,Z,Z,Z,Z,Z,Z] rfl rfl (any_of HT_.out (by kernel_rfl)) (fun _ _ _ h => h) (Or.inl ⟨by rfl, ?_⟩) ?_ ?_
        rotate_left
        ·intro w';go_simp;with_reducible rfl
        rotate_left
        ·simp only [Act.put, q1_, q2_, q3_, i64_w, i32_w];rfl
        refine one_ (i := 14) (N := some 61) #[Y,Y,Y,Y,Y,Y,Y,Y,Y,Y,Y,Y,Y,Y,Y,Z,Z,Z,Z,Z,Z,Z] rfl rfl (one_of HT_.out (by kernel_rfl)) (by decide) (fun K hK => ?_)
        refine goes_ Try.func16 (by kernel_rfl) rfl #[.slice Ao69 t197.length co69, .slice Ao70 t207.length co70] (by rfl) rfl rfl (by (try simp only [List.map_toArray, List.map_cons, List.map_nil]); first | done | rfl | (simp only [List.length_drop, List.length_take]; rfl)) ?_
        with_reducible refine (modillionref07_Same.calls kj19 _ _ t197 _ _ t207 t217 _ ?side1 ?side2 ?side3 ?side4 A35.out).mono ?_
        (case side1 => repeat (first | exact (Kd.R_reads' HO199.out).2.2 | (with_reducible refine Kd.C_alloc ?_ _) | (with_reducible refine Kd.C_drewN ?_ _) | (with_reducible refine Kd.C_drew ?_)))
        (case side2 => exact (Kd.R_reads' HO199.out).2.1)
        (case side3 => repeat (first | exact (Kd.R_reads' HO209.out).2.2 | (with_reducible refine Kd.C_alloc ?_ _) | (with_reducible refine Kd.C_drewN ?_ _) | (with_reducible refine Kd.C_drew ?_)))
        (case side4 => exact (Kd.R_reads' HO209.out).2.1)
        rintro e w' ⟨rfl, ⟨nd, rfl⟩⟩
        refine ⟨_, rfl, ?_⟩
        refine hK.out _ _ ⟨(blk_cell BK182.out 0).trans rfl, (blk_cell BK182.out 1).trans rfl, (blk_cell BK183.out 0).trans rfl, (blk_cell BK183.out 1).trans rfl, (blk_cell BK183.out 2).trans rfl, (blk_cell BK201.out 0).trans rfl, (blk_cell BK201.out 1).trans rfl, (blk_cell BK201.out 2).trans rfl, (blk_cell BK201.out 3).trans rfl, (blk_cell BK201.out 4).trans rfl, (blk_cell BK211.out 0).trans rfl, (blk_cell BK211.out 1).trans rfl, (blk_cell BK211.out 2).trans rfl, (blk_cell BK211.out 3).trans rfl, (blk_cell BK211.out 4).trans rfl⟩ (fun hHeld => ?_)
        clear hK K
        refine norm_ (a' := ?_) ?_ ?_
        rotate_left
        ·show Act.put _ (some 61) _ = _
         simp only [Act.put, q1_, q2_, q3_, i64_w, i32_w]
         rfl
        refine pure_ (i := 15) (N := some 62) (v := ?_) (a' := ?_) #[Y,Y,Y,Y,Y,Y,Y,Y,Y,Y,Y,Y,Y,Y,Y,Y,Z,Z,Z,Z,Z,Z] rfl rfl (any_of HT_.out (by kernel_rfl)) (fun _ _ _ h => h) (Or.inl ⟨by rfl, ?_⟩) ?_ ?_
        rotate_left
        ·intro w';go_simp;with_reducible rfl
        rotate_left
        ·simp only [Act.put, q1_, q2_, q3_, i64_w, i32_w];rfl
        refine pure_ (i := 16) (N := some 63) (v := ?_) (a' := ?_) #[Y,Y,Y,Y,Y,Y,Y,Y,Y,Y,Y,Y,Y,Y,Y,Y,Y,Z,Z,Z,Z,Z] rfl rfl (any_of HT_.out (by kernel_rfl)) (fun _ _ _ h => h) (Or.inl ⟨by rfl, ?_⟩) ?_ ?_
        rotate_left
        ·intro w';go_simp;with_reducible rfl
        rotate_left
        ·simp only [Act.put, q1_, q2_, q3_, i64_w, i32_w];rfl
        have H := HH_.out
        clear HH_
        by_cases c36 : t217 = true
        ·subst c36
         have H1 : (some (t200 == t210)) = some r := by rw [if_pos rfl] at H; exact H
         clear H
         have H := H1
         clear H1
         obtain rfl := Option.some.inj H
         refine pure_ (i := 17) (N := some 64) (v := ?_) (a' := ?_) #[Y,Y,Y,Y,Y,Y,Y,Y,Y,Y,Y,Y,Y,Y,Y,Y,Y,Y,Z,Z,Z,Z] rfl rfl (any_of HT_.out (by kernel_rfl)) (fun _ _ _ h => h) (Or.inl ⟨by rfl, ?_⟩) ?_ ?_
         rotate_left
         ·intro w';go_simp;with_reducible rfl
         rotate_left
         ·simp only [Act.put, q1_, q2_, q3_, i64_w, i32_w];rfl
         refine pure_ (i := 18) (N := some 65) (v := ?_) (a' := ?_) #[Y,Y,Y,Y,Y,Y,Y,Y,Y,Y,Y,Y,Y,Y,Y,Y,Y,Y,Y,Z,Z,Z] rfl rfl (any_of HT_.out (by kernel_rfl)) (fun _ _ _ h => h) (Or.inl ⟨by rfl, ?_⟩) ?_ ?_
         rotate_left
         ·intro w';go_simp;with_reducible rfl
         rotate_left
         ·simp only [Act.put, q1_, q2_, q3_, i64_w, i32_w];rfl
         refine pure_ (i := 19) (N := some 66) (v := ?_) (a' := ?_) #[Y,Y,Y,Y,Y,Y,Y,Y,Y,Y,Y,Y,Y,Y,Y,Y,Y,Y,Y,Y,Z,Z] rfl rfl (any_of HT_.out (by kernel_rfl)) (fun _ _ _ h => h) (Or.inl ⟨by rfl, ?_⟩) ?_ ?_
         rotate_left
         ·intro w';go_simp;with_reducible rfl
         rotate_left
         ·simp only [Act.put, q1_, q2_, q3_, i64_w, i32_w];rfl
         refine pure_ (i := 20) (N := some 67) (v := ?_) (a' := ?_) #[Y,Y,Y,Y,Y,Y,Y,Y,Y,Y,Y,Y,Y,Y,Y,Y,Y,Y,Y,Y,Y,Z] rfl rfl (any_of HT_.out (by kernel_rfl)) (fun _ _ _ h => h) (Or.inl ⟨by rfl, ?_⟩) ?_ ?_
         rotate_left
         ·intro w';go_simp;with_reducible rfl
         rotate_left
         ·simp only [Act.put, q1_, q2_, q3_, i64_w, i32_w];rfl
         refine pure_ (i := 21) (N := some 8) (v := ?_) (a' := ?_) #[Y,Y,Y,Y,Y,Y,Y,Y,Y,Y,Y,Y,Y,Y,Y,Y,Y,Y,Y,Y,Y,Y] rfl rfl (any_of HT_.out (by kernel_rfl)) (fun _ _ _ h => h) (Or.inl ⟨by rfl, ?_⟩) ?_ ?_
         rotate_left
         ·intro w';go_simp;with_reducible rfl
         rotate_left
         ·simp only [Act.put, q1_, q2_, q3_, i64_w, i32_w];rfl
         refine done_ (done_of HT_.out (by kernel_rfl)) ?_
         try go_wp2
         go_ret
         exact ⟨by first | rfl | (simp [errW_none, errW_some] <;> rfl) | (simp [*, errW_none, errW_some] <;> rfl), by exact kB HB.out⟩
        ·replace c36 := Bool.eq_false_iff.mpr c36
         subst c36
         have H1 : (some false) = some r := by rw [if_neg (show ¬ (false = true) by decide)] at H; exact H
         clear H
         have H := H1
         clear H1
         obtain rfl := Option.some.inj H
         refine pure_ (i := 17) (N := some 64) (v := undef) (a' := ?_) #[Y,Y,Y,Y,Y,Y,Y,Y,Y,Y,Y,Y,Y,Y,Y,Y,Y,Y,Z,Z,Z,Z] rfl rfl (any_of HT_.out (by kernel_rfl)) (fun _ _ _ h => h) (Or.inr ⟨by rfl, rfl⟩) ?_ ?_
         rotate_left
         ·simp only [Act.put, q1_, q2_, q3_, i64_w, i32_w];rfl
         refine pure_ (i := 18) (N := some 65) (v := undef) (a' := ?_) #[Y,Y,Y,Y,Y,Y,Y,Y,Y,Y,Y,Y,Y,Y,Y,Y,Y,Y,Y,Z,Z,Z] rfl rfl (any_of HT_.out (by kernel_rfl)) (fun _ _ _ h => h) (Or.inr ⟨by rfl, rfl⟩) ?_ ?_
         rotate_left
         ·simp only [Act.put, q1_, q2_, q3_, i64_w, i32_w];rfl
         refine pure_ (i := 19) (N := some 66) (v := undef) (a' := ?_) #[Y,Y,Y,Y,Y,Y,Y,Y,Y,Y,Y,Y,Y,Y,Y,Y,Y,Y,Y,Y,Z,Z] rfl rfl (any_of HT_.out (by kernel_rfl)) (fun _ _ _ h => h) (Or.inr ⟨by rfl, rfl⟩) ?_ ?_
         rotate_left
         ·simp only [Act.put, q1_, q2_, q3_, i64_w, i32_w];rfl
         refine pure_ (i := 20) (N := some 67) (v := ?_) (a' := ?_) #[Y,Y,Y,Y,Y,Y,Y,Y,Y,Y,Y,Y,Y,Y,Y,Y,Y,Y,Y,Y,Y,Z] rfl rfl (any_of HT_.out (by kernel_rfl)) (fun _ _ _ h => h) (Or.inl ⟨by rfl, ?_⟩) ?_ ?_
         rotate_left
         ·intro w';go_simp;with_reducible rfl
         rotate_left
         ·simp only [Act.put, q1_, q2_, q3_, i64_w, i32_w];rfl
         refine pure_ (i := 21) (N := some 8) (v := ?_) (a' := ?_) #[Y,Y,Y,Y,Y,Y,Y,Y,Y,Y,Y,Y,Y,Y,Y,Y,Y,Y,Y,Y,Y,Y] rfl rfl (any_of HT_.out (by kernel_rfl)) (fun _ _ _ h => h) (Or.inl ⟨by rfl, ?_⟩) ?_ ?_
         rotate_left
         ·intro w';go_simp;with_reducible rfl
         rotate_left
         ·simp only [Act.put, q1_, q2_, q3_, i64_w, i32_w];rfl
         refine done_ (done_of HT_.out (by kernel_rfl)) ?_
         try go_wp2
         go_ret
         exact ⟨by first | rfl | (simp [errW_none, errW_some] <;> rfl) | (simp [*, errW_none, errW_some] <;> rfl), by exact kB HB.out⟩
       ·rw [if_neg c34] at H
        have c34b0 : (t192 == t202 && (t193 == t203 && (t194 == t204 && (t195 == t205 && (t196 == t206))))) = false := by simpa using c34
        (try (have c34b1 : decide (t192 = t202 && (t193 == t203 && (t194 == t204 && (t195 == t205 && (t196 == t206))))) = false := by simpa using c34))
        (try (have c34b2 : (t192 == t202 && (t193 == t203 && (t194 == t204 && (t195 == t205 && (t196 == t206))))) = false := by simpa using c34))
        (try (have c34b3 : ¬ (t192 = t202 && (t193 == t203 && (t194 == t204 && (t195 == t205 && (t196 == t206))))) := by simpa using c34))
        clear c34
        (first | rw [c34b0] | simp only [c34b0] | skip)
        obtain rfl := Option.some.inj H
        refine one_ (i := 3) (N := some 50) #[Y,Y,Y,Y,Y,Z,Z,Z,Z,Z,Z,Z,Z,Z,Z,Z,Z,Z,Z,Z,Z,Z] rfl rfl (one_of HT_.out (by kernel_rfl)) (by decide) (fun K hK => ?_)
        refine goes_ Try.func15 (by kernel_rfl) rfl #[.agg #[.int .i64 t212, .slice Ao67 t213.length co67], .agg #[.string a1_0, .int .i64 a1_1, .int .i64 a1_2]] (by rfl) rfl rfl (by (try simp only [List.map_toArray, List.map_cons, List.map_nil]); first | done | rfl | (simp only [List.length_drop, List.length_take]; rfl)) ?_
        with_reducible refine (prog_Check.calls kj19 t212 _ _ t213 a1_0 a1_1 a1_2 t216 _ ?side1 ?side2 A32.out).mono ?_
        (case side1 => repeat (first | exact (Kd.R_reads' HO215.out).2.2 | (with_reducible refine Kd.C_alloc ?_ _) | (with_reducible refine Kd.C_drewN ?_ _) | (with_reducible refine Kd.C_drew ?_)))
        (case side2 => exact (Kd.R_reads' HO215.out).2.1)
        rintro e w136 ⟨rfl, hb⟩
        refine ⟨_, rfl, ?_⟩
        have n0_ := Aside0.mk (Kd.R_below (kR HO191.out) hb)
        have n1_ := Aside0.mk (Kd.R_below (kR HO199.out) hb)
        have n2_ := Aside0.mk (Kd.R_below (kR HO209.out) hb)
        have n3_ := Aside0.mk (Kd.R_below (kR HO215.out) hb)
        have n4_ := Aside0.mk (blk_below (g := gb182) (o := .cells #[.int .i64 a0_0, .slice A0_1 l0_1.length c0_1] 24 (0, 0)) (kA BK182.out) hb)
        have n5_ := Aside0.mk (blk_below (g := gb183) (o := .cells #[.string a1_0, .int .i64 a1_1, .int .i64 a1_2] 26 (0, 0)) (kA BK183.out) hb)
        have n6_ := Aside0.mk (blk_below (g := gb184) (o := .cells #[.int .i64 a3_0, .int .i64 a3_1, .bool a3_2, .bool a3_3, .int .i64 a3_4] 28 (0, 0)) (kA BK184.out) hb)
        have n7_ := Aside0.mk (blk_below (g := gb201) (o := .cells #[.int .i64 t192, .int .i64 t193, .bool t194, .bool t195, .int .i64 t196] 28 (0, 0)) (kA BK201.out) hb)
        have n8_ := Aside0.mk (blk_below (g := gb211) (o := .cells #[.int .i64 t202, .int .i64 t203, .bool t204, .bool t205, .int .i64 t206] 28 (0, 0)) (kA BK211.out) hb)
        have n9_ := Aside0.mk (below_step (kB HB.out) hb)
        clear HO191
        clear HO199
        clear HO209
        clear HO215
        clear BK182
        clear BK183
        clear BK184
        clear BK201
        clear BK211
        clear HB
        have HO191 := n0_
        have HO199 := n1_
        have HO209 := n2_
        have HO215 := n3_
        have BK182 := n4_
        have BK183 := n5_
        have BK184 := n6_
        have BK201 := n7_
        have BK211 := n8_
        have HB := n9_
        clear n0_ n1_ n2_ n3_ n4_ n5_ n6_ n7_ n8_ n9_
        (try clear hb)
        (try clear hb2)
        (try clear hk)
        (try clear hi)
        refine hK.out _ _ ⟨(blk_cell BK182.out 0).trans rfl, (blk_cell BK182.out 1).trans rfl, (blk_cell BK183.out 0).trans rfl, (blk_cell BK183.out 1).trans rfl, (blk_cell BK183.out 2).trans rfl, (blk_cell BK201.out 0).trans rfl, (blk_cell BK201.out 1).trans rfl, (blk_cell BK201.out 2).trans rfl, (blk_cell BK201.out 3).trans rfl, (blk_cell BK201.out 4).trans rfl, (blk_cell BK211.out 0).trans rfl, (blk_cell BK211.out 1).trans rfl, (blk_cell BK211.out 2).trans rfl, (blk_cell BK211.out 3).trans rfl, (blk_cell BK211.out 4).trans rfl⟩ (fun hHeld => ?_)
        clear hK K
        refine norm_ (a' := ?_) ?_ ?_
        rotate_left
        ·show Act.put _ (some 50) _ = _
         simp only [Act.put, q1_, q2_, q3_, i64_w, i32_w]
         rfl
        refine pure_ (i := 5) (N := some 52) (v := ?_) (a' := ?_) #[Y,Y,Y,Y,Y,Y,Z,Z,Z,Z,Z,Z,Z,Z,Z,Z,Z,Z,Z,Z,Z,Z] rfl rfl (any_of HT_.out (by kernel_rfl)) (fun _ _ _ h => h) (Or.inl ⟨by rfl, ?_⟩) ?_ ?_
        rotate_left
        ·intro w';go_simp;with_reducible rfl
        rotate_left
        ·simp only [Act.put, q1_, q2_, q3_, i64_w, i32_w];rfl
        refine pure_ (i := 6) (N := some 53) (v := ?_) (a' := ?_) #[Y,Y,Y,Y,Y,Y,Y,Z,Z,Z,Z,Z,Z,Z,Z,Z,Z,Z,Z,Z,Z,Z] rfl rfl (any_of HT_.out (by kernel_rfl)) (fun _ _ _ h => h) (Or.inl ⟨by rfl, ?_⟩) ?_ ?_
        rotate_left
        ·intro w';go_simp;with_reducible rfl
        rotate_left
        ·simp only [Act.put, q1_, q2_, q3_, i64_w, i32_w];rfl
        refine take_ (i := 7) (N := some 54) (v := ?_) (a' := ?_) #[Y,Y,Y,Y,Y,Y,Y,Y,Z,Z,Z,Z,Z,Z,Z,Z,Z,Z,Z,Z,Z,Z] rfl rfl (take_ofW HT_.out HW_.out (by kernel_rfl)) (fun _ _ _ h => h) (Or.inl ⟨by rfl, ?_⟩) hHeld ?_ ?_
        rotate_left
        ·rintro w' ⟨s0, s1, s2, s3, s4, s5, s6, s7, s8, s9, s10, s11, s12, s13, s14⟩;go_simp;with_reducible rfl
        rotate_left
        ·simp only [Act.put, q1_, q2_, q3_, i64_w, i32_w];rfl
        refine take_ (i := 8) (N := some 55) (v := ?_) (a' := ?_) #[Y,Y,Y,Y,Y,Y,Y,Y,Y,Z,Z,Z,Z,Z,Z,Z,Z,Z,Z,Z,Z,Z] rfl rfl (take_ofW HT_.out HW_.out (by kernel_rfl)) (fun _ _ _ h => h) (Or.inl ⟨by rfl, ?_⟩) hHeld ?_ ?_
        rotate_left
        ·rintro w' ⟨s0, s1, s2, s3, s4, s5, s6, s7, s8, s9, s10, s11, s12, s13, s14⟩;go_simp;with_reducible rfl
        rotate_left
        ·simp only [Act.put, q1_, q2_, q3_, i64_w, i32_w];rfl
        refine pure_ (i := 9) (N := some 56) (v := ?_) (a' := ?_) #[Y,Y,Y,Y,Y,Y,Y,Y,Y,Y,Z,Z,Z,Z,Z,Z,Z,Z,Z,Z,Z,Z] rfl rfl (any_of HT_.out (by kernel_rfl)) (fun _ _ _ h => h) (Or.inl ⟨by rfl, ?_⟩) ?_ ?_
        rotate_left
        ·intro w';go_simp;with_reducible rfl
        rotate_left
        ·simp only [Act.put, q1_, q2_, q3_, i64_w, i32_w];rfl
        refine pure_ (i := 10) (N := some 57) (v := ?_) (a' := ?_) #[Y,Y,Y,Y,Y,Y,Y,Y,Y,Y,Y,Z,Z,Z,Z,Z,Z,Z,Z,Z,Z,Z] rfl rfl (any_of HT_.out (by kernel_rfl)) (fun _ _ _ h => h) (Or.inl ⟨by rfl, ?_⟩) ?_ ?_
        rotate_left
        ·intro w';go_simp;with_reducible rfl
        rotate_left
        ·simp only [Act.put, q1_, q2_, q3_, i64_w, i32_w];rfl
        refine pure_ (i := 11) (N := some 58) (v := ?_) (a' := ?_) #[Y,Y,Y,Y,Y,Y,Y,Y,Y,Y,Y,Y,Z,Z,Z,Z,Z,Z,Z,Z,Z,Z] rfl rfl (any_of HT_.out (by kernel_rfl)) (fun _ _ _ h => h) (Or.inl ⟨by rfl, ?_⟩) ?_ ?_
        rotate_left
        ·intro w';go_simp;with_reducible rfl
        rotate_left
        ·simp only [Act.put, q1_, q2_, q3_, i64_w, i32_w];rfl
        refine pure_ (i := 12) (N := some 59) (v := undef) (a' := ?_) #[Y,Y,Y,Y,Y,Y,Y,Y,Y,Y,Y,Y,Y,Z,Z,Z,Z,Z,Z,Z,Z,Z] rfl rfl (any_of HT_.out (by kernel_rfl)) (fun _ _ _ h => h) (Or.inr ⟨by rfl, rfl⟩) ?_ ?_
        rotate_left
        ·simp only [Act.put, q1_, q2_, q3_, i64_w, i32_w];rfl
        refine pure_ (i := 13) (N := some 60) (v := undef) (a' := ?_) #[Y,Y,Y,Y,Y,Y,Y,Y,Y,Y,Y,Y,Y,Y,Z,Z,Z,Z,Z,Z,Z,Z] rfl rfl (any_of HT_.out (by kernel_rfl)) (fun _ _ _ h => h) (Or.inr ⟨by rfl, rfl⟩) ?_ ?_
        rotate_left
        ·simp only [Act.put, q1_, q2_, q3_, i64_w, i32_w];rfl
        refine pure_ (i := 14) (N := some 61) (v := undef) (a' := ?_) #[Y,Y,Y,Y,Y,Y,Y,Y,Y,Y,Y,Y,Y,Y,Y,Z,Z,Z,Z,Z,Z,Z] rfl rfl (any_of HT_.out (by kernel_rfl)) (fun _ _ _ h => h) (Or.inr ⟨by rfl, rfl⟩) ?_ ?_
        rotate_left
        ·simp only [Act.put, q1_, q2_, q3_, i64_w, i32_w];rfl
        refine pure_ (i := 15) (N := some 62) (v := ?_) (a' := ?_) #[Y,Y,Y,Y,Y,Y,Y,Y,Y,Y,Y,Y,Y,Y,Y,Y,Z,Z,Z,Z,Z,Z] rfl rfl (any_of HT_.out (by kernel_rfl)) (fun _ _ _ h => h) (Or.inl ⟨by rfl, ?_⟩) ?_ ?_
        rotate_left
        ·intro w';go_simp;with_reducible rfl
        rotate_left
        ·simp only [Act.put, q1_, q2_, q3_, i64_w, i32_w];rfl
        refine pure_ (i := 16) (N := some 63) (v := ?_) (a' := ?_) #[Y,Y,Y,Y,Y,Y,Y,Y,Y,Y,Y,Y,Y,Y,Y,Y,Y,Z,Z,Z,Z,Z] rfl rfl (any_of HT_.out (by kernel_rfl)) (fun _ _ _ h => h) (Or.inl ⟨by rfl, ?_⟩) ?_ ?_
        rotate_left
        ·intro w';go_simp;with_reducible rfl
        rotate_left
        ·simp only [Act.put, q1_, q2_, q3_, i64_w, i32_w];rfl
        refine pure_ (i := 17) (N := some 64) (v := undef) (a' := ?_) #[Y,Y,Y,Y,Y,Y,Y,Y,Y,Y,Y,Y,Y,Y,Y,Y,Y,Y,Z,Z,Z,Z] rfl rfl (any_of HT_.out (by kernel_rfl)) (fun _ _ _ h => h) (Or.inr ⟨by rfl, rfl⟩) ?_ ?_
        rotate_left
        ·simp only [Act.put, q1_, q2_, q3_, i64_w, i32_w];rfl
        refine pure_ (i := 18) (N := some 65) (v := undef) (a' := ?_) #[Y,Y,Y,Y,Y,Y,Y,Y,Y,Y,Y,Y,Y,Y,Y,Y,Y,Y,Y,Z,Z,Z] rfl rfl (any_of HT_.out (by kernel_rfl)) (fun _ _ _ h => h) (Or.inr ⟨by rfl, rfl⟩) ?_ ?_
        rotate_left
        ·simp only [Act.put, q1_, q2_, q3_, i64_w, i32_w];rfl
        refine pure_ (i := 19) (N := some 66) (v := undef) (a' := ?_) #[Y,Y,Y,Y,Y,Y,Y,Y,Y,Y,Y,Y,Y,Y,Y,Y,Y,Y,Y,Y,Z,Z] rfl rfl (any_of HT_.out (by kernel_rfl)) (fun _ _ _ h => h) (Or.inr ⟨by rfl, rfl⟩) ?_ ?_
        rotate_left
        ·simp only [Act.put, q1_, q2_, q3_, i64_w, i32_w];rfl
        refine pure_ (i := 20) (N := some 67) (v := ?_) (a' := ?_) #[Y,Y,Y,Y,Y,Y,Y,Y,Y,Y,Y,Y,Y,Y,Y,Y,Y,Y,Y,Y,Y,Z] rfl rfl (any_of HT_.out (by kernel_rfl)) (fun _ _ _ h => h) (Or.inl ⟨by rfl, ?_⟩) ?_ ?_
        rotate_left
        ·intro w';go_simp;with_reducible rfl
        rotate_left
        ·simp only [Act.put, q1_, q2_, q3_, i64_w, i32_w];rfl
        refine pure_ (i := 21) (N := some 8) (v := ?_) (a' := ?_) #[Y,Y,Y,Y,Y,Y,Y,Y,Y,Y,Y,Y,Y,Y,Y,Y,Y,Y,Y,Y,Y,Y] rfl rfl (any_of HT_.out (by kernel_rfl)) (fun _ _ _ h => h) (Or.inl ⟨by rfl, ?_⟩) ?_ ?_
        rotate_left
        ·intro w';go_simp;with_reducible rfl
        rotate_left
        ·simp only [Act.put, q1_, q2_, q3_, i64_w, i32_w];rfl
        refine done_ (done_of HT_.out (by kernel_rfl)) ?_
        try go_wp2
        go_ret
        exact ⟨by first | rfl | (simp [errW_none, errW_some] <;> rfl) | (simp [*, errW_none, errW_some] <;> rfl), by exact kB HB.out⟩
      ·rw [if_neg c33] at H
       have c33b0 : (t216 == x9_19) = false := beq_eq_false_iff_ne.mpr c33
       have c33b1 : (t216 != x9_19) = true := bne_iff_ne.mpr c33
       obtain rfl := Option.some.inj H
       refine start_ (n := 22) (S := fun w' => w'.cell? ⟨gb182, 0, none⟩ = some (.int .i64 a0_0) ∧ w'.cell? ⟨gb182, 1, none⟩ = some (.slice A0_1 l0_1.length c0_1) ∧ w'.cell? ⟨gb183, 0, none⟩ = some (.string a1_0) ∧ w'.cell? ⟨gb183, 1, none⟩ = some (.int .i64 a1_1) ∧ w'.cell? ⟨gb183, 2, none⟩ = some (.int .i64 a1_2)) (ds := []) #[Z,Z,Z,Z,Z,Z,Z,Z,Z,Z,Z,Z,Z,Z,Z,Z,Z,Z,Z,Z,Z,Z] (by kernel_rfl) rfl rfl ⟨(blk_cell BK182.out 0).trans rfl, (blk_cell BK182.out 1).trans rfl, (blk_cell BK183.out 0).trans rfl, (blk_cell BK183.out 1).trans rfl, (blk_cell BK183.out 2).trans rfl⟩ (fun hHeld => ?_); refine with_tabW modillionlaw07_ProgSteps.tab8 modillionlaw07_ProgSteps.bits8 (fun HT_ HW_ => ?_)
       generalize w64.drew = w165 at HO191 HO199 HO209 BK182 BK183 BK184 BK201 BK211 HB hHeld ⊢
       refine pure_ (i := 4) (N := some 51) (v := ?_) (a' := ?_) #[Z,Z,Z,Z,Y,Z,Z,Z,Z,Z,Z,Z,Z,Z,Z,Z,Z,Z,Z,Z,Z,Z] rfl rfl (any_of HT_.out (by kernel_rfl)) (fun _ _ _ h => h) (Or.inl ⟨by rfl, ?_⟩) ?_ ?_
       rotate_left
       ·intro w';go_simp;with_reducible rfl
       rotate_left
       ·simp only [Act.put, q1_, q2_, q3_, i64_w, i32_w];rfl
       refine take_ (i := 0) (N := some 47) (v := ?_) (a' := ?_) #[Y,Z,Z,Z,Y,Z,Z,Z,Z,Z,Z,Z,Z,Z,Z,Z,Z,Z,Z,Z,Z,Z] rfl rfl (take_ofW HT_.out HW_.out (by kernel_rfl)) (fun _ _ _ h => h) (Or.inl ⟨by rfl, ?_⟩) hHeld ?_ ?_
       rotate_left
       ·rintro w' ⟨s0, s1, s2, s3, s4⟩;go_simp;with_reducible rfl
       rotate_left
       ·simp only [Act.put, q1_, q2_, q3_, i64_w, i32_w];rfl
       refine take_ (i := 2) (N := some 49) (v := ?_) (a' := ?_) #[Y,Z,Y,Z,Y,Z,Z,Z,Z,Z,Z,Z,Z,Z,Z,Z,Z,Z,Z,Z,Z,Z] rfl rfl (take_ofW HT_.out HW_.out (by kernel_rfl)) (fun _ _ _ h => h) (Or.inl ⟨by rfl, ?_⟩) hHeld ?_ ?_
       rotate_left
       ·rintro w' ⟨s0, s1, s2, s3, s4⟩;go_simp;with_reducible rfl
       rotate_left
       ·simp only [Act.put, q1_, q2_, q3_, i64_w, i32_w];rfl
       refine one_ (i := 1) (N := some 48) #[Y,Y,Y,Z,Y,Z,Z,Z,Z,Z,Z,Z,Z,Z,Z,Z,Z,Z,Z,Z,Z,Z] rfl rfl (one_of HT_.out (by kernel_rfl)) (by decide) (fun K hK => ?_)
       refine goes_ Try.func13 (by kernel_rfl) rfl #[.agg #[.int .i64 a0_0, .slice A0_1 l0_1.length c0_1]] (by rfl) rfl rfl (by (try simp only [List.map_toArray, List.map_cons, List.map_nil]); first | done | rfl | (simp only [List.length_drop, List.length_take]; rfl)) ?_
       with_reducible refine (modillionlaw07_own.calls a0_0 _ _ l0_1 t212 t213 _ ?side1 ?side2 A31.out).mono ?_
       (case side1 => repeat (first | exact (Kd.C_below HR0_1.out HB.out) | (with_reducible refine Kd.C_alloc ?_ _) | (with_reducible refine Kd.C_drewN ?_ _) | (with_reducible refine Kd.C_drew ?_)))
       (case side2 => exact HC0_1.out)
       rintro e w166 ⟨v214, rfl, ho0, hb⟩
       refine ⟨_, rfl, ?_⟩
       have n0_ := Aside0.mk (Kd.R_elder' (kR HO191.out) (Kd.R_base ho0) hb)
       have n1_ := Aside0.mk (Kd.R_below (kR HO199.out) hb)
       have n2_ := Aside0.mk (Kd.R_below (kR HO209.out) hb)
       have n3_ := Aside0.mk (Kd.R_lower (Kd.R_new' ho0 (Kd.R_lt (kR HO191.out))) (below_size (kB HB.out)))
       have n4_ := Aside0.mk (blk_below (g := gb182) (o := .cells #[.int .i64 a0_0, .slice A0_1 l0_1.length c0_1] 24 (0, 0)) (kA BK182.out) hb)
       have n5_ := Aside0.mk (blk_below (g := gb183) (o := .cells #[.string a1_0, .int .i64 a1_1, .int .i64 a1_2] 26 (0, 0)) (kA BK183.out) hb)
       have n6_ := Aside0.mk (blk_below (g := gb184) (o := .cells #[.int .i64 a3_0, .int .i64 a3_1, .bool a3_2, .bool a3_3, .int .i64 a3_4] 28 (0, 0)) (kA BK184.out) hb)
       have n7_ := Aside0.mk (blk_below (g := gb201) (o := .cells #[.int .i64 t192, .int .i64 t193, .bool t194, .bool t195, .int .i64 t196] 28 (0, 0)) (kA BK201.out) hb)
       have n8_ := Aside0.mk (blk_below (g := gb211) (o := .cells #[.int .i64 t202, .int .i64 t203, .bool t204, .bool t205, .int .i64 t206] 28 (0, 0)) (kA BK211.out) hb)
       have n9_ := Aside0.mk (below_step (kB HB.out) hb)
       clear HO191
       clear HO199
       clear HO209
       clear BK182
       clear BK183
       clear BK184
       clear BK201
       clear BK211
       clear HB
       have HO191 := n0_
       have HO199 := n1_
       have HO209 := n2_
       have HO215 := n3_
       have BK182 := n4_
       have BK183 := n5_
       have BK184 := n6_
       have BK201 := n7_
       have BK211 := n8_
       have HB := n9_
       clear n0_ n1_ n2_ n3_ n4_ n5_ n6_ n7_ n8_ n9_
       (try clear hb)
       (try clear hb2)
       (try clear hk)
       (try clear hi)
       (try clear ho0)
       obtain ⟨Ao167, co167, eo167⟩ := Kd.R_slice HO215.out
       (first | subst eo167 | (injection eo167 with f1_ f2_ f3_; have f4_ := f1_.symm; have f5_ := f3_.symm; clear f1_ f2_ f3_; subst f4_; subst f5_))
       refine hK.out _ _ ⟨(blk_cell BK182.out 0).trans rfl, (blk_cell BK182.out 1).trans rfl, (blk_cell BK183.out 0).trans rfl, (blk_cell BK183.out 1).trans rfl, (blk_cell BK183.out 2).trans rfl⟩ (fun hHeld => ?_)
       clear hK K
       refine norm_ (a' := ?_) ?_ ?_
       rotate_left
       ·show Act.put _ (some 48) _ = _
        simp only [Act.put, q1_, q2_, q3_, i64_w, i32_w]
        rfl
       refine one_ (i := 3) (N := some 50) #[Y,Y,Y,Y,Y,Z,Z,Z,Z,Z,Z,Z,Z,Z,Z,Z,Z,Z,Z,Z,Z,Z] rfl rfl (one_of HT_.out (by kernel_rfl)) (by decide) (fun K hK => ?_)
       refine goes_ Try.func15 (by kernel_rfl) rfl #[.agg #[.int .i64 t212, .slice Ao167 t213.length co167], .agg #[.string a1_0, .int .i64 a1_1, .int .i64 a1_2]] (by rfl) rfl rfl (by (try simp only [List.map_toArray, List.map_cons, List.map_nil]); first | done | rfl | (simp only [List.length_drop, List.length_take]; rfl)) ?_
       with_reducible refine (prog_Check.calls kj19 t212 _ _ t213 a1_0 a1_1 a1_2 t216 _ ?side1 ?side2 A32.out).mono ?_
       (case side1 => repeat (first | exact (Kd.R_reads' HO215.out).2.2 | (with_reducible refine Kd.C_alloc ?_ _) | (with_reducible refine Kd.C_drewN ?_ _) | (with_reducible refine Kd.C_drew ?_)))
       (case side2 => exact (Kd.R_reads' HO215.out).2.1)
       rintro e w168 ⟨rfl, hb⟩
       refine ⟨_, rfl, ?_⟩
       have n0_ := Aside0.mk (Kd.R_below (kR HO191.out) hb)
       have n1_ := Aside0.mk (Kd.R_below (kR HO199.out) hb)
       have n2_ := Aside0.mk (Kd.R_below (kR HO209.out) hb)
       have n3_ := Aside0.mk (Kd.R_below (kR HO215.out) hb)
       have n4_ := Aside0.mk (blk_below (g := gb182) (o := .cells #[.int .i64 a0_0, .slice A0_1 l0_1.length c0_1] 24 (0, 0)) (kA BK182.out) hb)
       have n5_ := Aside0.mk (blk_below (g := gb183) (o := .cells #[.string a1_0, .int .i64 a1_1, .int .i64 a1_2] 26 (0, 0)) (kA BK183.out) hb)
       have n6_ := Aside0.mk (blk_below (g := gb184) (o := .cells #[.int .i64 a3_0, .int .i64 a3_1, .bool a3_2, .bool a3_3, .int .i64 a3_4] 28 (0, 0)) (kA BK184.out) hb)
       have n7_ := Aside0.mk (blk_below (g := gb201) (o := .cells #[.int .i64 t192, .int .i64 t193, .bool t194, .bool t195, .int .i64 t196] 28 (0, 0)) (kA BK201.out) hb)
       have n8_ := Aside0.mk (blk_below (g := gb211) (o := .cells #[.int .i64 t202, .int .i64 t203, .bool t204, .bool t205, .int .i64 t206] 28 (0, 0)) (kA BK211.out) hb)
       have n9_ := Aside0.mk (below_step (kB HB.out) hb)
       clear HO191
       clear HO199
       clear HO209
       clear HO215
       clear BK182
       clear BK183
       clear BK184
       clear BK201
       clear BK211
       clear HB
       have HO191 := n0_
       have HO199 := n1_
       have HO209 := n2_
       have HO215 := n3_
       have BK182 := n4_
       have BK183 := n5_
       have BK184 := n6_
       have BK201 := n7_
       have BK211 := n8_
       have HB := n9_
       clear n0_ n1_ n2_ n3_ n4_ n5_ n6_ n7_ n8_ n9_
       (try clear hb)
       (try clear hb2)
       (try clear hk)
       (try clear hi)
       refine hK.out _ _ ⟨(blk_cell BK182.out 0).trans rfl, (blk_cell BK182.out 1).trans rfl, (blk_cell BK183.out 0).trans rfl, (blk_cell BK183.out 1).trans rfl, (blk_cell BK183.out 2).trans rfl⟩ (fun hHeld => ?_)
       clear hK K
       refine norm_ (a' := ?_) ?_ ?_
       rotate_left
       ·show Act.put _ (some 50) _ = _
        simp only [Act.put, q1_, q2_, q3_, i64_w, i32_w]
        rfl
       refine pure_ (i := 5) (N := some 52) (v := ?_) (a' := ?_) #[Y,Y,Y,Y,Y,Y,Z,Z,Z,Z,Z,Z,Z,Z,Z,Z,Z,Z,Z,Z,Z,Z] rfl rfl (any_of HT_.out (by kernel_rfl)) (fun _ _ _ h => h) (Or.inl ⟨by rfl, ?_⟩) ?_ ?_
       rotate_left
       ·intro w';go_simp;with_reducible rfl
       rotate_left
       ·simp only [Act.put, q1_, q2_, q3_, i64_w, i32_w];rfl
       refine pure_ (i := 6) (N := some 53) (v := ?_) (a' := ?_) #[Y,Y,Y,Y,Y,Y,Y,Z,Z,Z,Z,Z,Z,Z,Z,Z,Z,Z,Z,Z,Z,Z] rfl rfl (any_of HT_.out (by kernel_rfl)) (fun _ _ _ h => h) (Or.inl ⟨by rfl, ?_⟩) ?_ ?_
       rotate_left
       ·intro w';go_simp;with_reducible rfl
       rotate_left
       ·simp only [Act.put, q1_, q2_, q3_, i64_w, i32_w];rfl
       refine pure_ (i := 7) (N := some 54) (v := undef) (a' := ?_) #[Y,Y,Y,Y,Y,Y,Y,Y,Z,Z,Z,Z,Z,Z,Z,Z,Z,Z,Z,Z,Z,Z] rfl rfl (any_of HT_.out (by kernel_rfl)) (fun _ _ _ h => h) (Or.inr ⟨by rfl, rfl⟩) ?_ ?_
       rotate_left
       ·simp only [Act.put, q1_, q2_, q3_, i64_w, i32_w];rfl
       refine pure_ (i := 8) (N := some 55) (v := undef) (a' := ?_) #[Y,Y,Y,Y,Y,Y,Y,Y,Y,Z,Z,Z,Z,Z,Z,Z,Z,Z,Z,Z,Z,Z] rfl rfl (any_of HT_.out (by kernel_rfl)) (fun _ _ _ h => h) (Or.inr ⟨by rfl, rfl⟩) ?_ ?_
       rotate_left
       ·simp only [Act.put, q1_, q2_, q3_, i64_w, i32_w];rfl
       refine pure_ (i := 9) (N := some 56) (v := undef) (a' := ?_) #[Y,Y,Y,Y,Y,Y,Y,Y,Y,Y,Z,Z,Z,Z,Z,Z,Z,Z,Z,Z,Z,Z] rfl rfl (any_of HT_.out (by kernel_rfl)) (fun _ _ _ h => h) (Or.inr ⟨by rfl, rfl⟩) ?_ ?_
       rotate_left
       ·simp only [Act.put, q1_, q2_, q3_, i64_w, i32_w];rfl
       refine pure_ (i := 10) (N := some 57) (v := ?_) (a' := ?_) #[Y,Y,Y,Y,Y,Y,Y,Y,Y,Y,Y,Z,Z,Z,Z,Z,Z,Z,Z,Z,Z,Z] rfl rfl (any_of HT_.out (by kernel_rfl)) (fun _ _ _ h => h) (Or.inl ⟨by rfl, ?_⟩) ?_ ?_
       rotate_left
       ·intro w';go_simp;with_reducible rfl
       rotate_left
       ·simp only [Act.put, q1_, q2_, q3_, i64_w, i32_w];rfl
       refine pure_ (i := 11) (N := some 58) (v := ?_) (a' := ?_) #[Y,Y,Y,Y,Y,Y,Y,Y,Y,Y,Y,Y,Z,Z,Z,Z,Z,Z,Z,Z,Z,Z] rfl rfl (any_of HT_.out (by kernel_rfl)) (fun _ _ _ h => h) (Or.inl ⟨by rfl, ?_⟩) ?_ ?_
       rotate_left
       ·intro w';go_simp;with_reducible rfl
       rotate_left
       ·simp only [Act.put, q1_, q2_, q3_, i64_w, i32_w];rfl
       refine pure_ (i := 12) (N := some 59) (v := undef) (a' := ?_) #[Y,Y,Y,Y,Y,Y,Y,Y,Y,Y,Y,Y,Y,Z,Z,Z,Z,Z,Z,Z,Z,Z] rfl rfl (any_of HT_.out (by kernel_rfl)) (fun _ _ _ h => h) (Or.inr ⟨by rfl, rfl⟩) ?_ ?_
       rotate_left
       ·simp only [Act.put, q1_, q2_, q3_, i64_w, i32_w];rfl
       refine pure_ (i := 13) (N := some 60) (v := undef) (a' := ?_) #[Y,Y,Y,Y,Y,Y,Y,Y,Y,Y,Y,Y,Y,Y,Z,Z,Z,Z,Z,Z,Z,Z] rfl rfl (any_of HT_.out (by kernel_rfl)) (fun _ _ _ h => h) (Or.inr ⟨by rfl, rfl⟩) ?_ ?_
       rotate_left
       ·simp only [Act.put, q1_, q2_, q3_, i64_w, i32_w];rfl
       refine pure_ (i := 14) (N := some 61) (v := undef) (a' := ?_) #[Y,Y,Y,Y,Y,Y,Y,Y,Y,Y,Y,Y,Y,Y,Y,Z,Z,Z,Z,Z,Z,Z] rfl rfl (any_of HT_.out (by kernel_rfl)) (fun _ _ _ h => h) (Or.inr ⟨by rfl, rfl⟩) ?_ ?_
       rotate_left
       ·simp only [Act.put, q1_, q2_, q3_, i64_w, i32_w];rfl
       refine pure_ (i := 15) (N := some 62) (v := ?_) (a' := ?_) #[Y,Y,Y,Y,Y,Y,Y,Y,Y,Y,Y,Y,Y,Y,Y,Y,Z,Z,Z,Z,Z,Z] rfl rfl (any_of HT_.out (by kernel_rfl)) (fun _ _ _ h => h) (Or.inl ⟨by rfl, ?_⟩) ?_ ?_
       rotate_left
       ·intro w';go_simp;with_reducible rfl
       rotate_left
       ·simp only [Act.put, q1_, q2_, q3_, i64_w, i32_w];rfl
       refine pure_ (i := 16) (N := some 63) (v := ?_) (a' := ?_) #[Y,Y,Y,Y,Y,Y,Y,Y,Y,Y,Y,Y,Y,Y,Y,Y,Y,Z,Z,Z,Z,Z] rfl rfl (any_of HT_.out (by kernel_rfl)) (fun _ _ _ h => h) (Or.inl ⟨by rfl, ?_⟩) ?_ ?_
       rotate_left
       ·intro w';go_simp;with_reducible rfl
       rotate_left
       ·simp only [Act.put, q1_, q2_, q3_, i64_w, i32_w];rfl
       refine pure_ (i := 17) (N := some 64) (v := undef) (a' := ?_) #[Y,Y,Y,Y,Y,Y,Y,Y,Y,Y,Y,Y,Y,Y,Y,Y,Y,Y,Z,Z,Z,Z] rfl rfl (any_of HT_.out (by kernel_rfl)) (fun _ _ _ h => h) (Or.inr ⟨by rfl, rfl⟩) ?_ ?_
       rotate_left
       ·simp only [Act.put, q1_, q2_, q3_, i64_w, i32_w];rfl
       refine pure_ (i := 18) (N := some 65) (v := undef) (a' := ?_) #[Y,Y,Y,Y,Y,Y,Y,Y,Y,Y,Y,Y,Y,Y,Y,Y,Y,Y,Y,Z,Z,Z] rfl rfl (any_of HT_.out (by kernel_rfl)) (fun _ _ _ h => h) (Or.inr ⟨by rfl, rfl⟩) ?_ ?_
       rotate_left
       ·simp only [Act.put, q1_, q2_, q3_, i64_w, i32_w];rfl
       refine pure_ (i := 19) (N := some 66) (v := undef) (a' := ?_) #[Y,Y,Y,Y,Y,Y,Y,Y,Y,Y,Y,Y,Y,Y,Y,Y,Y,Y,Y,Y,Z,Z] rfl rfl (any_of HT_.out (by kernel_rfl)) (fun _ _ _ h => h) (Or.inr ⟨by rfl, rfl⟩) ?_ ?_
       rotate_left
       ·simp only [Act.put, q1_, q2_, q3_, i64_w, i32_w];rfl
       refine pure_ (i := 20) (N := some 67) (v := ?_) (a' := ?_) #[Y,Y,Y,Y,Y,Y,Y,Y,Y,Y,Y,Y,Y,Y,Y,Y,Y,Y,Y,Y,Y,Z] rfl rfl (any_of HT_.out (by kernel_rfl)) (fun _ _ _ h => h) (Or.inl ⟨by rfl, ?_⟩) ?_ ?_
       rotate_left
       ·intro w';go_simp;with_reducible rfl
       rotate_left
       ·simp only [Act.put, q1_, q2_, q3_, i64_w, i32_w];rfl
       refine pure_ (i := 21) (N := some 8) (v := ?_) (a' := ?_) #[Y,Y,Y,Y,Y,Y,Y,Y,Y,Y,Y,Y,Y,Y,Y,Y,Y,Y,Y,Y,Y,Y] rfl rfl (any_of HT_.out (by kernel_rfl)) (fun _ _ _ h => h) (Or.inl ⟨by rfl, ?_⟩) ?_ ?_
       rotate_left
       ·intro w';go_simp;with_reducible rfl
       rotate_left
       ·simp only [Act.put, q1_, q2_, q3_, i64_w, i32_w];rfl
       refine done_ (done_of HT_.out (by kernel_rfl)) ?_
       try go_wp2
       go_ret
       exact ⟨by first | rfl | (simp [errW_none, errW_some] <;> rfl) | (simp [*, errW_none, errW_some] <;> rfl), by exact kB HB.out⟩

end Go.Proofs.Ytdmihkffjbapjaa.P
