/- What these Go functions compute, as Lean functions, and that they do. No condition. -/
import Derived.Test.YtdmihkffjbapjaaPx0
import Derived.Test.YtdmihkffjbapjaaPx11
import Derived.Test.YtdmihkffjbapjaaPx12
import Derived.Test.YtdmihkffjbapjaaPx13
namespace Go.Proofs.Ytdmihkffjbapjaa.P
open Go.RowKit Go.Proofs.YtdmihkffjbapjaaW.PrintWords Go.Proofs.YtdmihkffjbapjaaW.PrintLast Go.Proofs.YtdmihkffjbapjaaW.PrintMore
open Bool renaming true → Y, false → Z
open List renaming setIfInBounds_toArray → q1_, set_cons_zero → q2_, set_cons_succ → q3_
attribute [local go_sem] max2_int min2_int max_two min_two max_three min_three max_four min_four   -- for this text's walks alone
set_option linter.unusedVariables false
set_option linter.unusedSimpArgs false
set_option linter.unnecessarySimpa false
theorem iteS14 {α : Type} {c : Prop} [Decidable c] {a : Option α} {r : α} (h : (if c then a else none) = some r) : c ∧ a = some r := by
 by_cases hc : c
 ·rw [if_pos hc] at h; exact ⟨hc, h⟩
 ·rw [if_neg hc] at h; cases h

/-! ### modillionref07_Step: function 14 -/
mutual
def modillionref07_Step.j0 : Nat → Int → Bool → Int → List (S46) → ByteArray → Int → Int → Int → Int → Bool → Bool → Int → Option (Int × Int × Bool × Bool × Int × (List (S48)) × Int)
 | 0, _, _, _, _, _, _, _, _, _, _, _, _ => none
 | k + 1, x2, x40, x161000, x161001, x162000, x162001, x162002, x163000, x163001, x163002, x163003, x163004 => if x40 = true then (some (0, 0, false, false, 0, ([] : List (S48)), 70)) else ((modillionref07_Great.f x163001).bind fun t165 => (if t165 = true then (modillionref07_Step.j1 k x2 true x161000 x161001 x162000 x162001 x162002 x163000 x163001 x163002 x163003 x163004) else ((modillionref07_Great.f x163004).bind fun t166 => (modillionref07_Step.j1 k x2 t166 x161000 x161001 x162000 x162001 x162002 x163000 x163001 x163002 x163003 x163004))))
def modillionref07_Step.j1 : Nat → Int → Bool → Int → List (S46) → ByteArray → Int → Int → Int → Int → Bool → Bool → Int → Option (Int × Int × Bool × Bool × Int × (List (S48)) × Int)
 | 0, _, _, _, _, _, _, _, _, _, _, _, _ => none
 | k + 1, x2, x49, x161000, x161001, x162000, x162001, x162002, x163000, x163001, x163002, x163003, x163004 => if x49 = true then (some (0, 0, false, false, 0, ([] : List (S48)), 71)) else (if x163002 = true then (modillionref07_Step.j2 k x2 false x161000 x161001 x162000 x162001 x162002 x163000 x163001 x163002 x163003 x163004) else (modillionref07_Step.j2 k x2 (!x163003) x161000 x161001 x162000 x162001 x162002 x163000 x163001 x163002 x163003 x163004))
def modillionref07_Step.j2 : Nat → Int → Bool → Int → List (S46) → ByteArray → Int → Int → Int → Int → Bool → Bool → Int → Option (Int × Int × Bool × Bool × Int × (List (S48)) × Int)
 | 0, _, _, _, _, _, _, _, _, _, _, _, _ => none
 | k + 1, x2, x58, x161000, x161001, x162000, x162001, x162002, x163000, x163001, x163002, x163003, x163004 => if x58 = true then (some (x163000, x163001, x163002, x163003, x163004, ([] : List (S48)), 0)) else ((modillionref05_Out.f k x161000 x161001 x163000).bind fun t167 => ((modillionref07_plain.f x162000 x162001 x162002 x2 x163000 x163001 x163002 x163003 x163004 t167).bind fun bt170 => ((modillionref07_Great.f bt170.2.1).bind fun t179 => (modillionref07_Step.l0 k bt170.2.2.2.2.2 t179 0 bt170.1 bt170.2.1 bt170.2.2.1 bt170.2.2.2.1 bt170.2.2.2.2.1))))
def modillionref07_Step.l0 : Nat → List (S48) → Bool → Int → Int → Int → Bool → Bool → Int → Option (Int × Int × Bool × Bool × Int × (List (S48)) × Int)
 | 0, _, _, _, _, _, _, _, _ => none
 | k + 1, x12, x13, x14, x179000, x179001, x179002, x179003, x179004 => if x14 < (x12.length : Int) then (if x13 = true then (modillionref07_Step.l0 k x12 true (wrap64 (x14 + 1)) x179000 x179001 x179002 x179003 x179004) else (if 0 ≤ x14 then ((modillionref07_Great.f ((rd_T48 x12 x14).f2)).bind fun t181 => (modillionref07_Step.l0 k x12 t181 (wrap64 (x14 + 1)) x179000 x179001 x179002 x179003 x179004)) else (none))) else (if x13 = true then (some (0, 0, false, false, 0, ([] : List (S48)), 71)) else (some (x179000, x179001, x179002, x179003, x179004, x12, 0)))
end
def modillionref07_Step.f (k : Nat) (a0_0 : Int) (l0_1 : List (S46)) (a1_0 : ByteArray) (a1_1 : Int) (a1_2 : Int) (a2 : Int) (a3_0 : Int) (a3_1 : Int) (a3_2 : Bool) (a3_3 : Bool) (a3_4 : Int) : Option (Int × Int × Bool × Bool × Int × (List (S48)) × Int) := (modillionref07_Right.f k a0_0 l0_1 a1_0 a1_1 a1_2).bind fun t164 => (if t164 = true then (if a3_0 < 0 then (modillionref07_Step.j0 k a2 true a0_0 l0_1 a1_0 a1_1 a1_2 a3_0 a3_1 a3_2 a3_3 a3_4) else (if a3_0 ≥ a0_0 then (modillionref07_Step.j0 k a2 true a0_0 l0_1 a1_0 a1_1 a1_2 a3_0 a3_1 a3_2 a3_3 a3_4) else (if a2 < 0 then (modillionref07_Step.j0 k a2 true a0_0 l0_1 a1_0 a1_1 a1_2 a3_0 a3_1 a3_2 a3_3 a3_4) else (modillionref07_Step.j0 k a2 (decide (a2 ≥ a1_2)) a0_0 l0_1 a1_0 a1_1 a1_2 a3_0 a3_1 a3_2 a3_3 a3_4)))) else (modillionref07_Step.j0 k a2 true a0_0 l0_1 a1_0 a1_1 a1_2 a3_0 a3_1 a3_2 a3_3 a3_4))
theorem modillionref07_Step.mono_l : ∀ k, (∀ y0 y1 y2 y3 y4 y5 y6 y7 y8 y9 y10 y11, LeO (modillionref07_Step.j0 k y0 y1 y2 y3 y4 y5 y6 y7 y8 y9 y10 y11) (modillionref07_Step.j0 (k + 1) y0 y1 y2 y3 y4 y5 y6 y7 y8 y9 y10 y11)) ∧ (∀ y0 y1 y2 y3 y4 y5 y6 y7 y8 y9 y10 y11, LeO (modillionref07_Step.j1 k y0 y1 y2 y3 y4 y5 y6 y7 y8 y9 y10 y11) (modillionref07_Step.j1 (k + 1) y0 y1 y2 y3 y4 y5 y6 y7 y8 y9 y10 y11)) ∧ (∀ y0 y1 y2 y3 y4 y5 y6 y7 y8 y9 y10 y11, LeO (modillionref07_Step.j2 k y0 y1 y2 y3 y4 y5 y6 y7 y8 y9 y10 y11) (modillionref07_Step.j2 (k + 1) y0 y1 y2 y3 y4 y5 y6 y7 y8 y9 y10 y11)) ∧ (∀ y0 y1 y2 y3 y4 y5 y6 y7, LeO (modillionref07_Step.l0 k y0 y1 y2 y3 y4 y5 y6 y7) (modillionref07_Step.l0 (k + 1) y0 y1 y2 y3 y4 y5 y6 y7))
 | 0 => ⟨fun _ _ _ _ _ _ _ _ _ _ _ _ r h => by simp [modillionref07_Step.j0] at h, fun _ _ _ _ _ _ _ _ _ _ _ _ r h => by simp [modillionref07_Step.j1] at h, fun _ _ _ _ _ _ _ _ _ _ _ _ r h => by simp [modillionref07_Step.j2] at h, fun _ _ _ _ _ _ _ _ r h => by simp [modillionref07_Step.l0] at h⟩
 | k + 1 => by
  obtain ⟨ih0, ih1, ih2, ih3⟩ := modillionref07_Step.mono_l k
  refine ⟨?_, ?_, ?_, ?_⟩
  ·intro y0 y1 y2 y3 y4 y5 y6 y7 y8 y9 y10 y11
   unfold modillionref07_Step.j0
   repeat' first
   | (with_reducible exact ih0 _ _ _ _ _ _ _ _ _ _ _ _)
   | (with_reducible exact ih1 _ _ _ _ _ _ _ _ _ _ _ _)
   | (with_reducible exact ih2 _ _ _ _ _ _ _ _ _ _ _ _)
   | (with_reducible exact ih3 _ _ _ _ _ _ _ _)
   | (with_reducible exact modillionref05_Out.mono _ _ _ _)
   | (with_reducible exact modillionref07_Right.mono _ _ _ _ _ _)
   | (with_reducible exact LeO.refl _)
   | (with_reducible exact LeO.none _)
   | (with_reducible refine LeO.ite ?_ ?_)
   | (with_reducible refine LeO.bind ?_ (fun _ => ?_))
   | exact ih0 _ _ _ _ _ _ _ _ _ _ _ _
   | exact ih1 _ _ _ _ _ _ _ _ _ _ _ _
   | exact ih2 _ _ _ _ _ _ _ _ _ _ _ _
   | exact ih3 _ _ _ _ _ _ _ _
   | exact modillionref05_Out.mono _ _ _ _
   | exact modillionref07_Right.mono _ _ _ _ _ _
   | exact LeO.none _
   | refine LeO.ite ?_ ?_
   | refine LeO.bind ?_ (fun _ => ?_)
  ·intro y0 y1 y2 y3 y4 y5 y6 y7 y8 y9 y10 y11
   unfold modillionref07_Step.j1
   repeat' first
   | (with_reducible exact ih0 _ _ _ _ _ _ _ _ _ _ _ _)
   | (with_reducible exact ih1 _ _ _ _ _ _ _ _ _ _ _ _)
   | (with_reducible exact ih2 _ _ _ _ _ _ _ _ _ _ _ _)
   | (with_reducible exact ih3 _ _ _ _ _ _ _ _)
   | (with_reducible exact modillionref05_Out.mono _ _ _ _)
   | (with_reducible exact modillionref07_Right.mono _ _ _ _ _ _)
   | (with_reducible exact LeO.refl _)
   | (with_reducible exact LeO.none _)
   | (with_reducible refine LeO.ite ?_ ?_)
   | (with_reducible refine LeO.bind ?_ (fun _ => ?_))
   | exact ih0 _ _ _ _ _ _ _ _ _ _ _ _
   | exact ih1 _ _ _ _ _ _ _ _ _ _ _ _
   | exact ih2 _ _ _ _ _ _ _ _ _ _ _ _
   | exact ih3 _ _ _ _ _ _ _ _
   | exact modillionref05_Out.mono _ _ _ _
   | exact modillionref07_Right.mono _ _ _ _ _ _
   | exact LeO.none _
   | refine LeO.ite ?_ ?_
   | refine LeO.bind ?_ (fun _ => ?_)
  ·intro y0 y1 y2 y3 y4 y5 y6 y7 y8 y9 y10 y11
   unfold modillionref07_Step.j2
   repeat' first
   | (with_reducible exact ih0 _ _ _ _ _ _ _ _ _ _ _ _)
   | (with_reducible exact ih1 _ _ _ _ _ _ _ _ _ _ _ _)
   | (with_reducible exact ih2 _ _ _ _ _ _ _ _ _ _ _ _)
   | (with_reducible exact ih3 _ _ _ _ _ _ _ _)
   | (with_reducible exact modillionref05_Out.mono _ _ _ _)
   | (with_reducible exact modillionref07_Right.mono _ _ _ _ _ _)
   | (with_reducible exact LeO.refl _)
   | (with_reducible exact LeO.none _)
   | (with_reducible refine LeO.ite ?_ ?_)
   | (with_reducible refine LeO.bind ?_ (fun _ => ?_))
   | exact ih0 _ _ _ _ _ _ _ _ _ _ _ _
   | exact ih1 _ _ _ _ _ _ _ _ _ _ _ _
   | exact ih2 _ _ _ _ _ _ _ _ _ _ _ _
   | exact ih3 _ _ _ _ _ _ _ _
   | exact modillionref05_Out.mono _ _ _ _
   | exact modillionref07_Right.mono _ _ _ _ _ _
   | exact LeO.none _
   | refine LeO.ite ?_ ?_
   | refine LeO.bind ?_ (fun _ => ?_)
  ·intro y0 y1 y2 y3 y4 y5 y6 y7
   unfold modillionref07_Step.l0
   repeat' first
   | (with_reducible exact ih0 _ _ _ _ _ _ _ _ _ _ _ _)
   | (with_reducible exact ih1 _ _ _ _ _ _ _ _ _ _ _ _)
   | (with_reducible exact ih2 _ _ _ _ _ _ _ _ _ _ _ _)
   | (with_reducible exact ih3 _ _ _ _ _ _ _ _)
   | (with_reducible exact modillionref05_Out.mono _ _ _ _)
   | (with_reducible exact modillionref07_Right.mono _ _ _ _ _ _)
   | (with_reducible exact LeO.refl _)
   | (with_reducible exact LeO.none _)
   | (with_reducible refine LeO.ite ?_ ?_)
   | (with_reducible refine LeO.bind ?_ (fun _ => ?_))
   | exact ih0 _ _ _ _ _ _ _ _ _ _ _ _
   | exact ih1 _ _ _ _ _ _ _ _ _ _ _ _
   | exact ih2 _ _ _ _ _ _ _ _ _ _ _ _
   | exact ih3 _ _ _ _ _ _ _ _
   | exact modillionref05_Out.mono _ _ _ _
   | exact modillionref07_Right.mono _ _ _ _ _ _
   | exact LeO.none _
   | refine LeO.ite ?_ ?_
   | refine LeO.bind ?_ (fun _ => ?_)
theorem modillionref07_Step.mono : ∀ a0 a1 a2 a3 a4 a5 a6 a7 a8 a9 a10 k, LeO (modillionref07_Step.f k a0 a1 a2 a3 a4 a5 a6 a7 a8 a9 a10) (modillionref07_Step.f (k + 1) a0 a1 a2 a3 a4 a5 a6 a7 a8 a9 a10) := by
 intro a0 a1 a2 a3 a4 a5 a6 a7 a8 a9 a10 k
 obtain ⟨ih0, ih1, ih2, ih3⟩ := modillionref07_Step.mono_l k
 unfold modillionref07_Step.f
 repeat' first
   | (with_reducible exact ih0 _ _ _ _ _ _ _ _ _ _ _ _)
   | (with_reducible exact ih1 _ _ _ _ _ _ _ _ _ _ _ _)
   | (with_reducible exact ih2 _ _ _ _ _ _ _ _ _ _ _ _)
   | (with_reducible exact ih3 _ _ _ _ _ _ _ _)
   | (with_reducible exact modillionref05_Out.mono _ _ _ _)
   | (with_reducible exact modillionref07_Right.mono _ _ _ _ _ _)
   | (with_reducible exact LeO.refl _)
   | (with_reducible exact LeO.none _)
   | (with_reducible refine LeO.ite ?_ ?_)
   | (with_reducible refine LeO.bind ?_ (fun _ => ?_))
   | exact ih0 _ _ _ _ _ _ _ _ _ _ _ _
   | exact ih1 _ _ _ _ _ _ _ _ _ _ _ _
   | exact ih2 _ _ _ _ _ _ _ _ _ _ _ _
   | exact ih3 _ _ _ _ _ _ _ _
   | exact modillionref05_Out.mono _ _ _ _
   | exact modillionref07_Right.mono _ _ _ _ _ _
   | exact LeO.none _
   | refine LeO.ite ?_ ?_
   | refine LeO.bind ?_ (fun _ => ?_)
def modillionref07_Step.T7 : Bool × List (List Nat × List Nat) := (true, [([], []), ([], []), ([], []), ([], []), ([], []), ([4], [4]), ([3, 5], [3, 5]), ([0, 1, 2, 6, 6], [0, 1, 2, 6]), ([7], [7]), ([8], [8]), ([8], [8]), ([], []), ([11, 9, 7, 0, 1, 2, 3, 4, 5, 6, 7, 8, 9, 11], [9, 11]), ([10, 12, 0, 1, 2, 3, 4, 5, 6, 7, 8, 9, 10, 11, 12], [10])])
def modillionref07_Step.B7 : List Nat := [0, 0, 0, 0, 0, 16, 56, 127, 255, 511, 511, 0, 3071, 8191]
theorem modillionref07_Step.tab7 : rtab .any (opsOf Try.f14 7) = modillionref07_Step.T7 := by kernel_rfl
theorem modillionref07_Step.bits7 : waitsOk modillionref07_Step.T7.2 modillionref07_Step.B7 = true := by kernel_rfl
set_option maxHeartbeats 8000000 in
set_option maxRecDepth 100000 in
theorem modillionref07_Step.calls (k : Nat) (a0_0 : Int) (A0_1 : Option Addr) (c0_1 : Nat) (l0_1 : List (S46)) (a1_0 : ByteArray) (a1_1 : Int) (a1_2 : Int) (a2 : Int) (a3_0 : Int) (a3_1 : Int) (a3_2 : Bool) (a3_3 : Bool) (a3_4 : Int) (r1 : Int) (r2 : Int) (r3 : Bool) (r4 : Bool) (r5 : Int) (r6 : List (S48)) (r7 : Int) (w : World) (hr0_1 : Kd.C k46 w A0_1 l0_1.length l0_1) (hc0_1 : l0_1.length ≤ c0_1) (h : modillionref07_Step.f k a0_0 l0_1 a1_0 a1_1 a1_2 a2 a3_0 a3_1 a3_2 a3_3 a3_4 = some (r1, r2, r3, r4, r5, r6, r7)) :
  Calls Try.prog 14 #[.agg #[.int .i64 a0_0, .slice A0_1 l0_1.length c0_1], .agg #[.string a1_0, .int .i64 a1_1, .int .i64 a1_2], .int .i64 a2, .agg #[.int .i64 a3_0, .int .i64 a3_1, .bool a3_2, .bool a3_3, .int .i64 a3_4]] w fun e w' => ∃ v5_ : Value, e = .returned (.tuple #[.agg #[.int .i64 r1, .int .i64 r2, .bool r3, .bool r4, .int .i64 r5], v5_, .int .i64 r7]) ∧ Kd.R k48 48 w' w.heap.size (fun _ => True) v5_ r6 ∧ Below w.heap.size w w' := by
 have hu24 := Try.underlying24
 have hu26 := Try.underlying26
 have hu28 := Try.underlying28
 have HR0_1 := Aside0.mk hr0_1
 have HC0_1 := Aside0.mk hc0_1
 clear hr0_1 hc0_1
 have HB := Aside0.mk (Below.refl w.heap.size w)
 have H : ((modillionref07_Right.f k a0_0 l0_1 a1_0 a1_1 a1_2).bind fun t164 => (if t164 = true then (if a3_0 < 0 then (modillionref07_Step.j0 k a2 true a0_0 l0_1 a1_0 a1_1 a1_2 a3_0 a3_1 a3_2 a3_3 a3_4) else (if a3_0 ≥ a0_0 then (modillionref07_Step.j0 k a2 true a0_0 l0_1 a1_0 a1_1 a1_2 a3_0 a3_1 a3_2 a3_3 a3_4) else (if a2 < 0 then (modillionref07_Step.j0 k a2 true a0_0 l0_1 a1_0 a1_1 a1_2 a3_0 a3_1 a3_2 a3_3 a3_4) else (modillionref07_Step.j0 k a2 (decide (a2 ≥ a1_2)) a0_0 l0_1 a1_0 a1_1 a1_2 a3_0 a3_1 a3_2 a3_3 a3_4)))) else (modillionref07_Step.j0 k a2 true a0_0 l0_1 a1_0 a1_1 a1_2 a3_0 a3_1 a3_2 a3_3 a3_4))) = some (r1, r2, r3, r4, r5, r6, r7) := h
 clear h
 have HC5 := Aside0.mk H
 clear H
 go_enter Try.func14, Try.ntmps14
 go_upto_region 1 with (first | ((with_reducible refine gate_dst (N := 4) rfl ?_); refine box_event ?hg (N := 4) ?hd (cs := #[.int .i64 a0_0, .slice A0_1 l0_1.length c0_1]) (t := 24) ?hr ?_; (case hd => rfl); (case hg => rfl); (case hr => first | (go_simp; done) | (go_simp; rfl)); intro gb160 hg w6 hbox hb; have n0_ := Aside0.mk (below_step (kB HB.out) hb); have n1_ := Aside0.mk (hbox); have n2_ := Aside0.mk ((by rw [hg]; exact (below_size (kB HB.out)) : w.heap.size ≤ gb160)); have n3_ := Aside0.mk ((by rw [hg]; exact (below_size (kB HB.out)) : w.heap.size ≤ gb160)); clear HB; have HB := n0_; have BK160 := n1_; have GW160 := n2_; have GE160 := n3_; clear n0_ n1_ n2_ n3_; clear hb hbox hg) | ((with_reducible refine gate_dst (N := 5) rfl ?_); refine box_event ?hg (N := 5) ?hd (cs := #[.string a1_0, .int .i64 a1_1, .int .i64 a1_2]) (t := 26) ?hr ?_; (case hd => rfl); (case hg => rfl); (case hr => first | (go_simp; done) | (go_simp; rfl)); intro gb161 hg w7 hbox hb; have n0_ := Aside0.mk (blk_below (g := gb160) (o := .cells #[.int .i64 a0_0, .slice A0_1 l0_1.length c0_1] 24 (0, 0)) (kA BK160.out) hb); have n1_ := Aside0.mk (below_step (kB HB.out) hb); have n2_ := Aside0.mk (hbox); have n3_ := Aside0.mk ((by rw [hg]; exact (below_size (kB HB.out)) : w.heap.size ≤ gb161)); have n4_ := Aside0.mk ((by rw [hg]; exact (below_size (kB HB.out)) : w.heap.size ≤ gb161)); have n5_ := Aside0.mk ((by rw [hg]; exact Nat.ne_of_lt (blk_lt (g := gb160) (o := .cells #[.int .i64 a0_0, .slice A0_1 l0_1.length c0_1] 24 (0, 0)) (kA BK160.out)) : gb160 ≠ gb161)); have n6_ := Aside0.mk ((by rw [hg]; exact Nat.ne_of_gt (blk_lt (g := gb160) (o := .cells #[.int .i64 a0_0, .slice A0_1 l0_1.length c0_1] 24 (0, 0)) (kA BK160.out)) : gb161 ≠ gb160)); clear BK160; clear HB; have BK160 := n0_; have HB := n1_; have BK161 := n2_; have GW161 := n3_; have GE161 := n4_; have NB160_161 := n5_; have NB161_160 := n6_; clear n0_ n1_ n2_ n3_ n4_ n5_ n6_; clear hb hbox hg) | ((with_reducible refine gate_dst (N := 7) rfl ?_); refine box_event ?hg (N := 7) ?hd (cs := #[.int .i64 a3_0, .int .i64 a3_1, .bool a3_2, .bool a3_3, .int .i64 a3_4]) (t := 28) ?hr ?_; (case hd => rfl); (case hg => rfl); (case hr => first | (go_simp; done) | (go_simp; rfl)); intro gb162 hg w8 hbox hb; have n0_ := Aside0.mk (blk_below (g := gb160) (o := .cells #[.int .i64 a0_0, .slice A0_1 l0_1.length c0_1] 24 (0, 0)) (kA BK160.out) hb); have n1_ := Aside0.mk (blk_below (g := gb161) (o := .cells #[.string a1_0, .int .i64 a1_1, .int .i64 a1_2] 26 (0, 0)) (kA BK161.out) hb); have n2_ := Aside0.mk (below_step (kB HB.out) hb); have n3_ := Aside0.mk (hbox); have n4_ := Aside0.mk ((by rw [hg]; exact (below_size (kB HB.out)) : w.heap.size ≤ gb162)); have n5_ := Aside0.mk ((by rw [hg]; exact (below_size (kB HB.out)) : w.heap.size ≤ gb162)); have n6_ := Aside0.mk ((by rw [hg]; exact Nat.ne_of_lt (blk_lt (g := gb160) (o := .cells #[.int .i64 a0_0, .slice A0_1 l0_1.length c0_1] 24 (0, 0)) (kA BK160.out)) : gb160 ≠ gb162)); have n7_ := Aside0.mk ((by rw [hg]; exact Nat.ne_of_gt (blk_lt (g := gb160) (o := .cells #[.int .i64 a0_0, .slice A0_1 l0_1.length c0_1] 24 (0, 0)) (kA BK160.out)) : gb162 ≠ gb160)); have n8_ := Aside0.mk ((by rw [hg]; exact Nat.ne_of_lt (blk_lt (g := gb161) (o := .cells #[.string a1_0, .int .i64 a1_1, .int .i64 a1_2] 26 (0, 0)) (kA BK161.out)) : gb161 ≠ gb162)); have n9_ := Aside0.mk ((by rw [hg]; exact Nat.ne_of_gt (blk_lt (g := gb161) (o := .cells #[.string a1_0, .int .i64 a1_1, .int .i64 a1_2] 26 (0, 0)) (kA BK161.out)) : gb162 ≠ gb161)); clear BK160; clear BK161; clear HB; have BK160 := n0_; have BK161 := n1_; have HB := n2_; have BK162 := n3_; have GW162 := n4_; have GE162 := n5_; have NB160_162 := n6_; have NB162_160 := n7_; have NB161_162 := n8_; have NB162_161 := n9_; clear n0_ n1_ n2_ n3_ n4_ n5_ n6_ n7_ n8_ n9_; clear hb hbox hg) | ((with_reducible refine gate_dst (N := 8) rfl ?_); refine box_event ?hg (N := 8) ?hd (cs := #[.int .i64 0, .int .i64 0, .bool false, .bool false, .int .i64 0]) (t := 28) ?hr ?_; (case hd => rfl); (case hg => rfl); (case hr => first | (go_simp; done) | (go_simp; rfl)); intro gb163 hg w9 hbox hb; have n0_ := Aside0.mk (blk_below (g := gb160) (o := .cells #[.int .i64 a0_0, .slice A0_1 l0_1.length c0_1] 24 (0, 0)) (kA BK160.out) hb); have n1_ := Aside0.mk (blk_below (g := gb161) (o := .cells #[.string a1_0, .int .i64 a1_1, .int .i64 a1_2] 26 (0, 0)) (kA BK161.out) hb); have n2_ := Aside0.mk (blk_below (g := gb162) (o := .cells #[.int .i64 a3_0, .int .i64 a3_1, .bool a3_2, .bool a3_3, .int .i64 a3_4] 28 (0, 0)) (kA BK162.out) hb); have n3_ := Aside0.mk (below_step (kB HB.out) hb); have n4_ := Aside0.mk (hbox); have n5_ := Aside0.mk ((by rw [hg]; exact (below_size (kB HB.out)) : w.heap.size ≤ gb163)); have n6_ := Aside0.mk ((by rw [hg]; exact (below_size (kB HB.out)) : w.heap.size ≤ gb163)); have n7_ := Aside0.mk ((by rw [hg]; exact Nat.ne_of_lt (blk_lt (g := gb160) (o := .cells #[.int .i64 a0_0, .slice A0_1 l0_1.length c0_1] 24 (0, 0)) (kA BK160.out)) : gb160 ≠ gb163)); have n8_ := Aside0.mk ((by rw [hg]; exact Nat.ne_of_gt (blk_lt (g := gb160) (o := .cells #[.int .i64 a0_0, .slice A0_1 l0_1.length c0_1] 24 (0, 0)) (kA BK160.out)) : gb163 ≠ gb160)); have n9_ := Aside0.mk ((by rw [hg]; exact Nat.ne_of_lt (blk_lt (g := gb161) (o := .cells #[.string a1_0, .int .i64 a1_1, .int .i64 a1_2] 26 (0, 0)) (kA BK161.out)) : gb161 ≠ gb163)); have n10_ := Aside0.mk ((by rw [hg]; exact Nat.ne_of_gt (blk_lt (g := gb161) (o := .cells #[.string a1_0, .int .i64 a1_1, .int .i64 a1_2] 26 (0, 0)) (kA BK161.out)) : gb163 ≠ gb161)); have n11_ := Aside0.mk ((by rw [hg]; exact Nat.ne_of_lt (blk_lt (g := gb162) (o := .cells #[.int .i64 a3_0, .int .i64 a3_1, .bool a3_2, .bool a3_3, .int .i64 a3_4] 28 (0, 0)) (kA BK162.out)) : gb162 ≠ gb163)); have n12_ := Aside0.mk ((by rw [hg]; exact Nat.ne_of_gt (blk_lt (g := gb162) (o := .cells #[.int .i64 a3_0, .int .i64 a3_1, .bool a3_2, .bool a3_3, .int .i64 a3_4] 28 (0, 0)) (kA BK162.out)) : gb163 ≠ gb162)); clear BK160; clear BK161; clear BK162; clear HB; have BK160 := n0_; have BK161 := n1_; have BK162 := n2_; have HB := n3_; have BK163 := n4_; have GW163 := n5_; have GE163 := n6_; have NB160_163 := n7_; have NB163_160 := n8_; have NB161_163 := n9_; have NB163_161 := n10_; have NB162_163 := n11_; have NB163_162 := n12_; clear n0_ n1_ n2_ n3_ n4_ n5_ n6_ n7_ n8_ n9_ n10_ n11_ n12_; clear hb hbox hg))
 (try simp only [Act.put, q1_, q2_, q3_])
 go_cut [40] (fun v40 wc => ∃ (kq : Nat) (x40_4 : Bool), v40 = .bool x40_4 ∧ Aside0 (modillionref07_Step.j0 kq a2 x40_4 a0_0 l0_1 a1_0 a1_1 a1_2 a3_0 a3_1 a3_2 a3_3 a3_4 = some (r1, r2, r3, r4, r5, r6, r7)) ∧ Aside0 (kq ≤ k) ∧ Aside0 (wc.heap[gb160]? = some (.cells #[.int .i64 a0_0, (.slice A0_1 l0_1.length c0_1)] 24 (0, 0))) ∧ Aside0 (wc.heap[gb161]? = some (.cells #[.string a1_0, .int .i64 a1_1, .int .i64 a1_2] 26 (0, 0))) ∧ Aside0 (wc.heap[gb162]? = some (.cells #[.int .i64 a3_0, .int .i64 a3_1, .bool a3_2, .bool a3_3, .int .i64 a3_4] 28 (0, 0))) ∧ Aside0 (wc.heap[gb163]? = some (.cells #[.int .i64 0, .int .i64 0, .bool false, .bool false, .int .i64 0] 28 (0, 0))) ∧ Aside0 (Below w.heap.size w wc))
 case first =>
  have H := HC5.out
  clear HC5
  replace H := Option.bind_eq_some_iff.mp H
  obtain ⟨t164, A100, H⟩ := H
  replace H : (if t164 = true then (if a3_0 < 0 then (modillionref07_Step.j0 k a2 true a0_0 l0_1 a1_0 a1_1 a1_2 a3_0 a3_1 a3_2 a3_3 a3_4) else (if a3_0 ≥ a0_0 then (modillionref07_Step.j0 k a2 true a0_0 l0_1 a1_0 a1_1 a1_2 a3_0 a3_1 a3_2 a3_3 a3_4) else (if a2 < 0 then (modillionref07_Step.j0 k a2 true a0_0 l0_1 a1_0 a1_1 a1_2 a3_0 a3_1 a3_2 a3_3 a3_4) else (modillionref07_Step.j0 k a2 (decide (a2 ≥ a1_2)) a0_0 l0_1 a1_0 a1_1 a1_2 a3_0 a3_1 a3_2 a3_3 a3_4)))) else (modillionref07_Step.j0 k a2 true a0_0 l0_1 a1_0 a1_1 a1_2 a3_0 a3_1 a3_2 a3_3 a3_4)) = some (r1, r2, r3, r4, r5, r6, r7) := H
  have A10 := Aside0.mk A100
  clear A100
  by_cases c11 : t164 = true
  ·subst c11
   have H1 : (if a3_0 < 0 then (modillionref07_Step.j0 k a2 true a0_0 l0_1 a1_0 a1_1 a1_2 a3_0 a3_1 a3_2 a3_3 a3_4) else (if a3_0 ≥ a0_0 then (modillionref07_Step.j0 k a2 true a0_0 l0_1 a1_0 a1_1 a1_2 a3_0 a3_1 a3_2 a3_3 a3_4) else (if a2 < 0 then (modillionref07_Step.j0 k a2 true a0_0 l0_1 a1_0 a1_1 a1_2 a3_0 a3_1 a3_2 a3_3 a3_4) else (modillionref07_Step.j0 k a2 (decide (a2 ≥ a1_2)) a0_0 l0_1 a1_0 a1_1 a1_2 a3_0 a3_1 a3_2 a3_3 a3_4)))) = some (r1, r2, r3, r4, r5, r6, r7) := by rw [if_pos rfl] at H; exact H
   clear H
   have H := H1
   clear H1
   by_cases c12 : a3_0 < 0
   ·rw [if_pos c12] at H
    have c12b0 := decide_eq_true c12
    clear c12
    (first | rw [c12b0] | (simp only [i64_w, i32_w]; rw [c12b0]) | skip)
    have H' := Aside0.mk H
    clear H
    have hnb13 := NB160_161.out
    have hnc13 := NB161_160.out
    have hnb14 := NB160_162.out
    have hnc14 := NB162_160.out
    have hnb15 := NB160_163.out
    have hnc15 := NB163_160.out
    have hcz16_0 : w9.cell? ⟨gb160, 0, none⟩ = some (.int .i64 a0_0) := (blk_cell BK160.out 0).trans rfl
    have hcz16_1 : w9.cell? ⟨gb160, 1, none⟩ = some (.slice A0_1 l0_1.length c0_1) := (blk_cell BK160.out 1).trans rfl
    have hfz16_0 := blk_frozen BK160.out 0
    have hfz16_1 := blk_frozen BK160.out 1
    have hnb17 := NB161_162.out
    have hnc17 := NB162_161.out
    have hnb18 := NB161_163.out
    have hnc18 := NB163_161.out
    have hcz19_0 : w9.cell? ⟨gb161, 0, none⟩ = some (.string a1_0) := (blk_cell BK161.out 0).trans rfl
    have hcz19_1 : w9.cell? ⟨gb161, 1, none⟩ = some (.int .i64 a1_1) := (blk_cell BK161.out 1).trans rfl
    have hcz19_2 : w9.cell? ⟨gb161, 2, none⟩ = some (.int .i64 a1_2) := (blk_cell BK161.out 2).trans rfl
    have hfz19_0 := blk_frozen BK161.out 0
    have hfz19_1 := blk_frozen BK161.out 1
    have hfz19_2 := blk_frozen BK161.out 2
    go_wp2_with (first | ((with_reducible refine gate_callee (f := 11) rfl ?_); refine goesL_ (some 17) rfl rfl Try.func11 (by kernel_rfl) rfl #[.agg #[.int .i64 a0_0, .slice A0_1 l0_1.length c0_1], .agg #[.string a1_0, .int .i64 a1_1, .int .i64 a1_2]] rfl (by (try simp only [List.map_toArray, List.map_cons, List.map_nil]); first | done | rfl | (simp only [List.length_drop, List.length_take]; rfl)) ?_; (with_reducible refine (modillionref07_Right.calls k a0_0 _ _ l0_1 a1_0 a1_1 a1_2 true _ ?side1 ?side2 A10.out).mono ?_); (case side1 => repeat (first | exact (Kd.C_below HR0_1.out HB.out) | (with_reducible refine Kd.C_alloc ?_ _) | (with_reducible refine Kd.C_drewN ?_ _) | (with_reducible refine Kd.C_drew ?_))); (case side2 => exact HC0_1.out); rintro e w20 ⟨rfl, hb⟩; refine ⟨_, rfl, ?_⟩; have n0_ := Aside0.mk (blk_below (g := gb160) (o := .cells #[.int .i64 a0_0, .slice A0_1 l0_1.length c0_1] 24 (0, 0)) (kA BK160.out) hb); have n1_ := Aside0.mk (blk_below (g := gb161) (o := .cells #[.string a1_0, .int .i64 a1_1, .int .i64 a1_2] 26 (0, 0)) (kA BK161.out) hb); have n2_ := Aside0.mk (blk_below (g := gb162) (o := .cells #[.int .i64 a3_0, .int .i64 a3_1, .bool a3_2, .bool a3_3, .int .i64 a3_4] 28 (0, 0)) (kA BK162.out) hb); have n3_ := Aside0.mk (blk_below (g := gb163) (o := .cells #[.int .i64 0, .int .i64 0, .bool false, .bool false, .int .i64 0] 28 (0, 0)) (kA BK163.out) hb); have n4_ := Aside0.mk (below_step (kB HB.out) hb); clear BK160; clear BK161; clear BK162; clear BK163; clear HB; have BK160 := n0_; have BK161 := n1_; have BK162 := n2_; have BK163 := n3_; have HB := n4_; clear n0_ n1_ n2_ n3_ n4_; (try clear hb); (try clear hb2); (try clear hk); (try clear hi); have hnb21 := NB162_163.out; have hnc21 := NB163_162.out; have hcz22_0 : w20.cell? ⟨gb162, 0, none⟩ = some (.int .i64 a3_0) := (blk_cell BK162.out 0).trans rfl; have hcz22_1 : w20.cell? ⟨gb162, 1, none⟩ = some (.int .i64 a3_1) := (blk_cell BK162.out 1).trans rfl; have hcz22_2 : w20.cell? ⟨gb162, 2, none⟩ = some (.bool a3_2) := (blk_cell BK162.out 2).trans rfl; have hcz22_3 : w20.cell? ⟨gb162, 3, none⟩ = some (.bool a3_3) := (blk_cell BK162.out 3).trans rfl; have hcz22_4 : w20.cell? ⟨gb162, 4, none⟩ = some (.int .i64 a3_4) := (blk_cell BK162.out 4).trans rfl; have hfz22_0 := blk_frozen BK162.out 0; have hfz22_1 := blk_frozen BK162.out 1; have hfz22_2 := blk_frozen BK162.out 2; have hfz22_3 := blk_frozen BK162.out 3; have hfz22_4 := blk_frozen BK162.out 4))
    go_meet
    case rel => exact ⟨_, (true), (by first | rfl | (simp; done) | (simp [*]; done)), H', ⟨by first | omega | exact Nat.le_refl _⟩, ⟨kA BK160.out⟩, ⟨kA BK161.out⟩, ⟨kA BK162.out⟩, ⟨kA BK163.out⟩, ⟨kB HB.out⟩⟩
   ·rw [if_neg c12] at H
    have c12b0 := decide_eq_false c12
    clear c12
    (first | rw [c12b0] | (simp only [i64_w, i32_w]; rw [c12b0]) | skip)
    by_cases c23 : a3_0 ≥ a0_0
    ·rw [if_pos c23] at H
     have c23b0 : decide (a0_0 ≤ a3_0) = true := decide_eq_true c23
     clear c23
     have H' := Aside0.mk H
     clear H
     have hnb24 := NB160_161.out
     have hnc24 := NB161_160.out
     have hnb25 := NB160_162.out
     have hnc25 := NB162_160.out
     have hnb26 := NB160_163.out
     have hnc26 := NB163_160.out
     have hcz27_0 : w9.cell? ⟨gb160, 0, none⟩ = some (.int .i64 a0_0) := (blk_cell BK160.out 0).trans rfl
     have hcz27_1 : w9.cell? ⟨gb160, 1, none⟩ = some (.slice A0_1 l0_1.length c0_1) := (blk_cell BK160.out 1).trans rfl
     have hfz27_0 := blk_frozen BK160.out 0
     have hfz27_1 := blk_frozen BK160.out 1
     have hnb28 := NB161_162.out
     have hnc28 := NB162_161.out
     have hnb29 := NB161_163.out
     have hnc29 := NB163_161.out
     have hcz30_0 : w9.cell? ⟨gb161, 0, none⟩ = some (.string a1_0) := (blk_cell BK161.out 0).trans rfl
     have hcz30_1 : w9.cell? ⟨gb161, 1, none⟩ = some (.int .i64 a1_1) := (blk_cell BK161.out 1).trans rfl
     have hcz30_2 : w9.cell? ⟨gb161, 2, none⟩ = some (.int .i64 a1_2) := (blk_cell BK161.out 2).trans rfl
     have hfz30_0 := blk_frozen BK161.out 0
     have hfz30_1 := blk_frozen BK161.out 1
     have hfz30_2 := blk_frozen BK161.out 2
     go_wp2_with (first | ((with_reducible refine gate_callee (f := 11) rfl ?_); refine goesL_ (some 17) rfl rfl Try.func11 (by kernel_rfl) rfl #[.agg #[.int .i64 a0_0, .slice A0_1 l0_1.length c0_1], .agg #[.string a1_0, .int .i64 a1_1, .int .i64 a1_2]] rfl (by (try simp only [List.map_toArray, List.map_cons, List.map_nil]); first | done | rfl | (simp only [List.length_drop, List.length_take]; rfl)) ?_; (with_reducible refine (modillionref07_Right.calls k a0_0 _ _ l0_1 a1_0 a1_1 a1_2 true _ ?side1 ?side2 A10.out).mono ?_); (case side1 => repeat (first | exact (Kd.C_below HR0_1.out HB.out) | (with_reducible refine Kd.C_alloc ?_ _) | (with_reducible refine Kd.C_drewN ?_ _) | (with_reducible refine Kd.C_drew ?_))); (case side2 => exact HC0_1.out); rintro e w31 ⟨rfl, hb⟩; refine ⟨_, rfl, ?_⟩; have n0_ := Aside0.mk (blk_below (g := gb160) (o := .cells #[.int .i64 a0_0, .slice A0_1 l0_1.length c0_1] 24 (0, 0)) (kA BK160.out) hb); have n1_ := Aside0.mk (blk_below (g := gb161) (o := .cells #[.string a1_0, .int .i64 a1_1, .int .i64 a1_2] 26 (0, 0)) (kA BK161.out) hb); have n2_ := Aside0.mk (blk_below (g := gb162) (o := .cells #[.int .i64 a3_0, .int .i64 a3_1, .bool a3_2, .bool a3_3, .int .i64 a3_4] 28 (0, 0)) (kA BK162.out) hb); have n3_ := Aside0.mk (blk_below (g := gb163) (o := .cells #[.int .i64 0, .int .i64 0, .bool false, .bool false, .int .i64 0] 28 (0, 0)) (kA BK163.out) hb); have n4_ := Aside0.mk (below_step (kB HB.out) hb); clear BK160; clear BK161; clear BK162; clear BK163; clear HB; have BK160 := n0_; have BK161 := n1_; have BK162 := n2_; have BK163 := n3_; have HB := n4_; clear n0_ n1_ n2_ n3_ n4_; (try clear hb); (try clear hb2); (try clear hk); (try clear hi); have hnb32 := NB162_163.out; have hnc32 := NB163_162.out; have hcz33_0 : w31.cell? ⟨gb162, 0, none⟩ = some (.int .i64 a3_0) := (blk_cell BK162.out 0).trans rfl; have hcz33_1 : w31.cell? ⟨gb162, 1, none⟩ = some (.int .i64 a3_1) := (blk_cell BK162.out 1).trans rfl; have hcz33_2 : w31.cell? ⟨gb162, 2, none⟩ = some (.bool a3_2) := (blk_cell BK162.out 2).trans rfl; have hcz33_3 : w31.cell? ⟨gb162, 3, none⟩ = some (.bool a3_3) := (blk_cell BK162.out 3).trans rfl; have hcz33_4 : w31.cell? ⟨gb162, 4, none⟩ = some (.int .i64 a3_4) := (blk_cell BK162.out 4).trans rfl; have hfz33_0 := blk_frozen BK162.out 0; have hfz33_1 := blk_frozen BK162.out 1; have hfz33_2 := blk_frozen BK162.out 2; have hfz33_3 := blk_frozen BK162.out 3; have hfz33_4 := blk_frozen BK162.out 4; have hcz34_0 : w31.cell? ⟨gb160, 0, none⟩ = some (.int .i64 a0_0) := (blk_cell BK160.out 0).trans rfl; have hcz34_1 : w31.cell? ⟨gb160, 1, none⟩ = some (.slice A0_1 l0_1.length c0_1) := (blk_cell BK160.out 1).trans rfl; have hfz34_0 := blk_frozen BK160.out 0; have hfz34_1 := blk_frozen BK160.out 1))
     go_meet
     case rel => exact ⟨_, (true), (by first | rfl | (simp; done) | (simp [*]; done)), H', ⟨by first | omega | exact Nat.le_refl _⟩, ⟨kA BK160.out⟩, ⟨kA BK161.out⟩, ⟨kA BK162.out⟩, ⟨kA BK163.out⟩, ⟨kB HB.out⟩⟩
    ·rw [if_neg c23] at H
     have c23b0 : decide (a0_0 ≤ a3_0) = false := decide_eq_false c23
     clear c23
     by_cases c35 : a2 < 0
     ·rw [if_pos c35] at H
      have c35b0 := decide_eq_true c35
      clear c35
      have H' := Aside0.mk H
      clear H
      have hnb36 := NB160_161.out
      have hnc36 := NB161_160.out
      have hnb37 := NB160_162.out
      have hnc37 := NB162_160.out
      have hnb38 := NB160_163.out
      have hnc38 := NB163_160.out
      have hcz39_0 : w9.cell? ⟨gb160, 0, none⟩ = some (.int .i64 a0_0) := (blk_cell BK160.out 0).trans rfl
      have hcz39_1 : w9.cell? ⟨gb160, 1, none⟩ = some (.slice A0_1 l0_1.length c0_1) := (blk_cell BK160.out 1).trans rfl
      have hfz39_0 := blk_frozen BK160.out 0
      have hfz39_1 := blk_frozen BK160.out 1
      have hnb40 := NB161_162.out
      have hnc40 := NB162_161.out
      have hnb41 := NB161_163.out
      have hnc41 := NB163_161.out
      have hcz42_0 : w9.cell? ⟨gb161, 0, none⟩ = some (.string a1_0) := (blk_cell BK161.out 0).trans rfl
      have hcz42_1 : w9.cell? ⟨gb161, 1, none⟩ = some (.int .i64 a1_1) := (blk_cell BK161.out 1).trans rfl
      have hcz42_2 : w9.cell? ⟨gb161, 2, none⟩ = some (.int .i64 a1_2) := (blk_cell BK161.out 2).trans rfl
      have hfz42_0 := blk_frozen BK161.out 0
      have hfz42_1 := blk_frozen BK161.out 1
      have hfz42_2 := blk_frozen BK161.out 2
      go_wp2_with (first | ((with_reducible refine gate_callee (f := 11) rfl ?_); refine goesL_ (some 17) rfl rfl Try.func11 (by kernel_rfl) rfl #[.agg #[.int .i64 a0_0, .slice A0_1 l0_1.length c0_1], .agg #[.string a1_0, .int .i64 a1_1, .int .i64 a1_2]] rfl (by (try simp only [List.map_toArray, List.map_cons, List.map_nil]); first | done | rfl | (simp only [List.length_drop, List.length_take]; rfl)) ?_; (with_reducible refine (modillionref07_Right.calls k a0_0 _ _ l0_1 a1_0 a1_1 a1_2 true _ ?side1 ?side2 A10.out).mono ?_); (case side1 => repeat (first | exact (Kd.C_below HR0_1.out HB.out) | (with_reducible refine Kd.C_alloc ?_ _) | (with_reducible refine Kd.C_drewN ?_ _) | (with_reducible refine Kd.C_drew ?_))); (case side2 => exact HC0_1.out); rintro e w43 ⟨rfl, hb⟩; refine ⟨_, rfl, ?_⟩; have n0_ := Aside0.mk (blk_below (g := gb160) (o := .cells #[.int .i64 a0_0, .slice A0_1 l0_1.length c0_1] 24 (0, 0)) (kA BK160.out) hb); have n1_ := Aside0.mk (blk_below (g := gb161) (o := .cells #[.string a1_0, .int .i64 a1_1, .int .i64 a1_2] 26 (0, 0)) (kA BK161.out) hb); have n2_ := Aside0.mk (blk_below (g := gb162) (o := .cells #[.int .i64 a3_0, .int .i64 a3_1, .bool a3_2, .bool a3_3, .int .i64 a3_4] 28 (0, 0)) (kA BK162.out) hb); have n3_ := Aside0.mk (blk_below (g := gb163) (o := .cells #[.int .i64 0, .int .i64 0, .bool false, .bool false, .int .i64 0] 28 (0, 0)) (kA BK163.out) hb); have n4_ := Aside0.mk (below_step (kB HB.out) hb); clear BK160; clear BK161; clear BK162; clear BK163; clear HB; have BK160 := n0_; have BK161 := n1_; have BK162 := n2_; have BK163 := n3_; have HB := n4_; clear n0_ n1_ n2_ n3_ n4_; (try clear hb); (try clear hb2); (try clear hk); (try clear hi); have hnb44 := NB162_163.out; have hnc44 := NB163_162.out; have hcz45_0 : w43.cell? ⟨gb162, 0, none⟩ = some (.int .i64 a3_0) := (blk_cell BK162.out 0).trans rfl; have hcz45_1 : w43.cell? ⟨gb162, 1, none⟩ = some (.int .i64 a3_1) := (blk_cell BK162.out 1).trans rfl; have hcz45_2 : w43.cell? ⟨gb162, 2, none⟩ = some (.bool a3_2) := (blk_cell BK162.out 2).trans rfl; have hcz45_3 : w43.cell? ⟨gb162, 3, none⟩ = some (.bool a3_3) := (blk_cell BK162.out 3).trans rfl; have hcz45_4 : w43.cell? ⟨gb162, 4, none⟩ = some (.int .i64 a3_4) := (blk_cell BK162.out 4).trans rfl; have hfz45_0 := blk_frozen BK162.out 0; have hfz45_1 := blk_frozen BK162.out 1; have hfz45_2 := blk_frozen BK162.out 2; have hfz45_3 := blk_frozen BK162.out 3; have hfz45_4 := blk_frozen BK162.out 4; have hcz46_0 : w43.cell? ⟨gb160, 0, none⟩ = some (.int .i64 a0_0) := (blk_cell BK160.out 0).trans rfl; have hcz46_1 : w43.cell? ⟨gb160, 1, none⟩ = some (.slice A0_1 l0_1.length c0_1) := (blk_cell BK160.out 1).trans rfl; have hfz46_0 := blk_frozen BK160.out 0; have hfz46_1 := blk_frozen BK160.out 1))
      go_meet
      case rel => exact ⟨_, (true), (by first | rfl | (simp; done) | (simp [*]; done)), H', ⟨by first | omega | exact Nat.le_refl _⟩, ⟨kA BK160.out⟩, ⟨kA BK161.out⟩, ⟨kA BK162.out⟩, ⟨kA BK163.out⟩, ⟨kB HB.out⟩⟩
     ·rw [if_neg c35] at H
      have c35b0 := decide_eq_false c35
      clear c35
      have H' := Aside0.mk H
      clear H
      have hnb47 := NB160_161.out
      have hnc47 := NB161_160.out
      have hnb48 := NB160_162.out
      have hnc48 := NB162_160.out
      have hnb49 := NB160_163.out
      have hnc49 := NB163_160.out
      have hcz50_0 : w9.cell? ⟨gb160, 0, none⟩ = some (.int .i64 a0_0) := (blk_cell BK160.out 0).trans rfl
      have hcz50_1 : w9.cell? ⟨gb160, 1, none⟩ = some (.slice A0_1 l0_1.length c0_1) := (blk_cell BK160.out 1).trans rfl
      have hfz50_0 := blk_frozen BK160.out 0
      have hfz50_1 := blk_frozen BK160.out 1
      have hnb51 := NB161_162.out
      have hnc51 := NB162_161.out
      have hnb52 := NB161_163.out
      have hnc52 := NB163_161.out
      have hcz53_0 : w9.cell? ⟨gb161, 0, none⟩ = some (.string a1_0) := (blk_cell BK161.out 0).trans rfl
      have hcz53_1 : w9.cell? ⟨gb161, 1, none⟩ = some (.int .i64 a1_1) := (blk_cell BK161.out 1).trans rfl
      have hcz53_2 : w9.cell? ⟨gb161, 2, none⟩ = some (.int .i64 a1_2) := (blk_cell BK161.out 2).trans rfl
      have hfz53_0 := blk_frozen BK161.out 0
      have hfz53_1 := blk_frozen BK161.out 1
      have hfz53_2 := blk_frozen BK161.out 2
      go_wp2_with (first | ((with_reducible refine gate_callee (f := 11) rfl ?_); refine goesL_ (some 17) rfl rfl Try.func11 (by kernel_rfl) rfl #[.agg #[.int .i64 a0_0, .slice A0_1 l0_1.length c0_1], .agg #[.string a1_0, .int .i64 a1_1, .int .i64 a1_2]] rfl (by (try simp only [List.map_toArray, List.map_cons, List.map_nil]); first | done | rfl | (simp only [List.length_drop, List.length_take]; rfl)) ?_; (with_reducible refine (modillionref07_Right.calls k a0_0 _ _ l0_1 a1_0 a1_1 a1_2 true _ ?side1 ?side2 A10.out).mono ?_); (case side1 => repeat (first | exact (Kd.C_below HR0_1.out HB.out) | (with_reducible refine Kd.C_alloc ?_ _) | (with_reducible refine Kd.C_drewN ?_ _) | (with_reducible refine Kd.C_drew ?_))); (case side2 => exact HC0_1.out); rintro e w54 ⟨rfl, hb⟩; refine ⟨_, rfl, ?_⟩; have n0_ := Aside0.mk (blk_below (g := gb160) (o := .cells #[.int .i64 a0_0, .slice A0_1 l0_1.length c0_1] 24 (0, 0)) (kA BK160.out) hb); have n1_ := Aside0.mk (blk_below (g := gb161) (o := .cells #[.string a1_0, .int .i64 a1_1, .int .i64 a1_2] 26 (0, 0)) (kA BK161.out) hb); have n2_ := Aside0.mk (blk_below (g := gb162) (o := .cells #[.int .i64 a3_0, .int .i64 a3_1, .bool a3_2, .bool a3_3, .int .i64 a3_4] 28 (0, 0)) (kA BK162.out) hb); have n3_ := Aside0.mk (blk_below (g := gb163) (o := .cells #[.int .i64 0, .int .i64 0, .bool false, .bool false, .int .i64 0] 28 (0, 0)) (kA BK163.out) hb); have n4_ := Aside0.mk (below_step (kB HB.out) hb); clear BK160; clear BK161; clear BK162; clear BK163; clear HB; have BK160 := n0_; have BK161 := n1_; have BK162 := n2_; have BK163 := n3_; have HB := n4_; clear n0_ n1_ n2_ n3_ n4_; (try clear hb); (try clear hb2); (try clear hk); (try clear hi); have hnb55 := NB162_163.out; have hnc55 := NB163_162.out; have hcz56_0 : w54.cell? ⟨gb162, 0, none⟩ = some (.int .i64 a3_0) := (blk_cell BK162.out 0).trans rfl; have hcz56_1 : w54.cell? ⟨gb162, 1, none⟩ = some (.int .i64 a3_1) := (blk_cell BK162.out 1).trans rfl; have hcz56_2 : w54.cell? ⟨gb162, 2, none⟩ = some (.bool a3_2) := (blk_cell BK162.out 2).trans rfl; have hcz56_3 : w54.cell? ⟨gb162, 3, none⟩ = some (.bool a3_3) := (blk_cell BK162.out 3).trans rfl; have hcz56_4 : w54.cell? ⟨gb162, 4, none⟩ = some (.int .i64 a3_4) := (blk_cell BK162.out 4).trans rfl; have hfz56_0 := blk_frozen BK162.out 0; have hfz56_1 := blk_frozen BK162.out 1; have hfz56_2 := blk_frozen BK162.out 2; have hfz56_3 := blk_frozen BK162.out 3; have hfz56_4 := blk_frozen BK162.out 4; have hcz57_0 : w54.cell? ⟨gb160, 0, none⟩ = some (.int .i64 a0_0) := (blk_cell BK160.out 0).trans rfl; have hcz57_1 : w54.cell? ⟨gb160, 1, none⟩ = some (.slice A0_1 l0_1.length c0_1) := (blk_cell BK160.out 1).trans rfl; have hfz57_0 := blk_frozen BK160.out 0; have hfz57_1 := blk_frozen BK160.out 1; have hcz58_0 : w54.cell? ⟨gb161, 0, none⟩ = some (.string a1_0) := (blk_cell BK161.out 0).trans rfl; have hcz58_1 : w54.cell? ⟨gb161, 1, none⟩ = some (.int .i64 a1_1) := (blk_cell BK161.out 1).trans rfl; have hcz58_2 : w54.cell? ⟨gb161, 2, none⟩ = some (.int .i64 a1_2) := (blk_cell BK161.out 2).trans rfl; have hfz58_0 := blk_frozen BK161.out 0; have hfz58_1 := blk_frozen BK161.out 1; have hfz58_2 := blk_frozen BK161.out 2))
      go_meet
      case rel => exact ⟨_, (decide (a2 ≥ a1_2)), (by first | rfl | (simp; done) | (simp [*]; done)), H', ⟨by first | omega | exact Nat.le_refl _⟩, ⟨kA BK160.out⟩, ⟨kA BK161.out⟩, ⟨kA BK162.out⟩, ⟨kA BK163.out⟩, ⟨kB HB.out⟩⟩
  ·replace c11 := Bool.eq_false_iff.mpr c11
   subst c11
   have H1 : (modillionref07_Step.j0 k a2 true a0_0 l0_1 a1_0 a1_1 a1_2 a3_0 a3_1 a3_2 a3_3 a3_4) = some (r1, r2, r3, r4, r5, r6, r7) := by rw [if_neg (show ¬ (false = true) by decide)] at H; exact H
   clear H
   have H := H1
   clear H1
   have H' := Aside0.mk H
   clear H
   have hnb59 := NB160_161.out
   have hnc59 := NB161_160.out
   have hnb60 := NB160_162.out
   have hnc60 := NB162_160.out
   have hnb61 := NB160_163.out
   have hnc61 := NB163_160.out
   have hcz62_0 : w9.cell? ⟨gb160, 0, none⟩ = some (.int .i64 a0_0) := (blk_cell BK160.out 0).trans rfl
   have hcz62_1 : w9.cell? ⟨gb160, 1, none⟩ = some (.slice A0_1 l0_1.length c0_1) := (blk_cell BK160.out 1).trans rfl
   have hfz62_0 := blk_frozen BK160.out 0
   have hfz62_1 := blk_frozen BK160.out 1
   have hnb63 := NB161_162.out
   have hnc63 := NB162_161.out
   have hnb64 := NB161_163.out
   have hnc64 := NB163_161.out
   have hcz65_0 : w9.cell? ⟨gb161, 0, none⟩ = some (.string a1_0) := (blk_cell BK161.out 0).trans rfl
   have hcz65_1 : w9.cell? ⟨gb161, 1, none⟩ = some (.int .i64 a1_1) := (blk_cell BK161.out 1).trans rfl
   have hcz65_2 : w9.cell? ⟨gb161, 2, none⟩ = some (.int .i64 a1_2) := (blk_cell BK161.out 2).trans rfl
   have hfz65_0 := blk_frozen BK161.out 0
   have hfz65_1 := blk_frozen BK161.out 1
   have hfz65_2 := blk_frozen BK161.out 2
   go_wp2_with (first | ((with_reducible refine gate_callee (f := 11) rfl ?_); refine goesL_ (some 17) rfl rfl Try.func11 (by kernel_rfl) rfl #[.agg #[.int .i64 a0_0, .slice A0_1 l0_1.length c0_1], .agg #[.string a1_0, .int .i64 a1_1, .int .i64 a1_2]] rfl (by (try simp only [List.map_toArray, List.map_cons, List.map_nil]); first | done | rfl | (simp only [List.length_drop, List.length_take]; rfl)) ?_; (with_reducible refine (modillionref07_Right.calls k a0_0 _ _ l0_1 a1_0 a1_1 a1_2 false _ ?side1 ?side2 A10.out).mono ?_); (case side1 => repeat (first | exact (Kd.C_below HR0_1.out HB.out) | (with_reducible refine Kd.C_alloc ?_ _) | (with_reducible refine Kd.C_drewN ?_ _) | (with_reducible refine Kd.C_drew ?_))); (case side2 => exact HC0_1.out); rintro e w66 ⟨rfl, hb⟩; refine ⟨_, rfl, ?_⟩; have n0_ := Aside0.mk (blk_below (g := gb160) (o := .cells #[.int .i64 a0_0, .slice A0_1 l0_1.length c0_1] 24 (0, 0)) (kA BK160.out) hb); have n1_ := Aside0.mk (blk_below (g := gb161) (o := .cells #[.string a1_0, .int .i64 a1_1, .int .i64 a1_2] 26 (0, 0)) (kA BK161.out) hb); have n2_ := Aside0.mk (blk_below (g := gb162) (o := .cells #[.int .i64 a3_0, .int .i64 a3_1, .bool a3_2, .bool a3_3, .int .i64 a3_4] 28 (0, 0)) (kA BK162.out) hb); have n3_ := Aside0.mk (blk_below (g := gb163) (o := .cells #[.int .i64 0, .int .i64 0, .bool false, .bool false, .int .i64 0] 28 (0, 0)) (kA BK163.out) hb); have n4_ := Aside0.mk (below_step (kB HB.out) hb); clear BK160; clear BK161; clear BK162; clear BK163; clear HB; have BK160 := n0_; have BK161 := n1_; have BK162 := n2_; have BK163 := n3_; have HB := n4_; clear n0_ n1_ n2_ n3_ n4_; (try clear hb); (try clear hb2); (try clear hk); (try clear hi)))
   go_meet
   case rel => exact ⟨_, (true), (by first | rfl | (simp; done) | (simp [*]; done)), H', ⟨by first | omega | exact Nat.le_refl _⟩, ⟨kA BK160.out⟩, ⟨kA BK161.out⟩, ⟨kA BK162.out⟩, ⟨kA BK163.out⟩, ⟨kB HB.out⟩⟩
 case rest =>
  clear HC5
  try clear c1
  try clear c2
  try clear p2
  try clear c3
  try clear c4
  try clear c5
  try clear c6
  try clear c11
  try clear c12
  try clear c12b0
  try clear c13
  try clear c14
  try clear c15
  try clear c17
  try clear c18
  try clear c21
  try clear c23
  try clear c23b0
  try clear c24
  try clear c25
  try clear c26
  try clear c28
  try clear c29
  try clear c32
  try clear c35
  try clear c35b0
  try clear c36
  try clear c37
  try clear c38
  try clear c40
  try clear c41
  try clear c44
  try clear c47
  try clear c48
  try clear c49
  try clear c51
  try clear c52
  try clear c55
  try clear c59
  try clear c60
  try clear c61
  try clear c63
  try clear c64
  try clear hcz16_0
  try clear hcz16_1
  try clear hcz19_0
  try clear hcz19_1
  try clear hcz19_2
  try clear hcz22_0
  try clear hcz22_1
  try clear hcz22_2
  try clear hcz22_3
  try clear hcz22_4
  try clear hcz27_0
  try clear hcz27_1
  try clear hcz30_0
  try clear hcz30_1
  try clear hcz30_2
  try clear hcz33_0
  try clear hcz33_1
  try clear hcz33_2
  try clear hcz33_3
  try clear hcz33_4
  try clear hcz34_0
  try clear hcz34_1
  try clear hcz39_0
  try clear hcz39_1
  try clear hcz42_0
  try clear hcz42_1
  try clear hcz42_2
  try clear hcz45_0
  try clear hcz45_1
  try clear hcz45_2
  try clear hcz45_3
  try clear hcz45_4
  try clear hcz46_0
  try clear hcz46_1
  try clear hcz50_0
  try clear hcz50_1
  try clear hcz53_0
  try clear hcz53_1
  try clear hcz53_2
  try clear hcz56_0
  try clear hcz56_1
  try clear hcz56_2
  try clear hcz56_3
  try clear hcz56_4
  try clear hcz57_0
  try clear hcz57_1
  try clear hcz58_0
  try clear hcz58_1
  try clear hcz58_2
  try clear hcz62_0
  try clear hcz62_1
  try clear hcz65_0
  try clear hcz65_1
  try clear hcz65_2
  try clear hfz16_0
  try clear hfz16_1
  try clear hfz19_0
  try clear hfz19_1
  try clear hfz19_2
  try clear hfz22_0
  try clear hfz22_1
  try clear hfz22_2
  try clear hfz22_3
  try clear hfz22_4
  try clear hfz27_0
  try clear hfz27_1
  try clear hfz30_0
  try clear hfz30_1
  try clear hfz30_2
  try clear hfz33_0
  try clear hfz33_1
  try clear hfz33_2
  try clear hfz33_3
  try clear hfz33_4
  try clear hfz34_0
  try clear hfz34_1
  try clear hfz39_0
  try clear hfz39_1
  try clear hfz42_0
  try clear hfz42_1
  try clear hfz42_2
  try clear hfz45_0
  try clear hfz45_1
  try clear hfz45_2
  try clear hfz45_3
  try clear hfz45_4
  try clear hfz46_0
  try clear hfz46_1
  try clear hfz50_0
  try clear hfz50_1
  try clear hfz53_0
  try clear hfz53_1
  try clear hfz53_2
  try clear hfz56_0
  try clear hfz56_1
  try clear hfz56_2
  try clear hfz56_3
  try clear hfz56_4
  try clear hfz57_0
  try clear hfz57_1
  try clear hfz58_0
  try clear hfz58_1
  try clear hfz58_2
  try clear hfz62_0
  try clear hfz62_1
  try clear hfz65_0
  try clear hfz65_1
  try clear hfz65_2
  obtain ⟨kq, x40_4, rfl, HA, HJ4, BK160, BK161, BK162, BK163, HB⟩ := hcut
  cases kq with
  | zero => exact absurd HA.out (by simp [modillionref07_Step.j0])
  | succ kj4 =>
   have H := HA.out
   clear HA
   simp only [modillionref07_Step.j0] at H
   by_cases c67 : x40_4 = true
   ·subst c67
    have H1 : (some (0, 0, false, false, 0, ([] : List (S48)), 70)) = some (r1, r2, r3, r4, r5, r6, r7) := by rw [if_pos rfl] at H; exact H
    clear H
    have H := H1
    clear H1
    simp only [Option.some.injEq, Prod.mk.injEq] at H
    obtain ⟨rfl, rfl, rfl, rfl, rfl, rfl, rfl⟩ := H
    have hnb68 := NB163_160.out
    have hnc68 := NB160_163.out
    have hnb69 := NB163_161.out
    have hnc69 := NB161_163.out
    have hnb70 := NB163_162.out
    have hnc70 := NB162_163.out
    have hcz71_0 : wc.cell? ⟨gb163, 0, none⟩ = some (.int .i64 0) := (blk_cell BK163.out 0).trans rfl
    have hcz71_1 : wc.cell? ⟨gb163, 1, none⟩ = some (.int .i64 0) := (blk_cell BK163.out 1).trans rfl
    have hcz71_2 : wc.cell? ⟨gb163, 2, none⟩ = some (.bool false) := (blk_cell BK163.out 2).trans rfl
    have hcz71_3 : wc.cell? ⟨gb163, 3, none⟩ = some (.bool false) := (blk_cell BK163.out 3).trans rfl
    have hcz71_4 : wc.cell? ⟨gb163, 4, none⟩ = some (.int .i64 0) := (blk_cell BK163.out 4).trans rfl
    have hfz71_0 := blk_frozen BK163.out 0
    have hfz71_1 := blk_frozen BK163.out 1
    have hfz71_2 := blk_frozen BK163.out 2
    have hfz71_3 := blk_frozen BK163.out 3
    have hfz71_4 := blk_frozen BK163.out 4
    go_wp2
    refine bodyPost_ret (results_ctt rfl _ _ gb163 28 #[.int .i64 0, .int .i64 0, .bool false, .bool false, .int .i64 0] (0, 0) _ rfl (by (with_reducible repeat (first | refine blk_drewN ?_ _ | refine blk_drew ?_ | refine blk_alloc ?_ _)); refine blk_put (cs := #[.int .i64 0, .int .i64 0, .bool false, .bool false, .int .i64 0]) ?_ 4 _ rfl; refine blk_put (cs := #[.int .i64 0, .int .i64 0, .bool false, .bool false, .int .i64 0]) ?_ 3 _ rfl; refine blk_put (cs := #[.int .i64 0, .int .i64 0, .bool false, .bool false, .int .i64 0]) ?_ 2 _ rfl; refine blk_put (cs := #[.int .i64 0, .int .i64 0, .bool false, .bool false, .int .i64 0]) ?_ 1 _ rfl; refine blk_put (cs := #[.int .i64 0, .int .i64 0, .bool false, .bool false, .int .i64 0]) ?_ 0 _ rfl; exact kA BK163.out) Try.underlying28 rfl (by kernel_rfl)) rfl ?_
    exact ⟨_, by first | rfl | (simp [errW_none, errW_some] <;> rfl) | (simp [*, errW_none, errW_some] <;> rfl), by first | exact Kd.R_nil _ _ _ _ _ | exact Kd.N_nil _ _ _ _ _ | exact Kd.V_nil _ _ _ _ _ | exact Kd.Q_nil _ _ _ _ _ | exact Kd.S_nil _ _ _ _ _, by exact kB HB.out⟩
   ·replace c67 := Bool.eq_false_iff.mpr c67
    subst c67
    have H1 : ((modillionref07_Great.f a3_1).bind fun t165 => (if t165 = true then (modillionref07_Step.j1 kj4 a2 true a0_0 l0_1 a1_0 a1_1 a1_2 a3_0 a3_1 a3_2 a3_3 a3_4) else ((modillionref07_Great.f a3_4).bind fun t166 => (modillionref07_Step.j1 kj4 a2 t166 a0_0 l0_1 a1_0 a1_1 a1_2 a3_0 a3_1 a3_2 a3_3 a3_4)))) = some (r1, r2, r3, r4, r5, r6, r7) := by rw [if_neg (show ¬ (false = true) by decide)] at H; exact H
    clear H
    have H := H1
    clear H1
    have HC72 := Aside0.mk H
    clear H
    go_upto_region 3 with (fail)
    go_cut [49] (fun v49 wc => ∃ (kq : Nat) (x49_71 : Bool), v49 = .bool x49_71 ∧ Aside0 (modillionref07_Step.j1 kq a2 x49_71 a0_0 l0_1 a1_0 a1_1 a1_2 a3_0 a3_1 a3_2 a3_3 a3_4 = some (r1, r2, r3, r4, r5, r6, r7)) ∧ Aside0 (kq ≤ kj4) ∧ Aside0 (wc.heap[gb160]? = some (.cells #[.int .i64 a0_0, (.slice A0_1 l0_1.length c0_1)] 24 (0, 0))) ∧ Aside0 (wc.heap[gb161]? = some (.cells #[.string a1_0, .int .i64 a1_1, .int .i64 a1_2] 26 (0, 0))) ∧ Aside0 (wc.heap[gb162]? = some (.cells #[.int .i64 a3_0, .int .i64 a3_1, .bool a3_2, .bool a3_3, .int .i64 a3_4] 28 (0, 0))) ∧ Aside0 (wc.heap[gb163]? = some (.cells #[.int .i64 0, .int .i64 0, .bool false, .bool false, .int .i64 0] 28 (0, 0))) ∧ Aside0 (Below w.heap.size w wc))
    case first =>
     have H := HC72.out
     clear HC72
     replace H := Option.bind_eq_some_iff.mp H
     obtain ⟨t165, A730, H⟩ := H
     replace H : (if t165 = true then (modillionref07_Step.j1 kj4 a2 true a0_0 l0_1 a1_0 a1_1 a1_2 a3_0 a3_1 a3_2 a3_3 a3_4) else ((modillionref07_Great.f a3_4).bind fun t166 => (modillionref07_Step.j1 kj4 a2 t166 a0_0 l0_1 a1_0 a1_1 a1_2 a3_0 a3_1 a3_2 a3_3 a3_4))) = some (r1, r2, r3, r4, r5, r6, r7) := H
     have A73 := Aside0.mk A730
     clear A730
     by_cases c74 : t165 = true
     ·subst c74
      have H1 : (modillionref07_Step.j1 kj4 a2 true a0_0 l0_1 a1_0 a1_1 a1_2 a3_0 a3_1 a3_2 a3_3 a3_4) = some (r1, r2, r3, r4, r5, r6, r7) := by rw [if_pos rfl] at H; exact H
      clear H
      have H := H1
      clear H1
      have H' := Aside0.mk H
      clear H
      have hnb75 := NB162_160.out
      have hnc75 := NB160_162.out
      have hnb76 := NB162_161.out
      have hnc76 := NB161_162.out
      have hnb77 := NB162_163.out
      have hnc77 := NB163_162.out
      have hcz78_0 : wc.cell? ⟨gb162, 0, none⟩ = some (.int .i64 a3_0) := (blk_cell BK162.out 0).trans rfl
      have hcz78_1 : wc.cell? ⟨gb162, 1, none⟩ = some (.int .i64 a3_1) := (blk_cell BK162.out 1).trans rfl
      have hcz78_2 : wc.cell? ⟨gb162, 2, none⟩ = some (.bool a3_2) := (blk_cell BK162.out 2).trans rfl
      have hcz78_3 : wc.cell? ⟨gb162, 3, none⟩ = some (.bool a3_3) := (blk_cell BK162.out 3).trans rfl
      have hcz78_4 : wc.cell? ⟨gb162, 4, none⟩ = some (.int .i64 a3_4) := (blk_cell BK162.out 4).trans rfl
      have hfz78_0 := blk_frozen BK162.out 0
      have hfz78_1 := blk_frozen BK162.out 1
      have hfz78_2 := blk_frozen BK162.out 2
      have hfz78_3 := blk_frozen BK162.out 3
      have hfz78_4 := blk_frozen BK162.out 4
      go_wp2_with (first | ((with_reducible refine gate_callee (f := 29) rfl ?_); refine goesL_ (some 44) rfl rfl Try.func29 (by kernel_rfl) rfl #[.int .i64 a3_1] rfl (by (try simp only [List.map_toArray, List.map_cons, List.map_nil]); first | done | rfl | (simp only [List.length_drop, List.length_take]; rfl)) ?_; (with_reducible refine (modillionref07_Great.calls a3_1 true _ A73.out).mono ?_); rintro e w' ⟨rfl, ⟨nd, rfl⟩⟩; refine ⟨_, rfl, ?_⟩))
      go_meet
      case rel => exact ⟨_, (true), (by first | rfl | (simp; done) | (simp [*]; done)), H', ⟨by have := HJ4.out; first | omega | exact Nat.le_refl _⟩, ⟨kA BK160.out⟩, ⟨kA BK161.out⟩, ⟨kA BK162.out⟩, ⟨kA BK163.out⟩, ⟨kB HB.out⟩⟩
     ·replace c74 := Bool.eq_false_iff.mpr c74
      subst c74
      have H1 : ((modillionref07_Great.f a3_4).bind fun t166 => (modillionref07_Step.j1 kj4 a2 t166 a0_0 l0_1 a1_0 a1_1 a1_2 a3_0 a3_1 a3_2 a3_3 a3_4)) = some (r1, r2, r3, r4, r5, r6, r7) := by rw [if_neg (show ¬ (false = true) by decide)] at H; exact H
      clear H
      have H := H1
      clear H1
      replace H := Option.bind_eq_some_iff.mp H
      obtain ⟨t166, A790, H⟩ := H
      replace H : (modillionref07_Step.j1 kj4 a2 t166 a0_0 l0_1 a1_0 a1_1 a1_2 a3_0 a3_1 a3_2 a3_3 a3_4) = some (r1, r2, r3, r4, r5, r6, r7) := H
      have A79 := Aside0.mk A790
      clear A790
      have H' := Aside0.mk H
      clear H
      have hnb80 := NB162_160.out
      have hnc80 := NB160_162.out
      have hnb81 := NB162_161.out
      have hnc81 := NB161_162.out
      have hnb82 := NB162_163.out
      have hnc82 := NB163_162.out
      have hcz83_0 : wc.cell? ⟨gb162, 0, none⟩ = some (.int .i64 a3_0) := (blk_cell BK162.out 0).trans rfl
      have hcz83_1 : wc.cell? ⟨gb162, 1, none⟩ = some (.int .i64 a3_1) := (blk_cell BK162.out 1).trans rfl
      have hcz83_2 : wc.cell? ⟨gb162, 2, none⟩ = some (.bool a3_2) := (blk_cell BK162.out 2).trans rfl
      have hcz83_3 : wc.cell? ⟨gb162, 3, none⟩ = some (.bool a3_3) := (blk_cell BK162.out 3).trans rfl
      have hcz83_4 : wc.cell? ⟨gb162, 4, none⟩ = some (.int .i64 a3_4) := (blk_cell BK162.out 4).trans rfl
      have hfz83_0 := blk_frozen BK162.out 0
      have hfz83_1 := blk_frozen BK162.out 1
      have hfz83_2 := blk_frozen BK162.out 2
      have hfz83_3 := blk_frozen BK162.out 3
      have hfz83_4 := blk_frozen BK162.out 4
      go_wp2_with (first | ((with_reducible refine gate_callee (f := 29) rfl ?_); refine goesL_ (some 44) rfl rfl Try.func29 (by kernel_rfl) rfl #[.int .i64 a3_1] rfl (by (try simp only [List.map_toArray, List.map_cons, List.map_nil]); first | done | rfl | (simp only [List.length_drop, List.length_take]; rfl)) ?_; (with_reducible refine (modillionref07_Great.calls a3_1 false _ A73.out).mono ?_); rintro e w' ⟨rfl, ⟨nd, rfl⟩⟩; refine ⟨_, rfl, ?_⟩; (try clear A73)) | (go_at_call 29; (with_reducible refine (modillionref07_Great.calls a3_4 t166 _ A79.out).mono ?_); rintro e w' ⟨rfl, ⟨nd, rfl⟩⟩; (try clear A79)))
      go_meet
      case rel => exact ⟨_, (t166), (by first | rfl | (simp; done) | (simp [*]; done)), H', ⟨by have := HJ4.out; first | omega | exact Nat.le_refl _⟩, ⟨kA BK160.out⟩, ⟨kA BK161.out⟩, ⟨kA BK162.out⟩, ⟨kA BK163.out⟩, ⟨kB HB.out⟩⟩
    case rest =>
     clear HC72
     try clear c1
     try clear c2
     try clear p2
     try clear c3
     try clear c4
     try clear c5
     try clear c6
     try clear c7
     try clear c8
     try clear c11
     try clear c12
     try clear c12b0
     try clear c13
     try clear c14
     try clear c15
     try clear c17
     try clear c18
     try clear c21
     try clear c23
     try clear c23b0
     try clear c24
     try clear c25
     try clear c26
     try clear c28
     try clear c29
     try clear c32
     try clear c35
     try clear c35b0
     try clear c36
     try clear c37
     try clear c38
     try clear c40
     try clear c41
     try clear c44
     try clear c47
     try clear c48
     try clear c49
     try clear c51
     try clear c52
     try clear c55
     try clear c59
     try clear c60
     try clear c61
     try clear c63
     try clear c64
     try clear c67
     try clear c68
     try clear c69
     try clear c70
     try clear c74
     try clear c75
     try clear c76
     try clear c77
     try clear c80
     try clear c81
     try clear c82
     try clear hcz16_0
     try clear hcz16_1
     try clear hcz19_0
     try clear hcz19_1
     try clear hcz19_2
     try clear hcz22_0
     try clear hcz22_1
     try clear hcz22_2
     try clear hcz22_3
     try clear hcz22_4
     try clear hcz27_0
     try clear hcz27_1
     try clear hcz30_0
     try clear hcz30_1
     try clear hcz30_2
     try clear hcz33_0
     try clear hcz33_1
     try clear hcz33_2
     try clear hcz33_3
     try clear hcz33_4
     try clear hcz34_0
     try clear hcz34_1
     try clear hcz39_0
     try clear hcz39_1
     try clear hcz42_0
     try clear hcz42_1
     try clear hcz42_2
     try clear hcz45_0
     try clear hcz45_1
     try clear hcz45_2
     try clear hcz45_3
     try clear hcz45_4
     try clear hcz46_0
     try clear hcz46_1
     try clear hcz50_0
     try clear hcz50_1
     try clear hcz53_0
     try clear hcz53_1
     try clear hcz53_2
     try clear hcz56_0
     try clear hcz56_1
     try clear hcz56_2
     try clear hcz56_3
     try clear hcz56_4
     try clear hcz57_0
     try clear hcz57_1
     try clear hcz58_0
     try clear hcz58_1
     try clear hcz58_2
     try clear hcz62_0
     try clear hcz62_1
     try clear hcz65_0
     try clear hcz65_1
     try clear hcz65_2
     try clear hcz71_0
     try clear hcz71_1
     try clear hcz71_2
     try clear hcz71_3
     try clear hcz71_4
     try clear hcz78_0
     try clear hcz78_1
     try clear hcz78_2
     try clear hcz78_3
     try clear hcz78_4
     try clear hcz83_0
     try clear hcz83_1
     try clear hcz83_2
     try clear hcz83_3
     try clear hcz83_4
     try clear hfz16_0
     try clear hfz16_1
     try clear hfz19_0
     try clear hfz19_1
     try clear hfz19_2
     try clear hfz22_0
     try clear hfz22_1
     try clear hfz22_2
     try clear hfz22_3
     try clear hfz22_4
     try clear hfz27_0
     try clear hfz27_1
     try clear hfz30_0
     try clear hfz30_1
     try clear hfz30_2
     try clear hfz33_0
     try clear hfz33_1
     try clear hfz33_2
     try clear hfz33_3
     try clear hfz33_4
     try clear hfz34_0
     try clear hfz34_1
     try clear hfz39_0
     try clear hfz39_1
     try clear hfz42_0
     try clear hfz42_1
     try clear hfz42_2
     try clear hfz45_0
     try clear hfz45_1
     try clear hfz45_2
     try clear hfz45_3
     try clear hfz45_4
     try clear hfz46_0
     try clear hfz46_1
     try clear hfz50_0
     try clear hfz50_1
     try clear hfz53_0
     try clear hfz53_1
     try clear hfz53_2
     try clear hfz56_0
     try clear hfz56_1
     try clear hfz56_2
     try clear hfz56_3
     try clear hfz56_4
     try clear hfz57_0
     try clear hfz57_1
     try clear hfz58_0
     try clear hfz58_1
     try clear hfz58_2
     try clear hfz62_0
     try clear hfz62_1
     try clear hfz65_0
     try clear hfz65_1
     try clear hfz65_2
     try clear hfz71_0
     try clear hfz71_1
     try clear hfz71_2
     try clear hfz71_3
     try clear hfz71_4
     try clear hfz78_0
     try clear hfz78_1
     try clear hfz78_2
     try clear hfz78_3
     try clear hfz78_4
     try clear hfz83_0
     try clear hfz83_1
     try clear hfz83_2
     try clear hfz83_3
     try clear hfz83_4
     try clear p2
     obtain ⟨kq, x49_71, rfl, HA, HJ71, BK160, BK161, BK162, BK163, HB⟩ := hcut
     cases kq with
     | zero => exact absurd HA.out (by simp [modillionref07_Step.j1])
     | succ kj71 =>
      have H := HA.out
      clear HA
      simp only [modillionref07_Step.j1] at H
      by_cases c84 : x49_71 = true
      ·subst c84
       have H1 : (some (0, 0, false, false, 0, ([] : List (S48)), 71)) = some (r1, r2, r3, r4, r5, r6, r7) := by rw [if_pos rfl] at H; exact H
       clear H
       have H := H1
       clear H1
       simp only [Option.some.injEq, Prod.mk.injEq] at H
       obtain ⟨rfl, rfl, rfl, rfl, rfl, rfl, rfl⟩ := H
       have hnb85 := NB163_160.out
       have hnc85 := NB160_163.out
       have hnb86 := NB163_161.out
       have hnc86 := NB161_163.out
       have hnb87 := NB163_162.out
       have hnc87 := NB162_163.out
       have hcz88_0 : wc.cell? ⟨gb163, 0, none⟩ = some (.int .i64 0) := (blk_cell BK163.out 0).trans rfl
       have hcz88_1 : wc.cell? ⟨gb163, 1, none⟩ = some (.int .i64 0) := (blk_cell BK163.out 1).trans rfl
       have hcz88_2 : wc.cell? ⟨gb163, 2, none⟩ = some (.bool false) := (blk_cell BK163.out 2).trans rfl
       have hcz88_3 : wc.cell? ⟨gb163, 3, none⟩ = some (.bool false) := (blk_cell BK163.out 3).trans rfl
       have hcz88_4 : wc.cell? ⟨gb163, 4, none⟩ = some (.int .i64 0) := (blk_cell BK163.out 4).trans rfl
       have hfz88_0 := blk_frozen BK163.out 0
       have hfz88_1 := blk_frozen BK163.out 1
       have hfz88_2 := blk_frozen BK163.out 2
       have hfz88_3 := blk_frozen BK163.out 3
       have hfz88_4 := blk_frozen BK163.out 4
       go_wp2
       refine bodyPost_ret (results_ctt rfl _ _ gb163 28 #[.int .i64 0, .int .i64 0, .bool false, .bool false, .int .i64 0] (0, 0) _ rfl (by (with_reducible repeat (first | refine blk_drewN ?_ _ | refine blk_drew ?_ | refine blk_alloc ?_ _)); refine blk_put (cs := #[.int .i64 0, .int .i64 0, .bool false, .bool false, .int .i64 0]) ?_ 4 _ rfl; refine blk_put (cs := #[.int .i64 0, .int .i64 0, .bool false, .bool false, .int .i64 0]) ?_ 3 _ rfl; refine blk_put (cs := #[.int .i64 0, .int .i64 0, .bool false, .bool false, .int .i64 0]) ?_ 2 _ rfl; refine blk_put (cs := #[.int .i64 0, .int .i64 0, .bool false, .bool false, .int .i64 0]) ?_ 1 _ rfl; refine blk_put (cs := #[.int .i64 0, .int .i64 0, .bool false, .bool false, .int .i64 0]) ?_ 0 _ rfl; exact kA BK163.out) Try.underlying28 rfl (by kernel_rfl)) rfl ?_
       exact ⟨_, by first | rfl | (simp [errW_none, errW_some] <;> rfl) | (simp [*, errW_none, errW_some] <;> rfl), by first | exact Kd.R_nil _ _ _ _ _ | exact Kd.N_nil _ _ _ _ _ | exact Kd.V_nil _ _ _ _ _ | exact Kd.Q_nil _ _ _ _ _ | exact Kd.S_nil _ _ _ _ _, by exact kB HB.out⟩
      ·replace c84 := Bool.eq_false_iff.mpr c84
       subst c84
       have H1 : (if a3_2 = true then (modillionref07_Step.j2 kj71 a2 false a0_0 l0_1 a1_0 a1_1 a1_2 a3_0 a3_1 a3_2 a3_3 a3_4) else (modillionref07_Step.j2 kj71 a2 (!a3_3) a0_0 l0_1 a1_0 a1_1 a1_2 a3_0 a3_1 a3_2 a3_3 a3_4)) = some (r1, r2, r3, r4, r5, r6, r7) := by rw [if_neg (show ¬ (false = true) by decide)] at H; exact H
       clear H
       have H := H1
       clear H1
       have HC89 := Aside0.mk H
       clear H
       go_upto_region 5 with (fail)
       go_cut [58] (fun v58 wc => ∃ (kq : Nat) (x58_88 : Bool), v58 = .bool x58_88 ∧ Aside0 (modillionref07_Step.j2 kq a2 x58_88 a0_0 l0_1 a1_0 a1_1 a1_2 a3_0 a3_1 a3_2 a3_3 a3_4 = some (r1, r2, r3, r4, r5, r6, r7)) ∧ Aside0 (kq ≤ kj71) ∧ Aside0 (wc.heap[gb160]? = some (.cells #[.int .i64 a0_0, (.slice A0_1 l0_1.length c0_1)] 24 (0, 0))) ∧ Aside0 (wc.heap[gb161]? = some (.cells #[.string a1_0, .int .i64 a1_1, .int .i64 a1_2] 26 (0, 0))) ∧ Aside0 (wc.heap[gb162]? = some (.cells #[.int .i64 a3_0, .int .i64 a3_1, .bool a3_2, .bool a3_3, .int .i64 a3_4] 28 (0, 0))) ∧ Aside0 (wc.heap[gb163]? = some (.cells #[.int .i64 0, .int .i64 0, .bool false, .bool false, .int .i64 0] 28 (0, 0))) ∧ Aside0 (Below w.heap.size w wc))
       case first =>
        have H := HC89.out
        clear HC89
        by_cases c90 : a3_2 = true
        ·subst c90
         have H1 : (modillionref07_Step.j2 kj71 a2 false a0_0 l0_1 a1_0 a1_1 a1_2 a3_0 a3_1 true a3_3 a3_4) = some (r1, r2, r3, r4, r5, r6, r7) := by rw [if_pos rfl] at H; exact H
         clear H
         have H := H1
         clear H1
         have H' := Aside0.mk H
         clear H
         have hnb91 := NB162_160.out
         have hnc91 := NB160_162.out
         have hnb92 := NB162_161.out
         have hnc92 := NB161_162.out
         have hnb93 := NB162_163.out
         have hnc93 := NB163_162.out
         have hcz94_0 : wc.cell? ⟨gb162, 0, none⟩ = some (.int .i64 a3_0) := (blk_cell BK162.out 0).trans rfl
         have hcz94_1 : wc.cell? ⟨gb162, 1, none⟩ = some (.int .i64 a3_1) := (blk_cell BK162.out 1).trans rfl
         have hcz94_2 : wc.cell? ⟨gb162, 2, none⟩ = some (.bool true) := (blk_cell BK162.out 2).trans rfl
         have hcz94_3 : wc.cell? ⟨gb162, 3, none⟩ = some (.bool a3_3) := (blk_cell BK162.out 3).trans rfl
         have hcz94_4 : wc.cell? ⟨gb162, 4, none⟩ = some (.int .i64 a3_4) := (blk_cell BK162.out 4).trans rfl
         have hfz94_0 := blk_frozen BK162.out 0
         have hfz94_1 := blk_frozen BK162.out 1
         have hfz94_2 := blk_frozen BK162.out 2
         have hfz94_3 := blk_frozen BK162.out 3
         have hfz94_4 := blk_frozen BK162.out 4
         go_wp2
         go_meet
         case rel => exact ⟨_, (false), (by first | rfl | (simp; done) | (simp [*]; done)), H', ⟨by have := HJ4.out; have := HJ71.out; first | omega | exact Nat.le_refl _⟩, ⟨kA BK160.out⟩, ⟨kA BK161.out⟩, ⟨kA BK162.out⟩, ⟨kA BK163.out⟩, ⟨kB HB.out⟩⟩
        ·replace c90 := Bool.eq_false_iff.mpr c90
         subst c90
         have H1 : (modillionref07_Step.j2 kj71 a2 (!a3_3) a0_0 l0_1 a1_0 a1_1 a1_2 a3_0 a3_1 false a3_3 a3_4) = some (r1, r2, r3, r4, r5, r6, r7) := by rw [if_neg (show ¬ (false = true) by decide)] at H; exact H
         clear H
         have H := H1
         clear H1
         have H' := Aside0.mk H
         clear H
         have hnb95 := NB162_160.out
         have hnc95 := NB160_162.out
         have hnb96 := NB162_161.out
         have hnc96 := NB161_162.out
         have hnb97 := NB162_163.out
         have hnc97 := NB163_162.out
         have hcz98_0 : wc.cell? ⟨gb162, 0, none⟩ = some (.int .i64 a3_0) := (blk_cell BK162.out 0).trans rfl
         have hcz98_1 : wc.cell? ⟨gb162, 1, none⟩ = some (.int .i64 a3_1) := (blk_cell BK162.out 1).trans rfl
         have hcz98_2 : wc.cell? ⟨gb162, 2, none⟩ = some (.bool false) := (blk_cell BK162.out 2).trans rfl
         have hcz98_3 : wc.cell? ⟨gb162, 3, none⟩ = some (.bool a3_3) := (blk_cell BK162.out 3).trans rfl
         have hcz98_4 : wc.cell? ⟨gb162, 4, none⟩ = some (.int .i64 a3_4) := (blk_cell BK162.out 4).trans rfl
         have hfz98_0 := blk_frozen BK162.out 0
         have hfz98_1 := blk_frozen BK162.out 1
         have hfz98_2 := blk_frozen BK162.out 2
         have hfz98_3 := blk_frozen BK162.out 3
         have hfz98_4 := blk_frozen BK162.out 4
         go_wp2
         go_meet
         case rel => exact ⟨_, (!a3_3), (by first | rfl | (simp; done) | (simp [*]; done)), H', ⟨by have := HJ4.out; have := HJ71.out; first | omega | exact Nat.le_refl _⟩, ⟨kA BK160.out⟩, ⟨kA BK161.out⟩, ⟨kA BK162.out⟩, ⟨kA BK163.out⟩, ⟨kB HB.out⟩⟩
       case rest =>
        clear HC89
        try clear c1
        try clear c2
        try clear p2
        try clear c3
        try clear c4
        try clear c5
        try clear c6
        try clear c7
        try clear c8
        try clear c9
        try clear c11
        try clear c12
        try clear c12b0
        try clear c13
        try clear c14
        try clear c15
        try clear c17
        try clear c18
        try clear c21
        try clear c23
        try clear c23b0
        try clear c24
        try clear c25
        try clear c26
        try clear c28
        try clear c29
        try clear c32
        try clear c35
        try clear c35b0
        try clear c36
        try clear c37
        try clear c38
        try clear c40
        try clear c41
        try clear c44
        try clear c47
        try clear c48
        try clear c49
        try clear c51
        try clear c52
        try clear c55
        try clear c59
        try clear c60
        try clear c61
        try clear c63
        try clear c64
        try clear c67
        try clear c68
        try clear c69
        try clear c70
        try clear c74
        try clear c75
        try clear c76
        try clear c77
        try clear c80
        try clear c81
        try clear c82
        try clear c84
        try clear c85
        try clear c86
        try clear c87
        try clear c90
        try clear c91
        try clear c92
        try clear c93
        try clear c95
        try clear c96
        try clear c97
        try clear hcz16_0
        try clear hcz16_1
        try clear hcz19_0
        try clear hcz19_1
        try clear hcz19_2
        try clear hcz22_0
        try clear hcz22_1
        try clear hcz22_2
        try clear hcz22_3
        try clear hcz22_4
        try clear hcz27_0
        try clear hcz27_1
        try clear hcz30_0
        try clear hcz30_1
        try clear hcz30_2
        try clear hcz33_0
        try clear hcz33_1
        try clear hcz33_2
        try clear hcz33_3
        try clear hcz33_4
        try clear hcz34_0
        try clear hcz34_1
        try clear hcz39_0
        try clear hcz39_1
        try clear hcz42_0
        try clear hcz42_1
        try clear hcz42_2
        try clear hcz45_0
        try clear hcz45_1
        try clear hcz45_2
        try clear hcz45_3
        try clear hcz45_4
        try clear hcz46_0
        try clear hcz46_1
        try clear hcz50_0
        try clear hcz50_1
        try clear hcz53_0
        try clear hcz53_1
        try clear hcz53_2
        try clear hcz56_0
        try clear hcz56_1
        try clear hcz56_2
        try clear hcz56_3
        try clear hcz56_4
        try clear hcz57_0
        try clear hcz57_1
        try clear hcz58_0
        try clear hcz58_1
        try clear hcz58_2
        try clear hcz62_0
        try clear hcz62_1
        try clear hcz65_0
        try clear hcz65_1
        try clear hcz65_2
        try clear hcz71_0
        try clear hcz71_1
        try clear hcz71_2
        try clear hcz71_3
        try clear hcz71_4
        try clear hcz78_0
        try clear hcz78_1
        try clear hcz78_2
        try clear hcz78_3
        try clear hcz78_4
        try clear hcz83_0
        try clear hcz83_1
        try clear hcz83_2
        try clear hcz83_3
        try clear hcz83_4
        try clear hcz88_0
        try clear hcz88_1
        try clear hcz88_2
        try clear hcz88_3
        try clear hcz88_4
        try clear hcz94_0
        try clear hcz94_1
        try clear hcz94_2
        try clear hcz94_3
        try clear hcz94_4
        try clear hcz98_0
        try clear hcz98_1
        try clear hcz98_2
        try clear hcz98_3
        try clear hcz98_4
        try clear hfz16_0
        try clear hfz16_1
        try clear hfz19_0
        try clear hfz19_1
        try clear hfz19_2
        try clear hfz22_0
        try clear hfz22_1
        try clear hfz22_2
        try clear hfz22_3
        try clear hfz22_4
        try clear hfz27_0
        try clear hfz27_1
        try clear hfz30_0
        try clear hfz30_1
        try clear hfz30_2
        try clear hfz33_0
        try clear hfz33_1
        try clear hfz33_2
        try clear hfz33_3
        try clear hfz33_4
        try clear hfz34_0
        try clear hfz34_1
        try clear hfz39_0
        try clear hfz39_1
        try clear hfz42_0
        try clear hfz42_1
        try clear hfz42_2
        try clear hfz45_0
        try clear hfz45_1
        try clear hfz45_2
        try clear hfz45_3
        try clear hfz45_4
        try clear hfz46_0
        try clear hfz46_1
        try clear hfz50_0
        try clear hfz50_1
        try clear hfz53_0
        try clear hfz53_1
        try clear hfz53_2
        try clear hfz56_0
        try clear hfz56_1
        try clear hfz56_2
        try clear hfz56_3
        try clear hfz56_4
        try clear hfz57_0
        try clear hfz57_1
        try clear hfz58_0
        try clear hfz58_1
        try clear hfz58_2
        try clear hfz62_0
        try clear hfz62_1
        try clear hfz65_0
        try clear hfz65_1
        try clear hfz65_2
        try clear hfz71_0
        try clear hfz71_1
        try clear hfz71_2
        try clear hfz71_3
        try clear hfz71_4
        try clear hfz78_0
        try clear hfz78_1
        try clear hfz78_2
        try clear hfz78_3
        try clear hfz78_4
        try clear hfz83_0
        try clear hfz83_1
        try clear hfz83_2
        try clear hfz83_3
        try clear hfz83_4
        try clear hfz88_0
        try clear hfz88_1
        try clear hfz88_2
        try clear hfz88_3
        try clear hfz88_4
        try clear hfz94_0
        try clear hfz94_1
        try clear hfz94_2
        try clear hfz94_3
        try clear hfz94_4
        try clear hfz98_0
        try clear hfz98_1
        try clear hfz98_2
        try clear hfz98_3
        try clear hfz98_4
        try clear p2
        obtain ⟨kq, x58_88, rfl, HA, HJ88, BK160, BK161, BK162, BK163, HB⟩ := hcut
        cases kq with
        | zero => exact absurd HA.out (by simp [modillionref07_Step.j2])
        | succ kj88 =>
         have H := HA.out
         clear HA
         simp only [modillionref07_Step.j2] at H
         by_cases c99 : x58_88 = true
         ·subst c99
          have H1 : (some (a3_0, a3_1, a3_2, a3_3, a3_4, ([] : List (S48)), 0)) = some (r1, r2, r3, r4, r5, r6, r7) := by rw [if_pos rfl] at H; exact H
          clear H
          have H := H1
          clear H1
          simp only [Option.some.injEq, Prod.mk.injEq] at H
          obtain ⟨rfl, rfl, rfl, rfl, rfl, rfl, rfl⟩ := H
          have hnb100 := NB162_160.out
          have hnc100 := NB160_162.out
          have hnb101 := NB162_161.out
          have hnc101 := NB161_162.out
          have hnb102 := NB162_163.out
          have hnc102 := NB163_162.out
          have hcz103_0 : wc.cell? ⟨gb162, 0, none⟩ = some (.int .i64 a3_0) := (blk_cell BK162.out 0).trans rfl
          have hcz103_1 : wc.cell? ⟨gb162, 1, none⟩ = some (.int .i64 a3_1) := (blk_cell BK162.out 1).trans rfl
          have hcz103_2 : wc.cell? ⟨gb162, 2, none⟩ = some (.bool a3_2) := (blk_cell BK162.out 2).trans rfl
          have hcz103_3 : wc.cell? ⟨gb162, 3, none⟩ = some (.bool a3_3) := (blk_cell BK162.out 3).trans rfl
          have hcz103_4 : wc.cell? ⟨gb162, 4, none⟩ = some (.int .i64 a3_4) := (blk_cell BK162.out 4).trans rfl
          have hfz103_0 := blk_frozen BK162.out 0
          have hfz103_1 := blk_frozen BK162.out 1
          have hfz103_2 := blk_frozen BK162.out 2
          have hfz103_3 := blk_frozen BK162.out 3
          have hfz103_4 := blk_frozen BK162.out 4
          have hnb104 := NB163_160.out
          have hnc104 := NB160_163.out
          have hnb105 := NB163_161.out
          have hnc105 := NB161_163.out
          have hcz106_0 : wc.cell? ⟨gb163, 0, none⟩ = some (.int .i64 0) := (blk_cell BK163.out 0).trans rfl
          have hcz106_1 : wc.cell? ⟨gb163, 1, none⟩ = some (.int .i64 0) := (blk_cell BK163.out 1).trans rfl
          have hcz106_2 : wc.cell? ⟨gb163, 2, none⟩ = some (.bool false) := (blk_cell BK163.out 2).trans rfl
          have hcz106_3 : wc.cell? ⟨gb163, 3, none⟩ = some (.bool false) := (blk_cell BK163.out 3).trans rfl
          have hcz106_4 : wc.cell? ⟨gb163, 4, none⟩ = some (.int .i64 0) := (blk_cell BK163.out 4).trans rfl
          have hfz106_0 := blk_frozen BK163.out 0
          have hfz106_1 := blk_frozen BK163.out 1
          have hfz106_2 := blk_frozen BK163.out 2
          have hfz106_3 := blk_frozen BK163.out 3
          have hfz106_4 := blk_frozen BK163.out 4
          go_wp2
          refine bodyPost_ret (results_ctt rfl _ _ gb163 28 #[.int .i64 a3_0, .int .i64 a3_1, .bool a3_2, .bool a3_3, .int .i64 a3_4] (0, 0) _ rfl (by (with_reducible repeat (first | refine blk_drewN ?_ _ | refine blk_drew ?_ | refine blk_alloc ?_ _)); refine blk_put (cs := #[.int .i64 a3_0, .int .i64 a3_1, .bool a3_2, .bool a3_3, .int .i64 0]) ?_ 4 _ rfl; refine blk_put (cs := #[.int .i64 a3_0, .int .i64 a3_1, .bool a3_2, .bool false, .int .i64 0]) ?_ 3 _ rfl; refine blk_put (cs := #[.int .i64 a3_0, .int .i64 a3_1, .bool false, .bool false, .int .i64 0]) ?_ 2 _ rfl; refine blk_put (cs := #[.int .i64 a3_0, .int .i64 0, .bool false, .bool false, .int .i64 0]) ?_ 1 _ rfl; refine blk_put (cs := #[.int .i64 0, .int .i64 0, .bool false, .bool false, .int .i64 0]) ?_ 0 _ rfl; exact kA BK163.out) Try.underlying28 rfl (by kernel_rfl)) rfl ?_
          exact ⟨_, by first | rfl | (simp [errW_none, errW_some] <;> rfl) | (simp [*, errW_none, errW_some] <;> rfl), by first | exact Kd.R_nil _ _ _ _ _ | exact Kd.N_nil _ _ _ _ _ | exact Kd.V_nil _ _ _ _ _ | exact Kd.Q_nil _ _ _ _ _ | exact Kd.S_nil _ _ _ _ _, by exact kB HB.out⟩
         ·replace c99 := Bool.eq_false_iff.mpr c99
          subst c99
          have H1 : ((modillionref05_Out.f kj88 a0_0 l0_1 a3_0).bind fun t167 => ((modillionref07_plain.f a1_0 a1_1 a1_2 a2 a3_0 a3_1 a3_2 a3_3 a3_4 t167).bind fun bt170 => ((modillionref07_Great.f bt170.2.1).bind fun t179 => (modillionref07_Step.l0 kj88 bt170.2.2.2.2.2 t179 0 bt170.1 bt170.2.1 bt170.2.2.1 bt170.2.2.2.1 bt170.2.2.2.2.1)))) = some (r1, r2, r3, r4, r5, r6, r7) := by rw [if_neg (show ¬ (false = true) by decide)] at H; exact H
          clear H
          have H := H1
          clear H1
          replace H := Option.bind_eq_some_iff.mp H
          obtain ⟨t167, A1070, H⟩ := H
          replace H : ((modillionref07_plain.f a1_0 a1_1 a1_2 a2 a3_0 a3_1 a3_2 a3_3 a3_4 t167).bind fun bt170 => ((modillionref07_Great.f bt170.2.1).bind fun t179 => (modillionref07_Step.l0 kj88 bt170.2.2.2.2.2 t179 0 bt170.1 bt170.2.1 bt170.2.2.1 bt170.2.2.2.1 bt170.2.2.2.2.1))) = some (r1, r2, r3, r4, r5, r6, r7) := H
          have A107 := Aside0.mk A1070
          clear A1070
          replace H := Option.bind_eq_some_iff.mp H
          obtain ⟨⟨t170, t171, t172, t173, t174, t175⟩, A1080, H⟩ := H
          replace H : ((modillionref07_Great.f t171).bind fun t179 => (modillionref07_Step.l0 kj88 t175 t179 0 t170 t171 t172 t173 t174)) = some (r1, r2, r3, r4, r5, r6, r7) := H
          have A108 := Aside0.mk A1080
          clear A1080
          replace H := Option.bind_eq_some_iff.mp H
          obtain ⟨t179, A1090, H⟩ := H
          replace H : (modillionref07_Step.l0 kj88 t175 t179 0 t170 t171 t172 t173 t174) = some (r1, r2, r3, r4, r5, r6, r7) := H
          have A109 := Aside0.mk A1090
          clear A1090
          have H' := Aside0.mk H
          clear H
          try go_wp2
          have n0_ := Aside0.mk (blk_drew BK160.out)
          have n1_ := Aside0.mk (blk_drew BK161.out)
          have n2_ := Aside0.mk (blk_drew BK162.out)
          have n3_ := Aside0.mk (blk_drew BK163.out)
          have n4_ := Aside0.mk (below_drew1 HB.out)
          clear BK160
          clear BK161
          clear BK162
          clear BK163
          clear HB
          have BK160 := n0_
          have BK161 := n1_
          have BK162 := n2_
          have BK163 := n3_
          have HB := n4_
          clear n0_ n1_ n2_ n3_ n4_
          refine start_ (n := 14) (S := fun w' => w'.cell? ⟨gb161, 0, none⟩ = some (.string a1_0) ∧ w'.cell? ⟨gb161, 1, none⟩ = some (.int .i64 a1_1) ∧ w'.cell? ⟨gb161, 2, none⟩ = some (.int .i64 a1_2) ∧ w'.cell? ⟨gb162, 0, none⟩ = some (.int .i64 a3_0) ∧ w'.cell? ⟨gb162, 1, none⟩ = some (.int .i64 a3_1) ∧ w'.cell? ⟨gb162, 2, none⟩ = some (.bool a3_2) ∧ w'.cell? ⟨gb162, 3, none⟩ = some (.bool a3_3) ∧ w'.cell? ⟨gb162, 4, none⟩ = some (.int .i64 a3_4) ∧ w'.cell? ⟨gb160, 0, none⟩ = some (.int .i64 a0_0) ∧ w'.cell? ⟨gb160, 1, none⟩ = some (.slice A0_1 l0_1.length c0_1)) (ds := []) #[Z,Z,Z,Z,Z,Z,Z,Z,Z,Z,Z,Z,Z,Z] (by kernel_rfl) rfl rfl ⟨(blk_cell BK161.out 0).trans rfl, (blk_cell BK161.out 1).trans rfl, (blk_cell BK161.out 2).trans rfl, (blk_cell BK162.out 0).trans rfl, (blk_cell BK162.out 1).trans rfl, (blk_cell BK162.out 2).trans rfl, (blk_cell BK162.out 3).trans rfl, (blk_cell BK162.out 4).trans rfl, (blk_cell BK160.out 0).trans rfl, (blk_cell BK160.out 1).trans rfl⟩ (fun hHeld => ?_); refine with_tabW modillionref07_Step.tab7 modillionref07_Step.bits7 (fun HT_ HW_ => ?_)
          generalize wc.drew = w110 at BK160 BK161 BK162 BK163 HB hHeld ⊢
          refine pure_ (i := 1) (N := some 62) (v := ?_) (a' := ?_) #[Z,Y,Z,Z,Z,Z,Z,Z,Z,Z,Z,Z,Z,Z] rfl rfl (any_of HT_.out (by kernel_rfl)) (fun _ _ _ h => h) (Or.inl ⟨by rfl, ?_⟩) ?_ ?_
          rotate_left
          ·intro w';go_simp;with_reducible rfl
          rotate_left
          ·simp only [Act.put, q1_, q2_, q3_, i64_w, i32_w];rfl
          refine pure_ (i := 4) (N := some 65) (v := ?_) (a' := ?_) #[Z,Y,Z,Z,Y,Z,Z,Z,Z,Z,Z,Z,Z,Z] rfl rfl (any_of HT_.out (by kernel_rfl)) (fun _ _ _ h => h) (Or.inl ⟨by rfl, ?_⟩) ?_ ?_
          rotate_left
          ·intro w';go_simp;with_reducible rfl
          rotate_left
          ·simp only [Act.put, q1_, q2_, q3_, i64_w, i32_w];rfl
          refine take_ (i := 0) (N := some 61) (v := ?_) (a' := ?_) #[Y,Y,Z,Z,Y,Z,Z,Z,Z,Z,Z,Z,Z,Z] rfl rfl (take_ofW HT_.out HW_.out (by kernel_rfl)) (fun _ _ _ h => h) (Or.inl ⟨by rfl, ?_⟩) hHeld ?_ ?_
          rotate_left
          ·rintro w' ⟨s0, s1, s2, s3, s4, s5, s6, s7, s8, s9⟩;go_simp;with_reducible rfl
          rotate_left
          ·simp only [Act.put, q1_, q2_, q3_, i64_w, i32_w];rfl
          refine take_ (i := 2) (N := some 63) (v := ?_) (a' := ?_) #[Y,Y,Y,Z,Y,Z,Z,Z,Z,Z,Z,Z,Z,Z] rfl rfl (take_ofW HT_.out HW_.out (by kernel_rfl)) (fun _ _ _ h => h) (Or.inl ⟨by rfl, ?_⟩) hHeld ?_ ?_
          rotate_left
          ·rintro w' ⟨s0, s1, s2, s3, s4, s5, s6, s7, s8, s9⟩;go_simp;with_reducible rfl
          rotate_left
          ·simp only [Act.put, q1_, q2_, q3_, i64_w, i32_w];rfl
          refine take_ (i := 3) (N := some 64) (v := ?_) (a' := ?_) #[Y,Y,Y,Y,Y,Z,Z,Z,Z,Z,Z,Z,Z,Z] rfl rfl (take_ofW HT_.out HW_.out (by kernel_rfl)) (fun _ _ _ h => h) (Or.inl ⟨by rfl, ?_⟩) hHeld ?_ ?_
          rotate_left
          ·rintro w' ⟨s0, s1, s2, s3, s4, s5, s6, s7, s8, s9⟩;go_simp;with_reducible rfl
          rotate_left
          ·simp only [Act.put, q1_, q2_, q3_, i64_w, i32_w];rfl
          refine take_ (i := 5) (N := some 66) (v := ?_) (a' := ?_) #[Y,Y,Y,Y,Y,Y,Z,Z,Z,Z,Z,Z,Z,Z] rfl rfl (take_ofW HT_.out HW_.out (by kernel_rfl)) (fun _ _ _ h => h) (Or.inl ⟨by rfl, ?_⟩) hHeld ?_ ?_
          rotate_left
          ·rintro w' ⟨s0, s1, s2, s3, s4, s5, s6, s7, s8, s9⟩;go_simp;with_reducible rfl
          rotate_left
          ·simp only [Act.put, q1_, q2_, q3_, i64_w, i32_w];rfl
          refine join_ (σ := Value × Value × Nat) 2 #[Y,Y,Y,Y,Y,Y,Y,Y,Y,Y,Y,Y,Z,Z] (fun s_ => [(67, s_.1), (68, .tuple #[.agg #[.int .i64 t170, .int .i64 t171, .bool t172, .bool t173, .int .i64 t174], s_.2.1]), (11, .pointer (some ⟨s_.2.2, 0, none⟩)), (60, .tuple #[.agg #[.int .i64 t170, .int .i64 t171, .bool t172, .bool t173, .int .i64 t174], s_.2.1]), (69, .agg #[.int .i64 t170, .int .i64 t171, .bool t172, .bool t173, .int .i64 t174]), (70, s_.2.1)]) (fun s_ w' => (w'.cell? ⟨gb161, 0, none⟩ = some (.string a1_0) ∧ w'.cell? ⟨gb161, 1, none⟩ = some (.int .i64 a1_1) ∧ w'.cell? ⟨gb161, 2, none⟩ = some (.int .i64 a1_2) ∧ w'.cell? ⟨gb162, 0, none⟩ = some (.int .i64 a3_0) ∧ w'.cell? ⟨gb162, 1, none⟩ = some (.int .i64 a3_1) ∧ w'.cell? ⟨gb162, 2, none⟩ = some (.bool a3_2) ∧ w'.cell? ⟨gb162, 3, none⟩ = some (.bool a3_3) ∧ w'.cell? ⟨gb162, 4, none⟩ = some (.int .i64 a3_4) ∧ w'.cell? ⟨gb160, 0, none⟩ = some (.int .i64 a0_0) ∧ w'.cell? ⟨gb160, 1, none⟩ = some (.slice A0_1 l0_1.length c0_1)) ∧ (Kd.R k46 46 w' w.heap.size (fun _ => True) s_.1 t167) ∧ (Kd.R k48 48 w' w.heap.size (fun _ => True) s_.2.1 t175) ∧ (w'.heap[gb160]? = some (.cells #[.int .i64 a0_0, .slice A0_1 l0_1.length c0_1] 24 (0, 0))) ∧ (w'.heap[gb161]? = some (.cells #[.string a1_0, .int .i64 a1_1, .int .i64 a1_2] 26 (0, 0))) ∧ (w'.heap[gb162]? = some (.cells #[.int .i64 a3_0, .int .i64 a3_1, .bool a3_2, .bool a3_3, .int .i64 a3_4] 28 (0, 0))) ∧ (w'.heap[gb163]? = some (.cells #[.int .i64 0, .int .i64 0, .bool false, .bool false, .int .i64 0] 28 (0, 0))) ∧ (w'.heap[s_.2.2]? = some (.cells #[.int .i64 0, .int .i64 0, .bool false, .bool false, .int .i64 0] 28 (0, 0))) ∧ (w.heap.size ≤ s_.2.2) ∧ (w.heap.size ≤ s_.2.2) ∧ (gb160 ≠ s_.2.2) ∧ (s_.2.2 ≠ gb160) ∧ (gb161 ≠ s_.2.2) ∧ (s_.2.2 ≠ gb161) ∧ (gb162 ≠ s_.2.2) ∧ (s_.2.2 ≠ gb162) ∧ (gb163 ≠ s_.2.2) ∧ (s_.2.2 ≠ gb163) ∧ (Below w.heap.size w w')) ?_ ?_
          rotate_left
          ·intro hCont
           refine two_ (i := 6) (j := 11) (Ni := some 67) (Nj := some 11) #[Y,Y,Y,Y,Y,Y,Y,Z,Z,Z,Z,Z,Z,Z] #[Y,Y,Y,Y,Y,Y,Z,Z,Z,Z,Z,Y,Z,Z] rfl rfl rfl rfl (two_of HT_.out (by kernel_rfl)) (by decide) (by decide) (fun K hK => ?_) (fun K hK => ?_)
           ·skip
            refine goes_ Try.func31 (by kernel_rfl) rfl #[.agg #[.int .i64 a0_0, .slice A0_1 l0_1.length c0_1], .int .i64 a3_0] (by rfl) rfl rfl (by (try simp only [List.map_toArray, List.map_cons, List.map_nil]); first | done | rfl | (simp only [List.length_drop, List.length_take]; rfl)) ?_
            with_reducible refine (modillionref05_Out.calls kj88 a0_0 _ _ l0_1 a3_0 t167 _ ?side1 ?side2 A107.out).mono ?_
            (case side1 => repeat (first | exact (Kd.C_below HR0_1.out HB.out) | (with_reducible refine Kd.C_alloc ?_ _) | (with_reducible refine Kd.C_drewN ?_ _) | (with_reducible refine Kd.C_drew ?_)))
            (case side2 => exact HC0_1.out)
            rintro e w111 ⟨v168, rfl, ho0, hb⟩
            refine ⟨_, rfl, ?_⟩
            have n0_ := Aside0.mk (Kd.R_lower ho0 (below_size (kB HB.out)))
            have n1_ := Aside0.mk (blk_below (g := gb160) (o := .cells #[.int .i64 a0_0, .slice A0_1 l0_1.length c0_1] 24 (0, 0)) (kA BK160.out) hb)
            have n2_ := Aside0.mk (blk_below (g := gb161) (o := .cells #[.string a1_0, .int .i64 a1_1, .int .i64 a1_2] 26 (0, 0)) (kA BK161.out) hb)
            have n3_ := Aside0.mk (blk_below (g := gb162) (o := .cells #[.int .i64 a3_0, .int .i64 a3_1, .bool a3_2, .bool a3_3, .int .i64 a3_4] 28 (0, 0)) (kA BK162.out) hb)
            have n4_ := Aside0.mk (blk_below (g := gb163) (o := .cells #[.int .i64 0, .int .i64 0, .bool false, .bool false, .int .i64 0] 28 (0, 0)) (kA BK163.out) hb)
            have n5_ := Aside0.mk (below_step (kB HB.out) hb)
            clear BK160
            clear BK161
            clear BK162
            clear BK163
            clear HB
            have HO169 := n0_
            have BK160 := n1_
            have BK161 := n2_
            have BK162 := n3_
            have BK163 := n4_
            have HB := n5_
            clear n0_ n1_ n2_ n3_ n4_ n5_
            (try clear hb)
            (try clear hb2)
            (try clear hk)
            (try clear hi)
            (try clear ho0)
            obtain ⟨Ao112, co112, eo112⟩ := Kd.R_slice HO169.out
            (first | subst eo112 | (injection eo112 with f1_ f2_ f3_; have f4_ := f1_.symm; have f5_ := f3_.symm; clear f1_ f2_ f3_; subst f4_; subst f5_))
            refine hK.out _ _ ⟨(blk_cell BK161.out 0).trans rfl, (blk_cell BK161.out 1).trans rfl, (blk_cell BK161.out 2).trans rfl, (blk_cell BK162.out 0).trans rfl, (blk_cell BK162.out 1).trans rfl, (blk_cell BK162.out 2).trans rfl, (blk_cell BK162.out 3).trans rfl, (blk_cell BK162.out 4).trans rfl, (blk_cell BK160.out 0).trans rfl, (blk_cell BK160.out 1).trans rfl⟩ (fun hHeld => ?_)
            clear hK K
            refine norm_ (a' := ?_) ?_ ?_
            rotate_left
            ·show Act.put _ (some 67) _ = _
             simp only [Act.put, q1_, q2_, q3_, i64_w, i32_w]
             rfl
            refine two_ (i := 7) (j := 11) (Ni := some 68) (Nj := some 11) #[Y,Y,Y,Y,Y,Y,Y,Y,Z,Z,Z,Z,Z,Z] #[Y,Y,Y,Y,Y,Y,Y,Z,Z,Z,Z,Y,Z,Z] rfl rfl rfl rfl (two_of HT_.out (by kernel_rfl)) (by decide) (by decide) (fun K hK => ?_) (fun K hK => ?_)
            ·skip
             refine goes_ Try.func30 (by kernel_rfl) rfl #[.agg #[.string a1_0, .int .i64 a1_1, .int .i64 a1_2], .int .i64 a2, .agg #[.int .i64 a3_0, .int .i64 a3_1, .bool a3_2, .bool a3_3, .int .i64 a3_4], .slice Ao112 t167.length co112] (by rfl) rfl rfl (by (try simp only [List.map_toArray, List.map_cons, List.map_nil]); first | done | rfl | (simp only [List.length_drop, List.length_take]; rfl)) ?_
             with_reducible refine (modillionref07_plain.calls a1_0 a1_1 a1_2 a2 a3_0 a3_1 a3_2 a3_3 a3_4 _ _ t167 t170 t171 t172 t173 t174 t175 _ ?side1 ?side2 A108.out).mono ?_
             (case side1 => repeat (first | exact (Kd.R_reads' HO169.out).2.2 | (with_reducible refine Kd.C_alloc ?_ _) | (with_reducible refine Kd.C_drewN ?_ _) | (with_reducible refine Kd.C_drew ?_)))
             (case side2 => exact (Kd.R_reads' HO169.out).2.1)
             rintro e w113 ⟨v176, rfl, ho0, hb⟩
             refine ⟨_, rfl, ?_⟩
             have n0_ := Aside0.mk (Kd.R_below (kR HO169.out) hb)
             have n1_ := Aside0.mk (Kd.R_lower ho0 (below_size (kB HB.out)))
             have n2_ := Aside0.mk (blk_below (g := gb160) (o := .cells #[.int .i64 a0_0, .slice A0_1 l0_1.length c0_1] 24 (0, 0)) (kA BK160.out) hb)
             have n3_ := Aside0.mk (blk_below (g := gb161) (o := .cells #[.string a1_0, .int .i64 a1_1, .int .i64 a1_2] 26 (0, 0)) (kA BK161.out) hb)
             have n4_ := Aside0.mk (blk_below (g := gb162) (o := .cells #[.int .i64 a3_0, .int .i64 a3_1, .bool a3_2, .bool a3_3, .int .i64 a3_4] 28 (0, 0)) (kA BK162.out) hb)
             have n5_ := Aside0.mk (blk_below (g := gb163) (o := .cells #[.int .i64 0, .int .i64 0, .bool false, .bool false, .int .i64 0] 28 (0, 0)) (kA BK163.out) hb)
             have n6_ := Aside0.mk (below_step (kB HB.out) hb)
             clear HO169
             clear BK160
             clear BK161
             clear BK162
             clear BK163
             clear HB
             have HO169 := n0_
             have HO177 := n1_
             have BK160 := n2_
             have BK161 := n3_
             have BK162 := n4_
             have BK163 := n5_
             have HB := n6_
             clear n0_ n1_ n2_ n3_ n4_ n5_ n6_
             (try clear hb)
             (try clear hb2)
             (try clear hk)
             (try clear hi)
             (try clear ho0)
             refine hK.out _ _ ⟨(blk_cell BK161.out 0).trans rfl, (blk_cell BK161.out 1).trans rfl, (blk_cell BK161.out 2).trans rfl, (blk_cell BK162.out 0).trans rfl, (blk_cell BK162.out 1).trans rfl, (blk_cell BK162.out 2).trans rfl, (blk_cell BK162.out 3).trans rfl, (blk_cell BK162.out 4).trans rfl, (blk_cell BK160.out 0).trans rfl, (blk_cell BK160.out 1).trans rfl⟩ (fun hHeld => ?_)
             clear hK K
             refine norm_ (a' := ?_) ?_ ?_
             rotate_left
             ·show Act.put _ (some 68) _ = _
              simp only [Act.put, q1_, q2_, q3_, i64_w, i32_w]
              rfl
             refine pure_ (i := 8) (N := some 60) (v := ?_) (a' := ?_) #[Y,Y,Y,Y,Y,Y,Y,Y,Y,Z,Z,Z,Z,Z] rfl rfl (any_of HT_.out (by kernel_rfl)) (fun _ _ _ h => h) (Or.inl ⟨by rfl, ?_⟩) ?_ ?_
             rotate_left
             ·intro w';go_simp;with_reducible rfl
             rotate_left
             ·simp only [Act.put, q1_, q2_, q3_, i64_w, i32_w];rfl
             refine pure_ (i := 9) (N := some 69) (v := ?_) (a' := ?_) #[Y,Y,Y,Y,Y,Y,Y,Y,Y,Y,Z,Z,Z,Z] rfl rfl (any_of HT_.out (by kernel_rfl)) (fun _ _ _ h => h) (Or.inl ⟨by rfl, ?_⟩) ?_ ?_
             rotate_left
             ·intro w';go_simp;with_reducible rfl
             rotate_left
             ·simp only [Act.put, q1_, q2_, q3_, i64_w, i32_w];rfl
             refine pure_ (i := 10) (N := some 70) (v := ?_) (a' := ?_) #[Y,Y,Y,Y,Y,Y,Y,Y,Y,Y,Y,Z,Z,Z] rfl rfl (any_of HT_.out (by kernel_rfl)) (fun _ _ _ h => h) (Or.inl ⟨by rfl, ?_⟩) ?_ ?_
             rotate_left
             ·intro w';go_simp;with_reducible rfl
             rotate_left
             ·simp only [Act.put, q1_, q2_, q3_, i64_w, i32_w];rfl
             refine one_ (i := 11) (N := some 11) #[Y,Y,Y,Y,Y,Y,Y,Y,Y,Y,Y,Y,Z,Z] rfl rfl (one_of HT_.out (by kernel_rfl)) (by decide) (fun K hK => ?_)
             refine box_step ?hg (N := 11) ?hd (cs := #[.int .i64 0, .int .i64 0, .bool false, .bool false, .int .i64 0]) (t := 28) ?hr ?_; (case hd => rfl); (case hg => rfl); (case hr => first | (go_simp; done) | (go_simp; rfl))
             intro gb178 hg w114 hbox hb
             have n0_ := Aside0.mk (Kd.R_below (kR HO169.out) hb)
             have n1_ := Aside0.mk (Kd.R_below (kR HO177.out) hb)
             have n2_ := Aside0.mk (blk_below (g := gb160) (o := .cells #[.int .i64 a0_0, .slice A0_1 l0_1.length c0_1] 24 (0, 0)) (kA BK160.out) hb)
             have n3_ := Aside0.mk (blk_below (g := gb161) (o := .cells #[.string a1_0, .int .i64 a1_1, .int .i64 a1_2] 26 (0, 0)) (kA BK161.out) hb)
             have n4_ := Aside0.mk (blk_below (g := gb162) (o := .cells #[.int .i64 a3_0, .int .i64 a3_1, .bool a3_2, .bool a3_3, .int .i64 a3_4] 28 (0, 0)) (kA BK162.out) hb)
             have n5_ := Aside0.mk (blk_below (g := gb163) (o := .cells #[.int .i64 0, .int .i64 0, .bool false, .bool false, .int .i64 0] 28 (0, 0)) (kA BK163.out) hb)
             have n6_ := Aside0.mk (below_step (kB HB.out) hb)
             have n7_ := Aside0.mk (hbox)
             have n8_ := Aside0.mk ((by rw [hg]; exact (below_size (kB HB.out)) : w.heap.size ≤ gb178))
             have n9_ := Aside0.mk ((by rw [hg]; exact (below_size (kB HB.out)) : w.heap.size ≤ gb178))
             have n10_ := Aside0.mk ((by rw [hg]; exact Nat.ne_of_lt (blk_lt (g := gb160) (o := .cells #[.int .i64 a0_0, .slice A0_1 l0_1.length c0_1] 24 (0, 0)) (kA BK160.out)) : gb160 ≠ gb178))
             have n11_ := Aside0.mk ((by rw [hg]; exact Nat.ne_of_gt (blk_lt (g := gb160) (o := .cells #[.int .i64 a0_0, .slice A0_1 l0_1.length c0_1] 24 (0, 0)) (kA BK160.out)) : gb178 ≠ gb160))
             have n12_ := Aside0.mk ((by rw [hg]; exact Nat.ne_of_lt (blk_lt (g := gb161) (o := .cells #[.string a1_0, .int .i64 a1_1, .int .i64 a1_2] 26 (0, 0)) (kA BK161.out)) : gb161 ≠ gb178))
             have n13_ := Aside0.mk ((by rw [hg]; exact Nat.ne_of_gt (blk_lt (g := gb161) (o := .cells #[.string a1_0, .int .i64 a1_1, .int .i64 a1_2] 26 (0, 0)) (kA BK161.out)) : gb178 ≠ gb161))
             have n14_ := Aside0.mk ((by rw [hg]; exact Nat.ne_of_lt (blk_lt (g := gb162) (o := .cells #[.int .i64 a3_0, .int .i64 a3_1, .bool a3_2, .bool a3_3, .int .i64 a3_4] 28 (0, 0)) (kA BK162.out)) : gb162 ≠ gb178))
             have n15_ := Aside0.mk ((by rw [hg]; exact Nat.ne_of_gt (blk_lt (g := gb162) (o := .cells #[.int .i64 a3_0, .int .i64 a3_1, .bool a3_2, .bool a3_3, .int .i64 a3_4] 28 (0, 0)) (kA BK162.out)) : gb178 ≠ gb162))
             have n16_ := Aside0.mk ((by rw [hg]; exact Nat.ne_of_lt (blk_lt (g := gb163) (o := .cells #[.int .i64 0, .int .i64 0, .bool false, .bool false, .int .i64 0] 28 (0, 0)) (kA BK163.out)) : gb163 ≠ gb178))
             have n17_ := Aside0.mk ((by rw [hg]; exact Nat.ne_of_gt (blk_lt (g := gb163) (o := .cells #[.int .i64 0, .int .i64 0, .bool false, .bool false, .int .i64 0] 28 (0, 0)) (kA BK163.out)) : gb178 ≠ gb163))
             clear HO169
             clear HO177
             clear BK160
             clear BK161
             clear BK162
             clear BK163
             clear HB
             have HO169 := n0_
             have HO177 := n1_
             have BK160 := n2_
             have BK161 := n3_
             have BK162 := n4_
             have BK163 := n5_
             have HB := n6_
             have BK178 := n7_
             have GW178 := n8_
             have GE178 := n9_
             have NB160_178 := n10_
             have NB178_160 := n11_
             have NB161_178 := n12_
             have NB178_161 := n13_
             have NB162_178 := n14_
             have NB178_162 := n15_
             have NB163_178 := n16_
             have NB178_163 := n17_
             clear n0_ n1_ n2_ n3_ n4_ n5_ n6_ n7_ n8_ n9_ n10_ n11_ n12_ n13_ n14_ n15_ n16_ n17_
             clear hb hbox hg
             refine hK.out _ _ ⟨(blk_cell BK161.out 0).trans rfl, (blk_cell BK161.out 1).trans rfl, (blk_cell BK161.out 2).trans rfl, (blk_cell BK162.out 0).trans rfl, (blk_cell BK162.out 1).trans rfl, (blk_cell BK162.out 2).trans rfl, (blk_cell BK162.out 3).trans rfl, (blk_cell BK162.out 4).trans rfl, (blk_cell BK160.out 0).trans rfl, (blk_cell BK160.out 1).trans rfl⟩ (fun hHeld => ?_)
             clear hK K
             refine norm_ (a' := ?_) ?_ ?_
             rotate_left
             ·show Act.put _ (some 11) _ = _
              simp only [Act.put, q1_, q2_, q3_, i64_w, i32_w]
              rfl
             exact norm_ (by simp only [putAll, Act.put, q1_, q2_, q3_]) (hCont (.slice Ao112 t167.length co112, v176, gb178) _ ⟨hHeld, (kR HO169.out), (kR HO177.out), (kA BK160.out), (kA BK161.out), (kA BK162.out), (kA BK163.out), (kA BK178.out), GW178.out, GE178.out, NB160_178.out, NB178_160.out, NB161_178.out, NB178_161.out, NB162_178.out, NB178_162.out, NB163_178.out, NB178_163.out, (kB HB.out)⟩)
            ·skip
             refine box_step ?hg (N := 11) ?hd (cs := #[.int .i64 0, .int .i64 0, .bool false, .bool false, .int .i64 0]) (t := 28) ?hr ?_; (case hd => rfl); (case hg => rfl); (case hr => first | (go_simp; done) | (go_simp; rfl))
             intro gb178 hg w112 hbox hb
             have n0_ := Aside0.mk (Kd.R_below (kR HO169.out) hb)
             have n1_ := Aside0.mk (blk_below (g := gb160) (o := .cells #[.int .i64 a0_0, .slice A0_1 l0_1.length c0_1] 24 (0, 0)) (kA BK160.out) hb)
             have n2_ := Aside0.mk (blk_below (g := gb161) (o := .cells #[.string a1_0, .int .i64 a1_1, .int .i64 a1_2] 26 (0, 0)) (kA BK161.out) hb)
             have n3_ := Aside0.mk (blk_below (g := gb162) (o := .cells #[.int .i64 a3_0, .int .i64 a3_1, .bool a3_2, .bool a3_3, .int .i64 a3_4] 28 (0, 0)) (kA BK162.out) hb)
             have n4_ := Aside0.mk (blk_below (g := gb163) (o := .cells #[.int .i64 0, .int .i64 0, .bool false, .bool false, .int .i64 0] 28 (0, 0)) (kA BK163.out) hb)
             have n5_ := Aside0.mk (below_step (kB HB.out) hb)
             have n6_ := Aside0.mk (hbox)
             have n7_ := Aside0.mk ((by rw [hg]; exact (below_size (kB HB.out)) : w.heap.size ≤ gb178))
             have n8_ := Aside0.mk ((by rw [hg]; exact (below_size (kB HB.out)) : w.heap.size ≤ gb178))
             have n9_ := Aside0.mk ((by rw [hg]; exact Nat.ne_of_lt (blk_lt (g := gb160) (o := .cells #[.int .i64 a0_0, .slice A0_1 l0_1.length c0_1] 24 (0, 0)) (kA BK160.out)) : gb160 ≠ gb178))
             have n10_ := Aside0.mk ((by rw [hg]; exact Nat.ne_of_gt (blk_lt (g := gb160) (o := .cells #[.int .i64 a0_0, .slice A0_1 l0_1.length c0_1] 24 (0, 0)) (kA BK160.out)) : gb178 ≠ gb160))
             have n11_ := Aside0.mk ((by rw [hg]; exact Nat.ne_of_lt (blk_lt (g := gb161) (o := .cells #[.string a1_0, .int .i64 a1_1, .int .i64 a1_2] 26 (0, 0)) (kA BK161.out)) : gb161 ≠ gb178))
             have n12_ := Aside0.mk ((by rw [hg]; exact Nat.ne_of_gt (blk_lt (g := gb161) (o := .cells #[.string a1_0, .int .i64 a1_1, .int .i64 a1_2] 26 (0, 0)) (kA BK161.out)) : gb178 ≠ gb161))
             have n13_ := Aside0.mk ((by rw [hg]; exact Nat.ne_of_lt (blk_lt (g := gb162) (o := .cells #[.int .i64 a3_0, .int .i64 a3_1, .bool a3_2, .bool a3_3, .int .i64 a3_4] 28 (0, 0)) (kA BK162.out)) : gb162 ≠ gb178))
             have n14_ := Aside0.mk ((by rw [hg]; exact Nat.ne_of_gt (blk_lt (g := gb162) (o := .cells #[.int .i64 a3_0, .int .i64 a3_1, .bool a3_2, .bool a3_3, .int .i64 a3_4] 28 (0, 0)) (kA BK162.out)) : gb178 ≠ gb162))
             have n15_ := Aside0.mk ((by rw [hg]; exact Nat.ne_of_lt (blk_lt (g := gb163) (o := .cells #[.int .i64 0, .int .i64 0, .bool false, .bool false, .int .i64 0] 28 (0, 0)) (kA BK163.out)) : gb163 ≠ gb178))
             have n16_ := Aside0.mk ((by rw [hg]; exact Nat.ne_of_gt (blk_lt (g := gb163) (o := .cells #[.int .i64 0, .int .i64 0, .bool false, .bool false, .int .i64 0] 28 (0, 0)) (kA BK163.out)) : gb178 ≠ gb163))
             clear HO169
             clear BK160
             clear BK161
             clear BK162
             clear BK163
             clear HB
             have HO169 := n0_
             have BK160 := n1_
             have BK161 := n2_
             have BK162 := n3_
             have BK163 := n4_
             have HB := n5_
             have BK178 := n6_
             have GW178 := n7_
             have GE178 := n8_
             have NB160_178 := n9_
             have NB178_160 := n10_
             have NB161_178 := n11_
             have NB178_161 := n12_
             have NB162_178 := n13_
             have NB178_162 := n14_
             have NB163_178 := n15_
             have NB178_163 := n16_
             clear n0_ n1_ n2_ n3_ n4_ n5_ n6_ n7_ n8_ n9_ n10_ n11_ n12_ n13_ n14_ n15_ n16_
             clear hb hbox hg
             obtain ⟨Ao113, co113, eo113⟩ := Kd.R_slice HO169.out
             (first | subst eo113 | (injection eo113 with f1_ f2_ f3_; have f4_ := f1_.symm; have f5_ := f3_.symm; clear f1_ f2_ f3_; subst f4_; subst f5_))
             refine hK.out _ _ ⟨(blk_cell BK161.out 0).trans rfl, (blk_cell BK161.out 1).trans rfl, (blk_cell BK161.out 2).trans rfl, (blk_cell BK162.out 0).trans rfl, (blk_cell BK162.out 1).trans rfl, (blk_cell BK162.out 2).trans rfl, (blk_cell BK162.out 3).trans rfl, (blk_cell BK162.out 4).trans rfl, (blk_cell BK160.out 0).trans rfl, (blk_cell BK160.out 1).trans rfl⟩ (fun hHeld => ?_)
             clear hK K
             refine norm_ (a' := ?_) ?_ ?_
             rotate_left
             ·show Act.put _ (some 11) _ = _
              simp only [Act.put, q1_, q2_, q3_, i64_w, i32_w]
              rfl
             refine one_ (i := 7) (N := some 68) #[Y,Y,Y,Y,Y,Y,Y,Y,Z,Z,Z,Y,Z,Z] rfl rfl (one_of HT_.out (by kernel_rfl)) (by decide) (fun K hK => ?_)
             refine goes_ Try.func30 (by kernel_rfl) rfl #[.agg #[.string a1_0, .int .i64 a1_1, .int .i64 a1_2], .int .i64 a2, .agg #[.int .i64 a3_0, .int .i64 a3_1, .bool a3_2, .bool a3_3, .int .i64 a3_4], .slice Ao113 t167.length co113] (by rfl) rfl rfl (by (try simp only [List.map_toArray, List.map_cons, List.map_nil]); first | done | rfl | (simp only [List.length_drop, List.length_take]; rfl)) ?_
             with_reducible refine (modillionref07_plain.calls a1_0 a1_1 a1_2 a2 a3_0 a3_1 a3_2 a3_3 a3_4 _ _ t167 t170 t171 t172 t173 t174 t175 _ ?side1 ?side2 A108.out).mono ?_
             (case side1 => repeat (first | exact (Kd.R_reads' HO169.out).2.2 | (with_reducible refine Kd.C_alloc ?_ _) | (with_reducible refine Kd.C_drewN ?_ _) | (with_reducible refine Kd.C_drew ?_)))
             (case side2 => exact (Kd.R_reads' HO169.out).2.1)
             rintro e w114 ⟨v176, rfl, ho0, hb⟩
             refine ⟨_, rfl, ?_⟩
             have n0_ := Aside0.mk (Kd.R_below (kR HO169.out) hb)
             have n1_ := Aside0.mk (Kd.R_lower ho0 (below_size (kB HB.out)))
             have n2_ := Aside0.mk (blk_below (g := gb160) (o := .cells #[.int .i64 a0_0, .slice A0_1 l0_1.length c0_1] 24 (0, 0)) (kA BK160.out) hb)
             have n3_ := Aside0.mk (blk_below (g := gb161) (o := .cells #[.string a1_0, .int .i64 a1_1, .int .i64 a1_2] 26 (0, 0)) (kA BK161.out) hb)
             have n4_ := Aside0.mk (blk_below (g := gb162) (o := .cells #[.int .i64 a3_0, .int .i64 a3_1, .bool a3_2, .bool a3_3, .int .i64 a3_4] 28 (0, 0)) (kA BK162.out) hb)
             have n5_ := Aside0.mk (blk_below (g := gb163) (o := .cells #[.int .i64 0, .int .i64 0, .bool false, .bool false, .int .i64 0] 28 (0, 0)) (kA BK163.out) hb)
             have n6_ := Aside0.mk (blk_below (g := gb178) (o := .cells #[.int .i64 0, .int .i64 0, .bool false, .bool false, .int .i64 0] 28 (0, 0)) (kA BK178.out) hb)
             have n7_ := Aside0.mk (below_step (kB HB.out) hb)
             clear HO169
             clear BK160
             clear BK161
             clear BK162
             clear BK163
             clear BK178
             clear HB
             have HO169 := n0_
             have HO177 := n1_
             have BK160 := n2_
             have BK161 := n3_
             have BK162 := n4_
             have BK163 := n5_
             have BK178 := n6_
             have HB := n7_
             clear n0_ n1_ n2_ n3_ n4_ n5_ n6_ n7_
             (try clear hb)
             (try clear hb2)
             (try clear hk)
             (try clear hi)
             (try clear ho0)
             refine hK.out _ _ ⟨(blk_cell BK161.out 0).trans rfl, (blk_cell BK161.out 1).trans rfl, (blk_cell BK161.out 2).trans rfl, (blk_cell BK162.out 0).trans rfl, (blk_cell BK162.out 1).trans rfl, (blk_cell BK162.out 2).trans rfl, (blk_cell BK162.out 3).trans rfl, (blk_cell BK162.out 4).trans rfl, (blk_cell BK160.out 0).trans rfl, (blk_cell BK160.out 1).trans rfl⟩ (fun hHeld => ?_)
             clear hK K
             refine norm_ (a' := ?_) ?_ ?_
             rotate_left
             ·show Act.put _ (some 68) _ = _
              simp only [Act.put, q1_, q2_, q3_, i64_w, i32_w]
              rfl
             refine pure_ (i := 8) (N := some 60) (v := ?_) (a' := ?_) #[Y,Y,Y,Y,Y,Y,Y,Y,Y,Z,Z,Y,Z,Z] rfl rfl (any_of HT_.out (by kernel_rfl)) (fun _ _ _ h => h) (Or.inl ⟨by rfl, ?_⟩) ?_ ?_
             rotate_left
             ·intro w';go_simp;with_reducible rfl
             rotate_left
             ·simp only [Act.put, q1_, q2_, q3_, i64_w, i32_w];rfl
             refine pure_ (i := 9) (N := some 69) (v := ?_) (a' := ?_) #[Y,Y,Y,Y,Y,Y,Y,Y,Y,Y,Z,Y,Z,Z] rfl rfl (any_of HT_.out (by kernel_rfl)) (fun _ _ _ h => h) (Or.inl ⟨by rfl, ?_⟩) ?_ ?_
             rotate_left
             ·intro w';go_simp;with_reducible rfl
             rotate_left
             ·simp only [Act.put, q1_, q2_, q3_, i64_w, i32_w];rfl
             refine pure_ (i := 10) (N := some 70) (v := ?_) (a' := ?_) #[Y,Y,Y,Y,Y,Y,Y,Y,Y,Y,Y,Y,Z,Z] rfl rfl (any_of HT_.out (by kernel_rfl)) (fun _ _ _ h => h) (Or.inl ⟨by rfl, ?_⟩) ?_ ?_
             rotate_left
             ·intro w';go_simp;with_reducible rfl
             rotate_left
             ·simp only [Act.put, q1_, q2_, q3_, i64_w, i32_w];rfl
             exact norm_ (by simp only [putAll, Act.put, q1_, q2_, q3_]) (hCont (.slice Ao113 t167.length co113, v176, gb178) _ ⟨hHeld, (kR HO169.out), (kR HO177.out), (kA BK160.out), (kA BK161.out), (kA BK162.out), (kA BK163.out), (kA BK178.out), GW178.out, GE178.out, NB160_178.out, NB178_160.out, NB161_178.out, NB178_161.out, NB162_178.out, NB178_162.out, NB163_178.out, NB178_163.out, (kB HB.out)⟩)
           ·skip
            refine box_step ?hg (N := 11) ?hd (cs := #[.int .i64 0, .int .i64 0, .bool false, .bool false, .int .i64 0]) (t := 28) ?hr ?_; (case hd => rfl); (case hg => rfl); (case hr => first | (go_simp; done) | (go_simp; rfl))
            intro gb178 hg w111 hbox hb
            have n0_ := Aside0.mk (blk_below (g := gb160) (o := .cells #[.int .i64 a0_0, .slice A0_1 l0_1.length c0_1] 24 (0, 0)) (kA BK160.out) hb)
            have n1_ := Aside0.mk (blk_below (g := gb161) (o := .cells #[.string a1_0, .int .i64 a1_1, .int .i64 a1_2] 26 (0, 0)) (kA BK161.out) hb)
            have n2_ := Aside0.mk (blk_below (g := gb162) (o := .cells #[.int .i64 a3_0, .int .i64 a3_1, .bool a3_2, .bool a3_3, .int .i64 a3_4] 28 (0, 0)) (kA BK162.out) hb)
            have n3_ := Aside0.mk (blk_below (g := gb163) (o := .cells #[.int .i64 0, .int .i64 0, .bool false, .bool false, .int .i64 0] 28 (0, 0)) (kA BK163.out) hb)
            have n4_ := Aside0.mk (below_step (kB HB.out) hb)
            have n5_ := Aside0.mk (hbox)
            have n6_ := Aside0.mk ((by rw [hg]; exact (below_size (kB HB.out)) : w.heap.size ≤ gb178))
            have n7_ := Aside0.mk ((by rw [hg]; exact (below_size (kB HB.out)) : w.heap.size ≤ gb178))
            have n8_ := Aside0.mk ((by rw [hg]; exact Nat.ne_of_lt (blk_lt (g := gb160) (o := .cells #[.int .i64 a0_0, .slice A0_1 l0_1.length c0_1] 24 (0, 0)) (kA BK160.out)) : gb160 ≠ gb178))
            have n9_ := Aside0.mk ((by rw [hg]; exact Nat.ne_of_gt (blk_lt (g := gb160) (o := .cells #[.int .i64 a0_0, .slice A0_1 l0_1.length c0_1] 24 (0, 0)) (kA BK160.out)) : gb178 ≠ gb160))
            have n10_ := Aside0.mk ((by rw [hg]; exact Nat.ne_of_lt (blk_lt (g := gb161) (o := .cells #[.string a1_0, .int .i64 a1_1, .int .i64 a1_2] 26 (0, 0)) (kA BK161.out)) : gb161 ≠ gb178))
            have n11_ := Aside0.mk ((by rw [hg]; exact Nat.ne_of_gt (blk_lt (g := gb161) (o := .cells #[.string a1_0, .int .i64 a1_1, .int .i64 a1_2] 26 (0, 0)) (kA BK161.out)) : gb178 ≠ gb161))
            have n12_ := Aside0.mk ((by rw [hg]; exact Nat.ne_of_lt (blk_lt (g := gb162) (o := .cells #[.int .i64 a3_0, .int .i64 a3_1, .bool a3_2, .bool a3_3, .int .i64 a3_4] 28 (0, 0)) (kA BK162.out)) : gb162 ≠ gb178))
            have n13_ := Aside0.mk ((by rw [hg]; exact Nat.ne_of_gt (blk_lt (g := gb162) (o := .cells #[.int .i64 a3_0, .int .i64 a3_1, .bool a3_2, .bool a3_3, .int .i64 a3_4] 28 (0, 0)) (kA BK162.out)) : gb178 ≠ gb162))
            have n14_ := Aside0.mk ((by rw [hg]; exact Nat.ne_of_lt (blk_lt (g := gb163) (o := .cells #[.int .i64 0, .int .i64 0, .bool false, .bool false, .int .i64 0] 28 (0, 0)) (kA BK163.out)) : gb163 ≠ gb178))
            have n15_ := Aside0.mk ((by rw [hg]; exact Nat.ne_of_gt (blk_lt (g := gb163) (o := .cells #[.int .i64 0, .int .i64 0, .bool false, .bool false, .int .i64 0] 28 (0, 0)) (kA BK163.out)) : gb178 ≠ gb163))
            clear BK160
            clear BK161
            clear BK162
            clear BK163
            clear HB
            have BK160 := n0_
            have BK161 := n1_
            have BK162 := n2_
            have BK163 := n3_
            have HB := n4_
            have BK178 := n5_
            have GW178 := n6_
            have GE178 := n7_
            have NB160_178 := n8_
            have NB178_160 := n9_
            have NB161_178 := n10_
            have NB178_161 := n11_
            have NB162_178 := n12_
            have NB178_162 := n13_
            have NB163_178 := n14_
            have NB178_163 := n15_
            clear n0_ n1_ n2_ n3_ n4_ n5_ n6_ n7_ n8_ n9_ n10_ n11_ n12_ n13_ n14_ n15_
            clear hb hbox hg
            refine hK.out _ _ ⟨(blk_cell BK161.out 0).trans rfl, (blk_cell BK161.out 1).trans rfl, (blk_cell BK161.out 2).trans rfl, (blk_cell BK162.out 0).trans rfl, (blk_cell BK162.out 1).trans rfl, (blk_cell BK162.out 2).trans rfl, (blk_cell BK162.out 3).trans rfl, (blk_cell BK162.out 4).trans rfl, (blk_cell BK160.out 0).trans rfl, (blk_cell BK160.out 1).trans rfl⟩ (fun hHeld => ?_)
            clear hK K
            refine norm_ (a' := ?_) ?_ ?_
            rotate_left
            ·show Act.put _ (some 11) _ = _
             simp only [Act.put, q1_, q2_, q3_, i64_w, i32_w]
             rfl
            refine one_ (i := 6) (N := some 67) #[Y,Y,Y,Y,Y,Y,Y,Z,Z,Z,Z,Y,Z,Z] rfl rfl (one_of HT_.out (by kernel_rfl)) (by decide) (fun K hK => ?_)
            refine goes_ Try.func31 (by kernel_rfl) rfl #[.agg #[.int .i64 a0_0, .slice A0_1 l0_1.length c0_1], .int .i64 a3_0] (by rfl) rfl rfl (by (try simp only [List.map_toArray, List.map_cons, List.map_nil]); first | done | rfl | (simp only [List.length_drop, List.length_take]; rfl)) ?_
            with_reducible refine (modillionref05_Out.calls kj88 a0_0 _ _ l0_1 a3_0 t167 _ ?side1 ?side2 A107.out).mono ?_
            (case side1 => repeat (first | exact (Kd.C_below HR0_1.out HB.out) | (with_reducible refine Kd.C_alloc ?_ _) | (with_reducible refine Kd.C_drewN ?_ _) | (with_reducible refine Kd.C_drew ?_)))
            (case side2 => exact HC0_1.out)
            rintro e w112 ⟨v168, rfl, ho0, hb⟩
            refine ⟨_, rfl, ?_⟩
            have n0_ := Aside0.mk (Kd.R_lower ho0 (below_size (kB HB.out)))
            have n1_ := Aside0.mk (blk_below (g := gb160) (o := .cells #[.int .i64 a0_0, .slice A0_1 l0_1.length c0_1] 24 (0, 0)) (kA BK160.out) hb)
            have n2_ := Aside0.mk (blk_below (g := gb161) (o := .cells #[.string a1_0, .int .i64 a1_1, .int .i64 a1_2] 26 (0, 0)) (kA BK161.out) hb)
            have n3_ := Aside0.mk (blk_below (g := gb162) (o := .cells #[.int .i64 a3_0, .int .i64 a3_1, .bool a3_2, .bool a3_3, .int .i64 a3_4] 28 (0, 0)) (kA BK162.out) hb)
            have n4_ := Aside0.mk (blk_below (g := gb163) (o := .cells #[.int .i64 0, .int .i64 0, .bool false, .bool false, .int .i64 0] 28 (0, 0)) (kA BK163.out) hb)
            have n5_ := Aside0.mk (blk_below (g := gb178) (o := .cells #[.int .i64 0, .int .i64 0, .bool false, .bool false, .int .i64 0] 28 (0, 0)) (kA BK178.out) hb)
            have n6_ := Aside0.mk (below_step (kB HB.out) hb)
            clear BK160
            clear BK161
            clear BK162
            clear BK163
            clear BK178
            clear HB
            have HO169 := n0_
            have BK160 := n1_
            have BK161 := n2_
            have BK162 := n3_
            have BK163 := n4_
            have BK178 := n5_
            have HB := n6_
            clear n0_ n1_ n2_ n3_ n4_ n5_ n6_
            (try clear hb)
            (try clear hb2)
            (try clear hk)
            (try clear hi)
            (try clear ho0)
            obtain ⟨Ao113, co113, eo113⟩ := Kd.R_slice HO169.out
            (first | subst eo113 | (injection eo113 with f1_ f2_ f3_; have f4_ := f1_.symm; have f5_ := f3_.symm; clear f1_ f2_ f3_; subst f4_; subst f5_))
            refine hK.out _ _ ⟨(blk_cell BK161.out 0).trans rfl, (blk_cell BK161.out 1).trans rfl, (blk_cell BK161.out 2).trans rfl, (blk_cell BK162.out 0).trans rfl, (blk_cell BK162.out 1).trans rfl, (blk_cell BK162.out 2).trans rfl, (blk_cell BK162.out 3).trans rfl, (blk_cell BK162.out 4).trans rfl, (blk_cell BK160.out 0).trans rfl, (blk_cell BK160.out 1).trans rfl⟩ (fun hHeld => ?_)
            clear hK K
            refine norm_ (a' := ?_) ?_ ?_
            rotate_left
            ·show Act.put _ (some 67) _ = _
             simp only [Act.put, q1_, q2_, q3_, i64_w, i32_w]
             rfl
            refine one_ (i := 7) (N := some 68) #[Y,Y,Y,Y,Y,Y,Y,Y,Z,Z,Z,Y,Z,Z] rfl rfl (one_of HT_.out (by kernel_rfl)) (by decide) (fun K hK => ?_)
            refine goes_ Try.func30 (by kernel_rfl) rfl #[.agg #[.string a1_0, .int .i64 a1_1, .int .i64 a1_2], .int .i64 a2, .agg #[.int .i64 a3_0, .int .i64 a3_1, .bool a3_2, .bool a3_3, .int .i64 a3_4], .slice Ao113 t167.length co113] (by rfl) rfl rfl (by (try simp only [List.map_toArray, List.map_cons, List.map_nil]); first | done | rfl | (simp only [List.length_drop, List.length_take]; rfl)) ?_
            with_reducible refine (modillionref07_plain.calls a1_0 a1_1 a1_2 a2 a3_0 a3_1 a3_2 a3_3 a3_4 _ _ t167 t170 t171 t172 t173 t174 t175 _ ?side1 ?side2 A108.out).mono ?_
            (case side1 => repeat (first | exact (Kd.R_reads' HO169.out).2.2 | (with_reducible refine Kd.C_alloc ?_ _) | (with_reducible refine Kd.C_drewN ?_ _) | (with_reducible refine Kd.C_drew ?_)))
            (case side2 => exact (Kd.R_reads' HO169.out).2.1)
            rintro e w114 ⟨v176, rfl, ho0, hb⟩
            refine ⟨_, rfl, ?_⟩
            have n0_ := Aside0.mk (Kd.R_below (kR HO169.out) hb)
            have n1_ := Aside0.mk (Kd.R_lower ho0 (below_size (kB HB.out)))
            have n2_ := Aside0.mk (blk_below (g := gb160) (o := .cells #[.int .i64 a0_0, .slice A0_1 l0_1.length c0_1] 24 (0, 0)) (kA BK160.out) hb)
            have n3_ := Aside0.mk (blk_below (g := gb161) (o := .cells #[.string a1_0, .int .i64 a1_1, .int .i64 a1_2] 26 (0, 0)) (kA BK161.out) hb)
            have n4_ := Aside0.mk (blk_below (g := gb162) (o := .cells #[.int .i64 a3_0, .int .i64 a3_1, .bool a3_2, .bool a3_3, .int .i64 a3_4] 28 (0, 0)) (kA BK162.out) hb)
            have n5_ := Aside0.mk (blk_below (g := gb163) (o := .cells #[.int .i64 0, .int .i64 0, .bool false, .bool false, .int .i64 0] 28 (0, 0)) (kA BK163.out) hb)
            have n6_ := Aside0.mk (blk_below (g := gb178) (o := .cells #[.int .i64 0, .int .i64 0, .bool false, .bool false, .int .i64 0] 28 (0, 0)) (kA BK178.out) hb)
            have n7_ := Aside0.mk (below_step (kB HB.out) hb)
            clear HO169
            clear BK160
            clear BK161
            clear BK162
            clear BK163
            clear BK178
            clear HB
            have HO169 := n0_
            have HO177 := n1_
            have BK160 := n2_
            have BK161 := n3_
            have BK162 := n4_
            have BK163 := n5_
            have BK178 := n6_
            have HB := n7_
            clear n0_ n1_ n2_ n3_ n4_ n5_ n6_ n7_
            (try clear hb)
            (try clear hb2)
            (try clear hk)
            (try clear hi)
            (try clear ho0)
            refine hK.out _ _ ⟨(blk_cell BK161.out 0).trans rfl, (blk_cell BK161.out 1).trans rfl, (blk_cell BK161.out 2).trans rfl, (blk_cell BK162.out 0).trans rfl, (blk_cell BK162.out 1).trans rfl, (blk_cell BK162.out 2).trans rfl, (blk_cell BK162.out 3).trans rfl, (blk_cell BK162.out 4).trans rfl, (blk_cell BK160.out 0).trans rfl, (blk_cell BK160.out 1).trans rfl⟩ (fun hHeld => ?_)
            clear hK K
            refine norm_ (a' := ?_) ?_ ?_
            rotate_left
            ·show Act.put _ (some 68) _ = _
             simp only [Act.put, q1_, q2_, q3_, i64_w, i32_w]
             rfl
            refine pure_ (i := 8) (N := some 60) (v := ?_) (a' := ?_) #[Y,Y,Y,Y,Y,Y,Y,Y,Y,Z,Z,Y,Z,Z] rfl rfl (any_of HT_.out (by kernel_rfl)) (fun _ _ _ h => h) (Or.inl ⟨by rfl, ?_⟩) ?_ ?_
            rotate_left
            ·intro w';go_simp;with_reducible rfl
            rotate_left
            ·simp only [Act.put, q1_, q2_, q3_, i64_w, i32_w];rfl
            refine pure_ (i := 9) (N := some 69) (v := ?_) (a' := ?_) #[Y,Y,Y,Y,Y,Y,Y,Y,Y,Y,Z,Y,Z,Z] rfl rfl (any_of HT_.out (by kernel_rfl)) (fun _ _ _ h => h) (Or.inl ⟨by rfl, ?_⟩) ?_ ?_
            rotate_left
            ·intro w';go_simp;with_reducible rfl
            rotate_left
            ·simp only [Act.put, q1_, q2_, q3_, i64_w, i32_w];rfl
            refine pure_ (i := 10) (N := some 70) (v := ?_) (a' := ?_) #[Y,Y,Y,Y,Y,Y,Y,Y,Y,Y,Y,Y,Z,Z] rfl rfl (any_of HT_.out (by kernel_rfl)) (fun _ _ _ h => h) (Or.inl ⟨by rfl, ?_⟩) ?_ ?_
            rotate_left
            ·intro w';go_simp;with_reducible rfl
            rotate_left
            ·simp only [Act.put, q1_, q2_, q3_, i64_w, i32_w];rfl
            exact norm_ (by simp only [putAll, Act.put, q1_, q2_, q3_]) (hCont (.slice Ao113 t167.length co113, v176, gb178) _ ⟨hHeld, (kR HO169.out), (kR HO177.out), (kA BK160.out), (kA BK161.out), (kA BK162.out), (kA BK163.out), (kA BK178.out), GW178.out, GE178.out, NB160_178.out, NB178_160.out, NB161_178.out, NB178_161.out, NB162_178.out, NB178_162.out, NB163_178.out, NB178_163.out, (kB HB.out)⟩)
          rintro ⟨v168, v176, gb178⟩ w115 ⟨hS_, h0_, h1_, h2_, h3_, h4_, h5_, h6_, h7_, h8_, h9_, h10_, h11_, h12_, h13_, h14_, h15_, h16_, h17_⟩
          have n0_ : Aside0 (Kd.R k46 46 w115 w.heap.size (fun _ => True) v168 t167) := ⟨h0_⟩
          have n1_ : Aside0 (Kd.R k48 48 w115 w.heap.size (fun _ => True) v176 t175) := ⟨h1_⟩
          have n2_ : Aside0 (w115.heap[gb160]? = some (.cells #[.int .i64 a0_0, .slice A0_1 l0_1.length c0_1] 24 (0, 0))) := ⟨h2_⟩
          have n3_ : Aside0 (w115.heap[gb161]? = some (.cells #[.string a1_0, .int .i64 a1_1, .int .i64 a1_2] 26 (0, 0))) := ⟨h3_⟩
          have n4_ : Aside0 (w115.heap[gb162]? = some (.cells #[.int .i64 a3_0, .int .i64 a3_1, .bool a3_2, .bool a3_3, .int .i64 a3_4] 28 (0, 0))) := ⟨h4_⟩
          have n5_ : Aside0 (w115.heap[gb163]? = some (.cells #[.int .i64 0, .int .i64 0, .bool false, .bool false, .int .i64 0] 28 (0, 0))) := ⟨h5_⟩
          have n6_ : Aside0 (w115.heap[gb178]? = some (.cells #[.int .i64 0, .int .i64 0, .bool false, .bool false, .int .i64 0] 28 (0, 0))) := ⟨h6_⟩
          have n7_ : Aside0 (w.heap.size ≤ gb178) := ⟨h7_⟩
          have n8_ : Aside0 (w.heap.size ≤ gb178) := ⟨h8_⟩
          have n9_ : Aside0 (gb160 ≠ gb178) := ⟨h9_⟩
          have n10_ : Aside0 (gb178 ≠ gb160) := ⟨h10_⟩
          have n11_ : Aside0 (gb161 ≠ gb178) := ⟨h11_⟩
          have n12_ : Aside0 (gb178 ≠ gb161) := ⟨h12_⟩
          have n13_ : Aside0 (gb162 ≠ gb178) := ⟨h13_⟩
          have n14_ : Aside0 (gb178 ≠ gb162) := ⟨h14_⟩
          have n15_ : Aside0 (gb163 ≠ gb178) := ⟨h15_⟩
          have n16_ : Aside0 (gb178 ≠ gb163) := ⟨h16_⟩
          have n17_ : Aside0 (Below w.heap.size w w115) := ⟨h17_⟩
          clear BK160
          clear BK161
          clear BK162
          clear BK163
          clear HB
          clear h0_ h1_ h2_ h3_ h4_ h5_ h6_ h7_ h8_ h9_ h10_ h11_ h12_ h13_ h14_ h15_ h16_ h17_
          have HO169 := n0_
          have HO177 := n1_
          have BK160 := n2_
          have BK161 := n3_
          have BK162 := n4_
          have BK163 := n5_
          have BK178 := n6_
          have GW178 := n7_
          have GE178 := n8_
          have NB160_178 := n9_
          have NB178_160 := n10_
          have NB161_178 := n11_
          have NB178_161 := n12_
          have NB162_178 := n13_
          have NB178_162 := n14_
          have NB163_178 := n15_
          have NB178_163 := n16_
          have HB := n17_
          clear n0_ n1_ n2_ n3_ n4_ n5_ n6_ n7_ n8_ n9_ n10_ n11_ n12_ n13_ n14_ n15_ n16_ n17_
          have hHeld : w115.cell? ⟨gb161, 0, none⟩ = some (.string a1_0) ∧ w115.cell? ⟨gb161, 1, none⟩ = some (.int .i64 a1_1) ∧ w115.cell? ⟨gb161, 2, none⟩ = some (.int .i64 a1_2) ∧ w115.cell? ⟨gb162, 0, none⟩ = some (.int .i64 a3_0) ∧ w115.cell? ⟨gb162, 1, none⟩ = some (.int .i64 a3_1) ∧ w115.cell? ⟨gb162, 2, none⟩ = some (.bool a3_2) ∧ w115.cell? ⟨gb162, 3, none⟩ = some (.bool a3_3) ∧ w115.cell? ⟨gb162, 4, none⟩ = some (.int .i64 a3_4) ∧ w115.cell? ⟨gb160, 0, none⟩ = some (.int .i64 a0_0) ∧ w115.cell? ⟨gb160, 1, none⟩ = some (.slice A0_1 l0_1.length c0_1) := hS_
          refine norm_ (a' := ?_) ?_ ?_
          rotate_left
          ·simp only [putAll, Act.put, q1_, q2_, q3_]
           rfl
          refine one_ (i := 12) (N := none) #[Y,Y,Y,Y,Y,Y,Y,Y,Y,Y,Y,Y,Y,Z] rfl rfl (one_of HT_.out (by kernel_rfl)) (by decide) (fun K hK => ?_)
          have hs116 : w115.cell? ⟨gb178, 0, none⟩ = some (.int .i64 0) := (blk_cell BK178.out 0).trans rfl
          have hfs116 := blk_frozen BK178.out 0
          have hns116_0 := NB160_178.out
          have hns116_1 := NB161_178.out
          have hns116_2 := NB162_178.out
          have hns116_3 := NB163_178.out
          have hms116_0 := NB178_160.out
          have hms116_1 := NB178_161.out
          have hms116_2 := NB178_162.out
          have hms116_3 := NB178_163.out
          have hs117 : w115.cell? ⟨gb178, 1, none⟩ = some (.int .i64 0) := (blk_cell BK178.out 1).trans rfl
          have hfs117 := blk_frozen BK178.out 1
          have hns117_0 := NB160_178.out
          have hns117_1 := NB161_178.out
          have hns117_2 := NB162_178.out
          have hns117_3 := NB163_178.out
          have hms117_0 := NB178_160.out
          have hms117_1 := NB178_161.out
          have hms117_2 := NB178_162.out
          have hms117_3 := NB178_163.out
          have hs118 : w115.cell? ⟨gb178, 2, none⟩ = some (.bool false) := (blk_cell BK178.out 2).trans rfl
          have hfs118 := blk_frozen BK178.out 2
          have hns118_0 := NB160_178.out
          have hns118_1 := NB161_178.out
          have hns118_2 := NB162_178.out
          have hns118_3 := NB163_178.out
          have hms118_0 := NB178_160.out
          have hms118_1 := NB178_161.out
          have hms118_2 := NB178_162.out
          have hms118_3 := NB178_163.out
          have hs119 : w115.cell? ⟨gb178, 3, none⟩ = some (.bool false) := (blk_cell BK178.out 3).trans rfl
          have hfs119 := blk_frozen BK178.out 3
          have hns119_0 := NB160_178.out
          have hns119_1 := NB161_178.out
          have hns119_2 := NB162_178.out
          have hns119_3 := NB163_178.out
          have hms119_0 := NB178_160.out
          have hms119_1 := NB178_161.out
          have hms119_2 := NB178_162.out
          have hms119_3 := NB178_163.out
          have hs120 : w115.cell? ⟨gb178, 4, none⟩ = some (.int .i64 0) := (blk_cell BK178.out 4).trans rfl
          have hfs120 := blk_frozen BK178.out 4
          have hns120_0 := NB160_178.out
          have hns120_1 := NB161_178.out
          have hns120_2 := NB162_178.out
          have hns120_3 := NB163_178.out
          have hms120_0 := NB178_160.out
          have hms120_1 := NB178_161.out
          have hms120_2 := NB178_162.out
          have hms120_3 := NB178_163.out
          refine skip_ (w1 := ?_) (by rfl) rfl ?_ ?_
          rotate_left
          ·go_simp
           rfl
          refine hK.out _ _ ⟨((cell_far (p := ⟨gb178, _, none⟩) NB161_178.out _).trans (((cell_far (p := ⟨gb178, _, none⟩) NB161_178.out _).trans (((cell_far (p := ⟨gb178, _, none⟩) NB161_178.out _).trans (((cell_far (p := ⟨gb178, _, none⟩) NB161_178.out _).trans (((cell_far (p := ⟨gb178, _, none⟩) NB161_178.out _).trans (hHeld.1)))))))))), ((cell_far (p := ⟨gb178, _, none⟩) NB161_178.out _).trans (((cell_far (p := ⟨gb178, _, none⟩) NB161_178.out _).trans (((cell_far (p := ⟨gb178, _, none⟩) NB161_178.out _).trans (((cell_far (p := ⟨gb178, _, none⟩) NB161_178.out _).trans (((cell_far (p := ⟨gb178, _, none⟩) NB161_178.out _).trans (hHeld.2.1)))))))))), ((cell_far (p := ⟨gb178, _, none⟩) NB161_178.out _).trans (((cell_far (p := ⟨gb178, _, none⟩) NB161_178.out _).trans (((cell_far (p := ⟨gb178, _, none⟩) NB161_178.out _).trans (((cell_far (p := ⟨gb178, _, none⟩) NB161_178.out _).trans (((cell_far (p := ⟨gb178, _, none⟩) NB161_178.out _).trans (hHeld.2.2.1)))))))))), ((cell_far (p := ⟨gb178, _, none⟩) NB162_178.out _).trans (((cell_far (p := ⟨gb178, _, none⟩) NB162_178.out _).trans (((cell_far (p := ⟨gb178, _, none⟩) NB162_178.out _).trans (((cell_far (p := ⟨gb178, _, none⟩) NB162_178.out _).trans (((cell_far (p := ⟨gb178, _, none⟩) NB162_178.out _).trans (hHeld.2.2.2.1)))))))))), ((cell_far (p := ⟨gb178, _, none⟩) NB162_178.out _).trans (((cell_far (p := ⟨gb178, _, none⟩) NB162_178.out _).trans (((cell_far (p := ⟨gb178, _, none⟩) NB162_178.out _).trans (((cell_far (p := ⟨gb178, _, none⟩) NB162_178.out _).trans (((cell_far (p := ⟨gb178, _, none⟩) NB162_178.out _).trans (hHeld.2.2.2.2.1)))))))))), ((cell_far (p := ⟨gb178, _, none⟩) NB162_178.out _).trans (((cell_far (p := ⟨gb178, _, none⟩) NB162_178.out _).trans (((cell_far (p := ⟨gb178, _, none⟩) NB162_178.out _).trans (((cell_far (p := ⟨gb178, _, none⟩) NB162_178.out _).trans (((cell_far (p := ⟨gb178, _, none⟩) NB162_178.out _).trans (hHeld.2.2.2.2.2.1)))))))))), ((cell_far (p := ⟨gb178, _, none⟩) NB162_178.out _).trans (((cell_far (p := ⟨gb178, _, none⟩) NB162_178.out _).trans (((cell_far (p := ⟨gb178, _, none⟩) NB162_178.out _).trans (((cell_far (p := ⟨gb178, _, none⟩) NB162_178.out _).trans (((cell_far (p := ⟨gb178, _, none⟩) NB162_178.out _).trans (hHeld.2.2.2.2.2.2.1)))))))))), ((cell_far (p := ⟨gb178, _, none⟩) NB162_178.out _).trans (((cell_far (p := ⟨gb178, _, none⟩) NB162_178.out _).trans (((cell_far (p := ⟨gb178, _, none⟩) NB162_178.out _).trans (((cell_far (p := ⟨gb178, _, none⟩) NB162_178.out _).trans (((cell_far (p := ⟨gb178, _, none⟩) NB162_178.out _).trans (hHeld.2.2.2.2.2.2.2.1)))))))))), ((cell_far (p := ⟨gb178, _, none⟩) NB160_178.out _).trans (((cell_far (p := ⟨gb178, _, none⟩) NB160_178.out _).trans (((cell_far (p := ⟨gb178, _, none⟩) NB160_178.out _).trans (((cell_far (p := ⟨gb178, _, none⟩) NB160_178.out _).trans (((cell_far (p := ⟨gb178, _, none⟩) NB160_178.out _).trans (hHeld.2.2.2.2.2.2.2.2.1)))))))))), ((cell_far (p := ⟨gb178, _, none⟩) NB160_178.out _).trans (((cell_far (p := ⟨gb178, _, none⟩) NB160_178.out _).trans (((cell_far (p := ⟨gb178, _, none⟩) NB160_178.out _).trans (((cell_far (p := ⟨gb178, _, none⟩) NB160_178.out _).trans (((cell_far (p := ⟨gb178, _, none⟩) NB160_178.out _).trans (hHeld.2.2.2.2.2.2.2.2.2))))))))))⟩ (fun hHeld => ?_)
          clear hK K
          refine pure_ (i := 13) (N := some 12) (v := ?_) (a' := ?_) #[Y,Y,Y,Y,Y,Y,Y,Y,Y,Y,Y,Y,Y,Y] rfl rfl (any_of HT_.out (by kernel_rfl)) (fun _ _ _ h => h) (Or.inl ⟨by rfl, ?_⟩) ?_ ?_
          rotate_left
          ·intro w';go_simp;with_reducible rfl
          rotate_left
          ·simp only [Act.put, q1_, q2_, q3_, i64_w, i32_w];rfl
          refine done_ (done_of HT_.out (by kernel_rfl)) ?_
          have hnb121 := NB178_160.out
          have hnc121 := NB160_178.out
          have hnb122 := NB178_161.out
          have hnc122 := NB161_178.out
          have hnb123 := NB178_162.out
          have hnc123 := NB162_178.out
          have hnb124 := NB178_163.out
          have hnc124 := NB163_178.out
          have hcz125_0 : w115.cell? ⟨gb178, 0, none⟩ = some (.int .i64 0) := (blk_cell BK178.out 0).trans rfl
          have hcz125_1 : w115.cell? ⟨gb178, 1, none⟩ = some (.int .i64 0) := (blk_cell BK178.out 1).trans rfl
          have hcz125_2 : w115.cell? ⟨gb178, 2, none⟩ = some (.bool false) := (blk_cell BK178.out 2).trans rfl
          have hcz125_3 : w115.cell? ⟨gb178, 3, none⟩ = some (.bool false) := (blk_cell BK178.out 3).trans rfl
          have hcz125_4 : w115.cell? ⟨gb178, 4, none⟩ = some (.int .i64 0) := (blk_cell BK178.out 4).trans rfl
          have hfz125_0 := blk_frozen BK178.out 0
          have hfz125_1 := blk_frozen BK178.out 1
          have hfz125_2 := blk_frozen BK178.out 2
          have hfz125_3 := blk_frozen BK178.out 3
          have hfz125_4 := blk_frozen BK178.out 4
          try go_wp2_with (first | ((with_reducible refine gate_callee (f := 29) rfl ?_); refine goesL_ (some 73) rfl rfl Try.func29 (by kernel_rfl) rfl #[.int .i64 t171] rfl (by (try simp only [List.map_toArray, List.map_cons, List.map_nil]); first | done | rfl | (simp only [List.length_drop, List.length_take]; rfl)) ?_; (with_reducible refine (modillionref07_Great.calls t171 t179 _ A109.out).mono ?_); rintro e w' ⟨rfl, ⟨nd, rfl⟩⟩; refine ⟨_, rfl, ?_⟩))
          go_loopg [13, 14] kj88 (fun kq v13 v14 w' => ∃ (x13_4 : Bool) (x14_4 : Int), v13 = .bool x13_4 ∧ v14 = .int .i64 x14_4 ∧ Aside0 (modillionref07_Step.l0 kq t175 x13_4 x14_4 t170 t171 t172 t173 t174 = some (r1, r2, r3, r4, r5, r6, r7)) ∧ Aside0 (kq ≤ kj88) ∧ Aside0 (Kd.R k48 48 w' w.heap.size (fun _ => True) v176 t175) ∧ Aside0 (w'.heap[gb160]? = some (.cells #[.int .i64 a0_0, (.slice A0_1 l0_1.length c0_1)] 24 (0, 0))) ∧ Aside0 (w'.heap[gb161]? = some (.cells #[.string a1_0, .int .i64 a1_1, .int .i64 a1_2] 26 (0, 0))) ∧ Aside0 (w'.heap[gb162]? = some (.cells #[.int .i64 a3_0, .int .i64 a3_1, .bool a3_2, .bool a3_3, .int .i64 a3_4] 28 (0, 0))) ∧ Aside0 (w'.heap[gb163]? = some (.cells #[.int .i64 0, .int .i64 0, .bool false, .bool false, .int .i64 0] 28 (0, 0))) ∧ Aside0 (w'.heap[gb178]? = some (.cells #[.int .i64 t170, .int .i64 t171, .bool t172, .bool t173, .int .i64 t174] 28 (0, 0))) ∧ Aside0 (Below w.heap.size w w'))
          case atStart => exact ⟨(t179), (0), (by first | rfl | (simp; done) | (simp [*]; done)), (by first | rfl | (simp; done) | (simp [*]; done)), H', ⟨Nat.le_refl _⟩, ⟨by (with_reducible repeat (first | apply Kd.R_alloc | apply Kd.R_drewN | apply Kd.R_drew)); exact Kd.R_mono (Kd.R_far (p := ⟨gb178, 4, none⟩) (Kd.R_far (p := ⟨gb178, 3, none⟩) (Kd.R_far (p := ⟨gb178, 2, none⟩) (Kd.R_far (p := ⟨gb178, 1, none⟩) (Kd.R_far (p := ⟨gb178, 0, none⟩) (Kd.R_types HO177.out BK178.out (by decide)) (fun _ hk => hk.2) (.int .i64 t170)) (fun _ hk => hk.2) (.int .i64 t171)) (fun _ hk => hk.2) (.bool t172)) (fun _ hk => hk.2) (.bool t173)) (fun _ hk => hk.2) (.int .i64 t174)) (fun _ hk => trivial)⟩, ⟨kF NB160_178.out BK160.out⟩, ⟨kF NB161_178.out BK161.out⟩, ⟨kF NB162_178.out BK162.out⟩, ⟨kF NB163_178.out BK163.out⟩, ⟨by (with_reducible repeat (first | refine blk_drewN ?_ _ | refine blk_drew ?_ | refine blk_alloc ?_ _)); refine blk_put (cs := #[.int .i64 t170, .int .i64 t171, .bool t172, .bool t173, .int .i64 0]) ?_ 4 _ rfl; refine blk_put (cs := #[.int .i64 t170, .int .i64 t171, .bool t172, .bool false, .int .i64 0]) ?_ 3 _ rfl; refine blk_put (cs := #[.int .i64 t170, .int .i64 t171, .bool false, .bool false, .int .i64 0]) ?_ 2 _ rfl; refine blk_put (cs := #[.int .i64 t170, .int .i64 0, .bool false, .bool false, .int .i64 0]) ?_ 1 _ rfl; refine blk_put (cs := #[.int .i64 0, .int .i64 0, .bool false, .bool false, .int .i64 0]) ?_ 0 _ rfl; exact kA BK178.out⟩, ⟨kB HB.out⟩⟩
          case round =>
           clear H'
           try clear c1
           try clear c2
           try clear p2
           try clear c3
           try clear c12
           try clear c29
           try clear c30
           try clear c31
           try clear c121
           try clear c122
           try clear c123
           try clear c124
           try clear hcz125_0
           try clear hcz125_1
           try clear hcz125_2
           try clear hcz125_3
           try clear hcz125_4
           try clear hfz125_0
           try clear hfz125_1
           try clear hfz125_2
           try clear hfz125_3
           try clear hfz125_4
           obtain ⟨x13_4, x14_4, rfl, rfl, HA, HK4, HO_12, BK160, BK161, BK162, BK163, BK178, HB⟩ := hrel
           cases gk with
           | zero => exact absurd HA.out (by simp [modillionref07_Step.l0])
           | succ k4 =>
            have H := HA.out
            clear HA
            simp only [modillionref07_Step.l0] at H
            by_cases c126 : x14_4 < (t175.length : Int)
            ·rw [if_pos c126] at H
             have c126b0 := decide_eq_true c126
             clear c126
             by_cases c127 : x13_4 = true
             ·subst c127
              have H1 : (modillionref07_Step.l0 k4 t175 true (wrap64 (x14_4 + 1)) t170 t171 t172 t173 t174) = some (r1, r2, r3, r4, r5, r6, r7) := by rw [if_pos rfl] at H; exact H
              clear H
              have H := H1
              clear H1
              have H' := Aside0.mk H
              clear H
              obtain ⟨Ao128, co128, eo128⟩ := Kd.R_slice HO_12.out
              subst eo128
              go_wp2
              go_roundg k4
              case measure => have := HJ4.out; have := HJ71.out; have := HJ88.out; have := HK4.out; omega
              case rel => exact ⟨(true), (wrap64 (x14_4 + 1)), (by first | rfl | (simp; done) | (simp [*]; done)), (by first | rfl | (simp; done) | (simp [*]; done)), H', ⟨by have := HJ4.out; have := HJ71.out; have := HJ88.out; have := HK4.out; omega⟩, ⟨kR HO_12.out⟩, ⟨kA BK160.out⟩, ⟨kA BK161.out⟩, ⟨kA BK162.out⟩, ⟨kA BK163.out⟩, ⟨kA BK178.out⟩, ⟨kB HB.out⟩⟩
             ·replace c127 := Bool.eq_false_iff.mpr c127
              subst c127
              have H1 : (if 0 ≤ x14_4 then ((modillionref07_Great.f ((rd_T48 t175 x14_4).f2)).bind fun t181 => (modillionref07_Step.l0 k4 t175 t181 (wrap64 (x14_4 + 1)) t170 t171 t172 t173 t174)) else (none)) = some (r1, r2, r3, r4, r5, r6, r7) := by rw [if_neg (show ¬ (false = true) by decide)] at H; exact H
              clear H
              have H := H1
              clear H1
              obtain ⟨c129, H⟩ := iteS14 H
              have c129b0 := decide_eq_true c129
              clear c129
              replace H := Option.bind_eq_some_iff.mp H
              obtain ⟨t181, A1300, H⟩ := H
              replace H : (modillionref07_Step.l0 k4 t175 t181 (wrap64 (x14_4 + 1)) t170 t171 t172 t173 t174) = some (r1, r2, r3, r4, r5, r6, r7) := H
              have A130 := Aside0.mk A1300
              clear A1300
              have H' := Aside0.mk H
              clear H
              obtain ⟨Ao131, co131, eo131⟩ := Kd.R_slice HO_12.out
              subst eo131
              have p180 : 0 ≤ (x14_4 : Int) := of_decide_eq_true (by first | (with_reducible assumption) | assumption)
              have q180 : x14_4 < (t175.length : Int) := of_decide_eq_true (by first | (with_reducible assumption) | assumption)
              obtain ⟨ad180, e180, hx180_0, hx180_1, hx180_2⟩ := at_T48 (Kd.R_reads' HO_12.out).2.2 x14_4 p180 q180
              cases e180
              replace p180 := eq_true p180
              replace q180 := eq_true q180
              go_wp2_with (first | (go_at_call 29; (with_reducible refine (modillionref07_Great.calls ((rd_T48 t175 x14_4).f2) t181 _ A130.out).mono ?_); rintro e w' ⟨rfl, ⟨nd, rfl⟩⟩))
              go_roundg k4
              case measure => have := HJ4.out; have := HJ71.out; have := HJ88.out; have := HK4.out; omega
              case rel => exact ⟨(t181), (wrap64 (x14_4 + 1)), (by first | rfl | (simp; done) | (simp [*]; done)), (by first | rfl | (simp; done) | (simp [*]; done)), H', ⟨by have := HJ4.out; have := HJ71.out; have := HJ88.out; have := HK4.out; omega⟩, ⟨kR HO_12.out⟩, ⟨kA BK160.out⟩, ⟨kA BK161.out⟩, ⟨kA BK162.out⟩, ⟨kA BK163.out⟩, ⟨kA BK178.out⟩, ⟨kB HB.out⟩⟩
            ·rw [if_neg c126] at H
             have c126b0 := decide_eq_false c126
             clear c126
             by_cases c132 : x13_4 = true
             ·subst c132
              have H1 : (some (0, 0, false, false, 0, ([] : List (S48)), 71)) = some (r1, r2, r3, r4, r5, r6, r7) := by rw [if_pos rfl] at H; exact H
              clear H
              have H := H1
              clear H1
              simp only [Option.some.injEq, Prod.mk.injEq] at H
              obtain ⟨rfl, rfl, rfl, rfl, rfl, rfl, rfl⟩ := H
              obtain ⟨Ao133, co133, eo133⟩ := Kd.R_slice HO_12.out
              subst eo133
              have hnb134 := NB163_160.out
              have hnc134 := NB160_163.out
              have hnb135 := NB163_161.out
              have hnc135 := NB161_163.out
              have hnb136 := NB163_162.out
              have hnc136 := NB162_163.out
              have hnb137 := NB163_178.out
              have hnc137 := NB178_163.out
              have hcz138_0 : wr.cell? ⟨gb163, 0, none⟩ = some (.int .i64 0) := (blk_cell BK163.out 0).trans rfl
              have hcz138_1 : wr.cell? ⟨gb163, 1, none⟩ = some (.int .i64 0) := (blk_cell BK163.out 1).trans rfl
              have hcz138_2 : wr.cell? ⟨gb163, 2, none⟩ = some (.bool false) := (blk_cell BK163.out 2).trans rfl
              have hcz138_3 : wr.cell? ⟨gb163, 3, none⟩ = some (.bool false) := (blk_cell BK163.out 3).trans rfl
              have hcz138_4 : wr.cell? ⟨gb163, 4, none⟩ = some (.int .i64 0) := (blk_cell BK163.out 4).trans rfl
              have hfz138_0 := blk_frozen BK163.out 0
              have hfz138_1 := blk_frozen BK163.out 1
              have hfz138_2 := blk_frozen BK163.out 2
              have hfz138_3 := blk_frozen BK163.out 3
              have hfz138_4 := blk_frozen BK163.out 4
              go_wp2
              refine bodyPost_ret (results_ctt rfl _ _ gb163 28 #[.int .i64 0, .int .i64 0, .bool false, .bool false, .int .i64 0] (0, 0) _ rfl (by (with_reducible repeat (first | refine blk_drewN ?_ _ | refine blk_drew ?_ | refine blk_alloc ?_ _)); refine blk_put (cs := #[.int .i64 0, .int .i64 0, .bool false, .bool false, .int .i64 0]) ?_ 4 _ rfl; refine blk_put (cs := #[.int .i64 0, .int .i64 0, .bool false, .bool false, .int .i64 0]) ?_ 3 _ rfl; refine blk_put (cs := #[.int .i64 0, .int .i64 0, .bool false, .bool false, .int .i64 0]) ?_ 2 _ rfl; refine blk_put (cs := #[.int .i64 0, .int .i64 0, .bool false, .bool false, .int .i64 0]) ?_ 1 _ rfl; refine blk_put (cs := #[.int .i64 0, .int .i64 0, .bool false, .bool false, .int .i64 0]) ?_ 0 _ rfl; exact kA BK163.out) Try.underlying28 rfl (by kernel_rfl)) rfl ?_
              exact ⟨_, by first | rfl | (simp [errW_none, errW_some] <;> rfl) | (simp [*, errW_none, errW_some] <;> rfl), by first | exact Kd.R_nil _ _ _ _ _ | exact Kd.N_nil _ _ _ _ _ | exact Kd.V_nil _ _ _ _ _ | exact Kd.Q_nil _ _ _ _ _ | exact Kd.S_nil _ _ _ _ _, by exact kB HB.out⟩
             ·replace c132 := Bool.eq_false_iff.mpr c132
              subst c132
              have H1 : (some (t170, t171, t172, t173, t174, t175, 0)) = some (r1, r2, r3, r4, r5, r6, r7) := by rw [if_neg (show ¬ (false = true) by decide)] at H; exact H
              clear H
              have H := H1
              clear H1
              simp only [Option.some.injEq, Prod.mk.injEq] at H
              obtain ⟨rfl, rfl, rfl, rfl, rfl, rfl, rfl⟩ := H
              obtain ⟨Ao139, co139, eo139⟩ := Kd.R_slice HO_12.out
              subst eo139
              have hnb140 := NB178_160.out
              have hnc140 := NB160_178.out
              have hnb141 := NB178_161.out
              have hnc141 := NB161_178.out
              have hnb142 := NB178_162.out
              have hnc142 := NB162_178.out
              have hnb143 := NB178_163.out
              have hnc143 := NB163_178.out
              have hcz144_0 : wr.cell? ⟨gb178, 0, none⟩ = some (.int .i64 t170) := (blk_cell BK178.out 0).trans rfl
              have hcz144_1 : wr.cell? ⟨gb178, 1, none⟩ = some (.int .i64 t171) := (blk_cell BK178.out 1).trans rfl
              have hcz144_2 : wr.cell? ⟨gb178, 2, none⟩ = some (.bool t172) := (blk_cell BK178.out 2).trans rfl
              have hcz144_3 : wr.cell? ⟨gb178, 3, none⟩ = some (.bool t173) := (blk_cell BK178.out 3).trans rfl
              have hcz144_4 : wr.cell? ⟨gb178, 4, none⟩ = some (.int .i64 t174) := (blk_cell BK178.out 4).trans rfl
              have hfz144_0 := blk_frozen BK178.out 0
              have hfz144_1 := blk_frozen BK178.out 1
              have hfz144_2 := blk_frozen BK178.out 2
              have hfz144_3 := blk_frozen BK178.out 3
              have hfz144_4 := blk_frozen BK178.out 4
              have hnb145 := NB163_160.out
              have hnc145 := NB160_163.out
              have hnb146 := NB163_161.out
              have hnc146 := NB161_163.out
              have hnb147 := NB163_162.out
              have hnc147 := NB162_163.out
              have hcz148_0 : wr.cell? ⟨gb163, 0, none⟩ = some (.int .i64 0) := (blk_cell BK163.out 0).trans rfl
              have hcz148_1 : wr.cell? ⟨gb163, 1, none⟩ = some (.int .i64 0) := (blk_cell BK163.out 1).trans rfl
              have hcz148_2 : wr.cell? ⟨gb163, 2, none⟩ = some (.bool false) := (blk_cell BK163.out 2).trans rfl
              have hcz148_3 : wr.cell? ⟨gb163, 3, none⟩ = some (.bool false) := (blk_cell BK163.out 3).trans rfl
              have hcz148_4 : wr.cell? ⟨gb163, 4, none⟩ = some (.int .i64 0) := (blk_cell BK163.out 4).trans rfl
              have hfz148_0 := blk_frozen BK163.out 0
              have hfz148_1 := blk_frozen BK163.out 1
              have hfz148_2 := blk_frozen BK163.out 2
              have hfz148_3 := blk_frozen BK163.out 3
              have hfz148_4 := blk_frozen BK163.out 4
              go_wp2
              refine bodyPost_ret (results_ctt rfl _ _ gb163 28 #[.int .i64 t170, .int .i64 t171, .bool t172, .bool t173, .int .i64 t174] (0, 0) _ rfl (by (with_reducible repeat (first | refine blk_drewN ?_ _ | refine blk_drew ?_ | refine blk_alloc ?_ _)); refine blk_put (cs := #[.int .i64 t170, .int .i64 t171, .bool t172, .bool t173, .int .i64 0]) ?_ 4 _ rfl; refine blk_put (cs := #[.int .i64 t170, .int .i64 t171, .bool t172, .bool false, .int .i64 0]) ?_ 3 _ rfl; refine blk_put (cs := #[.int .i64 t170, .int .i64 t171, .bool false, .bool false, .int .i64 0]) ?_ 2 _ rfl; refine blk_put (cs := #[.int .i64 t170, .int .i64 0, .bool false, .bool false, .int .i64 0]) ?_ 1 _ rfl; refine blk_put (cs := #[.int .i64 0, .int .i64 0, .bool false, .bool false, .int .i64 0]) ?_ 0 _ rfl; exact kA BK163.out) Try.underlying28 rfl (by kernel_rfl)) rfl ?_
              exact ⟨_, by first | rfl | (simp [errW_none, errW_some] <;> rfl) | (simp [*, errW_none, errW_some] <;> rfl), by (with_reducible repeat (first | apply Kd.R_alloc | apply Kd.R_drewN | apply Kd.R_drew)); exact Kd.R_mono (Kd.R_far (p := ⟨gb163, 4, none⟩) (Kd.R_far (p := ⟨gb163, 3, none⟩) (Kd.R_far (p := ⟨gb163, 2, none⟩) (Kd.R_far (p := ⟨gb163, 1, none⟩) (Kd.R_far (p := ⟨gb163, 0, none⟩) (Kd.R_types HO_12.out BK163.out (by decide)) (fun _ hk => hk.2) (.int .i64 t170)) (fun _ hk => hk.2) (.int .i64 t171)) (fun _ hk => hk.2) (.bool t172)) (fun _ hk => hk.2) (.bool t173)) (fun _ hk => hk.2) (.int .i64 t174)) (fun _ hk => trivial), by exact kB HB.out⟩

end Go.Proofs.Ytdmihkffjbapjaa.P
