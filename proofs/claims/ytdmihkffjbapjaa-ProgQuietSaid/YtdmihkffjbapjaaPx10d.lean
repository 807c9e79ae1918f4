/- What these Go functions compute, as Lean functions, and that they do. No condition. -/
import Derived.Test.YtdmihkffjbapjaaPx0
import Derived.Test.YtdmihkffjbapjaaPx1
import Derived.Test.YtdmihkffjbapjaaPx6
import Derived.Test.YtdmihkffjbapjaaPx9
namespace Go.Proofs.Ytdmihkffjbapjaa.P
open Go.RowKit Go.Proofs.YtdmihkffjbapjaaW.PrintWords Go.Proofs.YtdmihkffjbapjaaW.PrintLast Go.Proofs.YtdmihkffjbapjaaW.PrintMore
open List renaming setIfInBounds_toArray → q1_, set_cons_zero → q2_, set_cons_succ → q3_
attribute [local go_sem] max2_int min2_int max_two min_two max_three min_three max_four min_four   -- for this text's walks alone
set_option linter.unusedVariables false
set_option linter.unusedSimpArgs false
set_option linter.unnecessarySimpa false

attribute [local go_sem high] eqA28
/-! ### modillionlaw07_ProgQuiet: function 6 -/
mutual
def modillionlaw07_ProgQuiet.j0 : Nat → Int → Bool → Int → List (S46) → ByteArray → Int → Int → Int → Int → Bool → Bool → Int → Option (Bool)
 | 0, _, _, _, _, _, _, _, _, _, _, _, _ => none
 | k + 1, x2, x22, x129000, x129001, x130000, x130001, x130002, x131000, x131001, x131002, x131003, x131004 => if x22 = true then ((modillionlaw07_awake.f k).bind fun t132 => (some t132)) else ((modillionlaw07_own.f x129000 x129001).bind fun bt133 => ((prog_Step.f bt133.1 bt133.2 x130000 x130001 x130002 x2 x131000 x131001 x131002 x131003 x131004).bind fun bt137 => (if bt137.2.2.2.2.2.2 = 0 then (if x131002 = true then (modillionlaw07_ProgQuiet.j1 k bt137.2.2.2.2.2.1 false x129000 x129001 x130000 x130001 x130002 x131000 x131001 x131002 x131003 x131004 bt137.1 bt137.2.1 bt137.2.2.1 bt137.2.2.2.1 bt137.2.2.2.2.1) else (modillionlaw07_ProgQuiet.j1 k bt137.2.2.2.2.2.1 (!x131003) x129000 x129001 x130000 x130001 x130002 x131000 x131001 x131002 x131003 x131004 bt137.1 bt137.2.1 bt137.2.2.1 bt137.2.2.2.1 bt137.2.2.2.2.1)) else (if (bt137.2.2.2.2.2.1.length : Int) = 0 then (some (bt137.1 == 0 && (bt137.2.1 == 0 && (!bt137.2.2.1 && (!bt137.2.2.2.1 && (bt137.2.2.2.2.1 == 0)))))) else (some false)))))
def modillionlaw07_ProgQuiet.j1 : Nat → List (S48) → Bool → Int → List (S46) → ByteArray → Int → Int → Int → Int → Bool → Bool → Int → Int → Int → Bool → Bool → Int → Option (Bool)
 | 0, _, _, _, _, _, _, _, _, _, _, _, _, _, _, _, _, _ => none
 | k + 1, x10, x51, x129000, x129001, x130000, x130001, x130002, x131000, x131001, x131002, x131003, x131004, x147000, x147001, x147002, x147003, x147004 => if x51 = true then (if (x147000 == x131000 && (x147001 == x131001 && (x147002 == x131002 && (x147003 == x131003 && (x147004 == x131004))))) = true then (some ((x10.length : Int) == 0)) else (some false)) else (modillionlaw07_ProgQuiet.l0 k x10 0 x129000 x129001 x130000 x130001 x130002 x131000 x131001 x131002 x131003 x131004 x147000 x147001 x147002 x147003 x147004)
def modillionlaw07_ProgQuiet.l0 : Nat → List (S48) → Int → Int → List (S46) → ByteArray → Int → Int → Int → Int → Bool → Bool → Int → Int → Int → Bool → Bool → Int → Option (Bool)
 | 0, _, _, _, _, _, _, _, _, _, _, _, _, _, _, _, _, _ => none
 | k + 1, x10, x12, x129000, x129001, x130000, x130001, x130002, x131000, x131001, x131002, x131003, x131004, x147000, x147001, x147002, x147003, x147004 => if x12 < (x10.length : Int) then (modillionlaw07_ProgQuiet.l1 k x10 x12 false 0 x129000 x129001 x130000 x130001 x130002 x131000 x131001 x131002 x131003 x131004 x147000 x147001 x147002 x147003 x147004) else (if x147000 = x131000 then (if x147003 = true then (some false) else (if x147004 = 0 then (if x147002 = true then (some (x130000.toList == ([114, 97, 110, 107] : List UInt8))) else (some true)) else (some false))) else (some false))
def modillionlaw07_ProgQuiet.l1 : Nat → List (S48) → Int → Bool → Int → Int → List (S46) → ByteArray → Int → Int → Int → Int → Bool → Bool → Int → Int → Int → Bool → Bool → Int → Option (Bool)
 | 0, _, _, _, _, _, _, _, _, _, _, _, _, _, _, _, _, _, _, _ => none
 | k + 1, x10, x12, x13, x14, x129000, x129001, x130000, x130001, x130002, x131000, x131001, x131002, x131003, x131004, x147000, x147001, x147002, x147003, x147004 => if x14 < (x129001.length : Int) then (if x13 = true then (modillionlaw07_ProgQuiet.l1 k x10 x12 true (wrap64 (x14 + 1)) x129000 x129001 x130000 x130001 x130002 x131000 x131001 x131002 x131003 x131004 x147000 x147001 x147002 x147003 x147004) else (if 0 ≤ x14 then (if ((rd_T46 x129001 x14).f0) = x131000 then (if 0 ≤ x12 then (if x12 < (x10.length : Int) then (modillionlaw07_ProgQuiet.l1 k x10 x12 (((rd_T46 x129001 x14).f1) == ((rd_T48 x10 x12).f1)) (wrap64 (x14 + 1)) x129000 x129001 x130000 x130001 x130002 x131000 x131001 x131002 x131003 x131004 x147000 x147001 x147002 x147003 x147004) else (none)) else (none)) else (modillionlaw07_ProgQuiet.l1 k x10 x12 false (wrap64 (x14 + 1)) x129000 x129001 x130000 x130001 x130002 x131000 x131001 x131002 x131003 x131004 x147000 x147001 x147002 x147003 x147004)) else (none))) else (if 0 ≤ x12 then (if x12 < (x10.length : Int) then (if ((rd_T48 x10 x12).f0) = x131000 then (if x13 = true then (if x12 > 0 then (if 0 ≤ (wrap64 (x12 - 1)) then (if (wrap64 (x12 - 1)) < (x10.length : Int) then (if ((rd_T48 x10 (wrap64 (x12 - 1))).f1) ≥ ((rd_T48 x10 x12).f1) then (some false) else (modillionlaw07_ProgQuiet.l0 k x10 (wrap64 (x12 + 1)) x129000 x129001 x130000 x130001 x130002 x131000 x131001 x131002 x131003 x131004 x147000 x147001 x147002 x147003 x147004)) else (none)) else (none)) else (modillionlaw07_ProgQuiet.l0 k x10 (wrap64 (x12 + 1)) x129000 x129001 x130000 x130001 x130002 x131000 x131001 x131002 x131003 x131004 x147000 x147001 x147002 x147003 x147004)) else (some false)) else (some false)) else (none)) else (none))
end
def modillionlaw07_ProgQuiet.f (k : Nat) (a0_0 : Int) (l0_1 : List (S46)) (a1_0 : ByteArray) (a1_1 : Int) (a1_2 : Int) (a2 : Int) (a3_0 : Int) (a3_1 : Int) (a3_2 : Bool) (a3_3 : Bool) (a3_4 : Int) : Option (Bool) := (modillionlaw07_awake.f k).bind fun t131 => (if t131 = true then (modillionlaw07_ProgQuiet.j0 k a2 (decide ((l0_1.length : Int) > 100)) a0_0 l0_1 a1_0 a1_1 a1_2 a3_0 a3_1 a3_2 a3_3 a3_4) else (modillionlaw07_ProgQuiet.j0 k a2 true a0_0 l0_1 a1_0 a1_1 a1_2 a3_0 a3_1 a3_2 a3_3 a3_4))
theorem modillionlaw07_ProgQuiet.mono_l : ∀ k, (∀ y0 y1 y2 y3 y4 y5 y6 y7 y8 y9 y10 y11, LeO (modillionlaw07_ProgQuiet.j0 k y0 y1 y2 y3 y4 y5 y6 y7 y8 y9 y10 y11) (modillionlaw07_ProgQuiet.j0 (k + 1) y0 y1 y2 y3 y4 y5 y6 y7 y8 y9 y10 y11)) ∧ (∀ y0 y1 y2 y3 y4 y5 y6 y7 y8 y9 y10 y11 y12 y13 y14 y15 y16, LeO (modillionlaw07_ProgQuiet.j1 k y0 y1 y2 y3 y4 y5 y6 y7 y8 y9 y10 y11 y12 y13 y14 y15 y16) (modillionlaw07_ProgQuiet.j1 (k + 1) y0 y1 y2 y3 y4 y5 y6 y7 y8 y9 y10 y11 y12 y13 y14 y15 y16)) ∧ (∀ y0 y1 y2 y3 y4 y5 y6 y7 y8 y9 y10 y11 y12 y13 y14 y15 y16, LeO (modillionlaw07_ProgQuiet.l0 k y0 y1 y2 y3 y4 y5 y6 y7 y8 y9 y10 y11 y12 y13 y14 y15 y16) (modillionlaw07_ProgQuiet.l0 (k + 1) y0 y1 y2 y3 y4 y5 y6 y7 y8 y9 y10 y11 y12 y13 y14 y15 y16)) ∧ (∀ y0 y1 y2 y3 y4 y5 y6 y7 y8 y9 y10 y11 y12 y13 y14 y15 y16 y17 y18, LeO (modillionlaw07_ProgQuiet.l1 k y0 y1 y2 y3 y4 y5 y6 y7 y8 y9 y10 y11 y12 y13 y14 y15 y16 y17 y18) (modillionlaw07_ProgQuiet.l1 (k + 1) y0 y1 y2 y3 y4 y5 y6 y7 y8 y9 y10 y11 y12 y13 y14 y15 y16 y17 y18))
 | 0 => ⟨fun _ _ _ _ _ _ _ _ _ _ _ _ r h => by simp [modillionlaw07_ProgQuiet.j0] at h, fun _ _ _ _ _ _ _ _ _ _ _ _ _ _ _ _ _ r h => by simp [modillionlaw07_ProgQuiet.j1] at h, fun _ _ _ _ _ _ _ _ _ _ _ _ _ _ _ _ _ r h => by simp [modillionlaw07_ProgQuiet.l0] at h, fun _ _ _ _ _ _ _ _ _ _ _ _ _ _ _ _ _ _ _ r h => by simp [modillionlaw07_ProgQuiet.l1] at h⟩
 | k + 1 => by
  obtain ⟨ih0, ih1, ih2, ih3⟩ := modillionlaw07_ProgQuiet.mono_l k
  refine ⟨?_, ?_, ?_, ?_⟩
  ·intro y0 y1 y2 y3 y4 y5 y6 y7 y8 y9 y10 y11
   unfold modillionlaw07_ProgQuiet.j0
   repeat' first
   | (with_reducible exact ih0 _ _ _ _ _ _ _ _ _ _ _ _)
   | (with_reducible exact ih1 _ _ _ _ _ _ _ _ _ _ _ _ _ _ _ _ _)
   | (with_reducible exact ih2 _ _ _ _ _ _ _ _ _ _ _ _ _ _ _ _ _)
   | (with_reducible exact ih3 _ _ _ _ _ _ _ _ _ _ _ _ _ _ _ _ _ _ _)
   | (with_reducible exact modillionlaw07_awake.mono _)
   | (with_reducible exact LeO.refl _)
   | (with_reducible exact LeO.none _)
   | (with_reducible refine LeO.ite ?_ ?_)
   | (with_reducible refine LeO.bind ?_ (fun _ => ?_))
   | exact ih0 _ _ _ _ _ _ _ _ _ _ _ _
   | exact ih1 _ _ _ _ _ _ _ _ _ _ _ _ _ _ _ _ _
   | exact ih2 _ _ _ _ _ _ _ _ _ _ _ _ _ _ _ _ _
   | exact ih3 _ _ _ _ _ _ _ _ _ _ _ _ _ _ _ _ _ _ _
   | exact modillionlaw07_awake.mono _
   | exact LeO.none _
   | refine LeO.ite ?_ ?_
   | refine LeO.bind ?_ (fun _ => ?_)
  ·intro y0 y1 y2 y3 y4 y5 y6 y7 y8 y9 y10 y11 y12 y13 y14 y15 y16
   unfold modillionlaw07_ProgQuiet.j1
   repeat' first
   | (with_reducible exact ih0 _ _ _ _ _ _ _ _ _ _ _ _)
   | (with_reducible exact ih1 _ _ _ _ _ _ _ _ _ _ _ _ _ _ _ _ _)
   | (with_reducible exact ih2 _ _ _ _ _ _ _ _ _ _ _ _ _ _ _ _ _)
   | (with_reducible exact ih3 _ _ _ _ _ _ _ _ _ _ _ _ _ _ _ _ _ _ _)
   | (with_reducible exact modillionlaw07_awake.mono _)
   | (with_reducible exact LeO.refl _)
   | (with_reducible exact LeO.none _)
   | (with_reducible refine LeO.ite ?_ ?_)
   | (with_reducible refine LeO.bind ?_ (fun _ => ?_))
   | exact ih0 _ _ _ _ _ _ _ _ _ _ _ _
   | exact ih1 _ _ _ _ _ _ _ _ _ _ _ _ _ _ _ _ _
   | exact ih2 _ _ _ _ _ _ _ _ _ _ _ _ _ _ _ _ _
   | exact ih3 _ _ _ _ _ _ _ _ _ _ _ _ _ _ _ _ _ _ _
   | exact modillionlaw07_awake.mono _
   | exact LeO.none _
   | refine LeO.ite ?_ ?_
   | refine LeO.bind ?_ (fun _ => ?_)
  ·intro y0 y1 y2 y3 y4 y5 y6 y7 y8 y9 y10 y11 y12 y13 y14 y15 y16
   unfold modillionlaw07_ProgQuiet.l0
   repeat' first
   | (with_reducible exact ih0 _ _ _ _ _ _ _ _ _ _ _ _)
   | (with_reducible exact ih1 _ _ _ _ _ _ _ _ _ _ _ _ _ _ _ _ _)
   | (with_reducible exact ih2 _ _ _ _ _ _ _ _ _ _ _ _ _ _ _ _ _)
   | (with_reducible exact ih3 _ _ _ _ _ _ _ _ _ _ _ _ _ _ _ _ _ _ _)
   | (with_reducible exact modillionlaw07_awake.mono _)
   | (with_reducible exact LeO.refl _)
   | (with_reducible exact LeO.none _)
   | (with_reducible refine LeO.ite ?_ ?_)
   | (with_reducible refine LeO.bind ?_ (fun _ => ?_))
   | exact ih0 _ _ _ _ _ _ _ _ _ _ _ _
   | exact ih1 _ _ _ _ _ _ _ _ _ _ _ _ _ _ _ _ _
   | exact ih2 _ _ _ _ _ _ _ _ _ _ _ _ _ _ _ _ _
   | exact ih3 _ _ _ _ _ _ _ _ _ _ _ _ _ _ _ _ _ _ _
   | exact modillionlaw07_awake.mono _
   | exact LeO.none _
   | refine LeO.ite ?_ ?_
   | refine LeO.bind ?_ (fun _ => ?_)
  ·intro y0 y1 y2 y3 y4 y5 y6 y7 y8 y9 y10 y11 y12 y13 y14 y15 y16 y17 y18
   unfold modillionlaw07_ProgQuiet.l1
   repeat' first
   | (with_reducible exact ih0 _ _ _ _ _ _ _ _ _ _ _ _)
   | (with_reducible exact ih1 _ _ _ _ _ _ _ _ _ _ _ _ _ _ _ _ _)
   | (with_reducible exact ih2 _ _ _ _ _ _ _ _ _ _ _ _ _ _ _ _ _)
   | (with_reducible exact ih3 _ _ _ _ _ _ _ _ _ _ _ _ _ _ _ _ _ _ _)
   | (with_reducible exact modillionlaw07_awake.mono _)
   | (with_reducible exact LeO.refl _)
   | (with_reducible exact LeO.none _)
   | (with_reducible refine LeO.ite ?_ ?_)
   | (with_reducible refine LeO.bind ?_ (fun _ => ?_))
   | exact ih0 _ _ _ _ _ _ _ _ _ _ _ _
   | exact ih1 _ _ _ _ _ _ _ _ _ _ _ _ _ _ _ _ _
   | exact ih2 _ _ _ _ _ _ _ _ _ _ _ _ _ _ _ _ _
   | exact ih3 _ _ _ _ _ _ _ _ _ _ _ _ _ _ _ _ _ _ _
   | exact modillionlaw07_awake.mono _
   | exact LeO.none _
   | refine LeO.ite ?_ ?_
   | refine LeO.bind ?_ (fun _ => ?_)
theorem modillionlaw07_ProgQuiet.mono : ∀ a0 a1 a2 a3 a4 a5 a6 a7 a8 a9 a10 k, LeO (modillionlaw07_ProgQuiet.f k a0 a1 a2 a3 a4 a5 a6 a7 a8 a9 a10) (modillionlaw07_ProgQuiet.f (k + 1) a0 a1 a2 a3 a4 a5 a6 a7 a8 a9 a10) := by
 intro a0 a1 a2 a3 a4 a5 a6 a7 a8 a9 a10 k
 obtain ⟨ih0, ih1, ih2, ih3⟩ := modillionlaw07_ProgQuiet.mono_l k
 unfold modillionlaw07_ProgQuiet.f
 repeat' first
   | (with_reducible exact ih0 _ _ _ _ _ _ _ _ _ _ _ _)
   | (with_reducible exact ih1 _ _ _ _ _ _ _ _ _ _ _ _ _ _ _ _ _)
   | (with_reducible exact ih2 _ _ _ _ _ _ _ _ _ _ _ _ _ _ _ _ _)
   | (with_reducible exact ih3 _ _ _ _ _ _ _ _ _ _ _ _ _ _ _ _ _ _ _)
   | (with_reducible exact modillionlaw07_awake.mono _)
   | (with_reducible exact LeO.refl _)
   | (with_reducible exact LeO.none _)
   | (with_reducible refine LeO.ite ?_ ?_)
   | (with_reducible refine LeO.bind ?_ (fun _ => ?_))
   | exact ih0 _ _ _ _ _ _ _ _ _ _ _ _
   | exact ih1 _ _ _ _ _ _ _ _ _ _ _ _ _ _ _ _ _
   | exact ih2 _ _ _ _ _ _ _ _ _ _ _ _ _ _ _ _ _
   | exact ih3 _ _ _ _ _ _ _ _ _ _ _ _ _ _ _ _ _ _ _
   | exact modillionlaw07_awake.mono _
   | exact LeO.none _
   | refine LeO.ite ?_ ?_
   | refine LeO.bind ?_ (fun _ => ?_)
def modillionlaw07_ProgQuiet.T3 : Bool × List (List Nat × List Nat) := (true, [([], []), ([0], [0]), ([], []), ([], []), ([], []), ([1, 2, 3, 4, 1], [1, 2, 3, 4]), ([5], [5]), ([6], [6]), ([6], [6]), ([6], [6]), ([], []), ([10, 7, 5, 0, 1, 2, 3, 4, 5, 6, 7, 10], [7, 10]), ([8, 11, 0, 1, 2, 3, 4, 5, 6, 7, 8, 10, 11], [8]), ([9, 12, 0, 1, 2, 3, 4, 5, 6, 7, 8, 9, 10, 11, 12], [9])])
def modillionlaw07_ProgQuiet.B3 : List Nat := [0, 1, 0, 0, 0, 31, 63, 127, 127, 127, 0, 1279, 3583, 8191]
theorem modillionlaw07_ProgQuiet.tab3 : rtab .any (opsOf Try.f6 3) = modillionlaw07_ProgQuiet.T3 := by kernel_rfl
theorem modillionlaw07_ProgQuiet.bits3 : waitsOk modillionlaw07_ProgQuiet.T3.2 modillionlaw07_ProgQuiet.B3 = true := by kernel_rfl
def modillionlaw07_ProgQuiet.T15 : Bool × List (List Nat × List Nat) := (true, [([], []), ([0], [0]), ([1], [1]), ([2, 1], [1, 2]), ([1], [1]), ([3, 4, 1], [1, 3, 4]), ([5, 1], [1, 5]), ([6, 1], [1, 6]), ([1], [1]), ([8, 1], [1, 8]), ([7, 9, 1], [1, 7, 9]), ([10, 1, 1], [1, 10]), ([11], [11]), ([12, 11], [11, 12]), ([11], [11]), ([13, 14, 11], [11, 13, 14]), ([15, 11], [11, 15]), ([16, 11], [11, 16]), ([11], [11]), ([11], [11]), ([18, 19, 11], [11, 18, 19]), ([20, 11], [11, 20]), ([21, 11], [11, 21]), ([17, 22, 11], [11, 17, 22]), ([11, 23, 1], [1, 11, 23]), ([1, 24], [1, 24]), ([25, 11, 0, 1, 2, 3, 4, 5, 6, 7, 8, 9, 10, 11, 12, 13, 14, 15, 16, 17, 18, 19, 20, 21, 22, 23, 24, 25], [0, 25])])
def modillionlaw07_ProgQuiet.B15 : List Nat := [0, 1, 3, 7, 3, 31, 63, 127, 3, 259, 1023, 2047, 4095, 8191, 4095, 32767, 65535, 131071, 4095, 4095, 790527, 1839103, 3936255, 8388607, 16777215, 33554431, 67108863]
theorem modillionlaw07_ProgQuiet.tab15 : rtab .any (opsOf Try.f6 15) = modillionlaw07_ProgQuiet.T15 := by kernel_rfl
theorem modillionlaw07_ProgQuiet.bits15 : waitsOk modillionlaw07_ProgQuiet.T15.2 modillionlaw07_ProgQuiet.B15 = true := by kernel_rfl
def modillionlaw07_ProgQuiet.T16 : Bool × List (List Nat × List Nat) := (true, [([], []), ([], []), ([0, 1], [0, 1]), ([2], [2]), ([3], [3]), ([], []), ([5], [5]), ([4, 6], [4, 6]), ([7], [7]), ([8], [8]), ([9, 8], [8, 9]), ([8, 10], [8, 10]), ([11, 8], [11]), ([12], [12]), ([13, 12], [12, 13]), ([14, 12, 12], [12, 14]), ([15], [15]), ([15], [15]), ([17, 15], [15, 17]), ([16, 18, 15], [15, 16, 18]), ([19, 15], [15, 19]), ([20, 15], [15, 20]), ([15], [15]), ([15], [15]), ([22, 23, 15], [15, 22, 23]), ([24, 15], [15, 24]), ([25, 15], [15, 25]), ([21, 26, 15], [15, 21, 26]), ([15, 27, 12], [12, 15, 27]), ([12, 28], [12, 28])])
def modillionlaw07_ProgQuiet.B16 : List Nat := [0, 0, 3, 7, 15, 0, 32, 127, 255, 511, 1023, 2047, 4095, 8191, 16383, 32767, 65535, 65535, 196607, 524287, 1048575, 2097151, 65535, 65535, 12648447, 29425663, 62980095, 134217727, 268435455, 536870911]
theorem modillionlaw07_ProgQuiet.tab16 : rtab .any (opsOf Try.f6 16) = modillionlaw07_ProgQuiet.T16 := by kernel_rfl
theorem modillionlaw07_ProgQuiet.bits16 : waitsOk modillionlaw07_ProgQuiet.T16.2 modillionlaw07_ProgQuiet.B16 = true := by kernel_rfl
end Go.Proofs.Ytdmihkffjbapjaa.P
