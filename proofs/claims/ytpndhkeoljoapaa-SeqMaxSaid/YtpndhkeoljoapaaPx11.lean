/- What these Go functions compute, as Lean functions, and that they do. No condition. -/
import Derived.Test.YtpndhkeoljoapaaPx0
import Derived.Test.YtpndhkeoljoapaaPx2
import Derived.Test.YtpndhkeoljoapaaPx9
import Derived.Test.YtpndhkeoljoapaaPx10
namespace Go.Proofs.Ytpndhkeoljoapaa.P
open Go.RowKit Go.Proofs.YtpndhkeoljoapaaW.PrintWords Go.Proofs.YtpndhkeoljoapaaW.PrintLast Go.Proofs.YtpndhkeoljoapaaW.PrintMore
open Bool renaming true → Y, false → Z
open List renaming setIfInBounds_toArray → q1_, set_cons_zero → q2_, set_cons_succ → q3_
attribute [local go_sem] max2_int min2_int max_two min_two max_three min_three max_four min_four   -- for this text's walks alone
set_option linter.unusedVariables false
set_option linter.unusedSimpArgs false
set_option linter.unnecessarySimpa false
theorem iteS11 {α : Type} {c : Prop} [Decidable c] {a : Option α} {r : α} (h : (if c then a else none) = some r) : c ∧ a = some r := by
 by_cases hc : c
 ·rw [if_pos hc] at h; exact ⟨hc, h⟩
 ·rw [if_neg hc] at h; cases h

/-! ### modillionlaw09_SeqMax: function 9 -/
mutual
def modillionlaw09_SeqMax.j0 : Nat → Bool → Int → List (S45) → Option (Bool)
 | 0, _, _, _ => none
 | k + 1, x25, x169000, x169001 => if x25 = true then ((modillionlaw09_awake.f k).bind fun t170 => (some t170)) else ((modillionlaw09_Own.f x169000 x169001).bind fun bt172 => ((seq_Start.f k bt172.1 bt172.2 (⟨#[109, 97, 120]⟩ : ByteArray) 0 20).bind fun bt176 => ((modillionlaw09_Own.f x169000 x169001).bind fun bt180 => ((seq_Run.f k bt180.1 bt180.2 (⟨#[109, 97, 120]⟩ : ByteArray) 0 20).bind fun bt184 => (if bt176.2 = 0 then (modillionlaw09_SeqMax.j1 k bt176.1 bt184.1 (bt184.2.2 != 0) x169000 x169001) else (modillionlaw09_SeqMax.j1 k bt176.1 bt184.1 true x169000 x169001))))))
def modillionlaw09_SeqMax.j1 : Nat → List (S50) → List Int → Bool → Int → List (S45) → Option (Bool)
 | 0, _, _, _, _, _ => none
 | k + 1, x4, x6, x48, x169000, x169001 => if x48 = true then (some ((x6.length : Int) == 0)) else (modillionlaw09_SeqMax.l0 k x4 x6 0 x169000 x169001)
def modillionlaw09_SeqMax.l0 : Nat → List (S50) → List Int → Int → Int → List (S45) → Option (Bool)
 | 0, _, _, _, _, _ => none
 | k + 1, x4, x6, x9, x169000, x169001 => if x9 < (x169001.length : Int) then (if 0 ≤ x9 then (if 0 ≤ ((rd_T45 x169001 x9).f1) then (if ((rd_T45 x169001 x9).f1) < (x6.length : Int) then (if 0 ≤ ((rd_T45 x169001 x9).f0) then (if ((rd_T45 x169001 x9).f0) < (x6.length : Int) then (if (rd x6 ((rd_T45 x169001 x9).f1)) < (rd x6 ((rd_T45 x169001 x9).f0)) then (some false) else (modillionlaw09_SeqMax.l0 k x4 x6 (wrap64 (x9 + 1)) x169000 x169001)) else (none)) else (none)) else (none)) else (none)) else (none)) else (modillionlaw09_SeqMax.l1 k x4 x6 0)
def modillionlaw09_SeqMax.l1 : Nat → List (S50) → List Int → Int → Option (Bool)
 | 0, _, _, _ => none
 | k + 1, x4, x6, x10 => if x10 < (x6.length : Int) then (modillionlaw09_SeqMax.l2 k x4 x6 x10 false 0) else (some true)
def modillionlaw09_SeqMax.l2 : Nat → List (S50) → List Int → Int → Bool → Int → Option (Bool)
 | 0, _, _, _, _, _ => none
 | k + 1, x4, x6, x10, x11, x12 => if x12 < (x4.length : Int) then (if x11 = true then (modillionlaw09_SeqMax.l2 k x4 x6 x10 true (wrap64 (x12 + 1))) else (if 0 ≤ x12 then (if 0 ≤ x10 then (if x10 < (x6.length : Int) then (modillionlaw09_SeqMax.l2 k x4 x6 x10 (((rd_T50 x4 x12).f1) == (rd x6 x10)) (wrap64 (x12 + 1))) else (none)) else (none)) else (none))) else (if x11 = true then (if 0 ≤ x10 then (if x10 < (x6.length : Int) then (if x10 < (x4.length : Int) then (if (rd x6 x10) < ((rd_T50 x4 x10).f1) then (some false) else (modillionlaw09_SeqMax.l1 k x4 x6 (wrap64 (x10 + 1)))) else (none)) else (none)) else (none)) else (some false))
end
def modillionlaw09_SeqMax.f (k : Nat) (a0_0 : Int) (l0_1 : List (S45)) : Option (Bool) := (modillionlaw09_awake.f k).bind fun t169 => (if t169 = true then (if (l0_1.length : Int) > 60 then (modillionlaw09_SeqMax.j0 k true a0_0 l0_1) else (modillionlaw09_SeqMax.j0 k (decide (a0_0 > 12)) a0_0 l0_1)) else (modillionlaw09_SeqMax.j0 k true a0_0 l0_1))
theorem modillionlaw09_SeqMax.mono_l : ∀ k, (∀ y0 y1 y2, LeO (modillionlaw09_SeqMax.j0 k y0 y1 y2) (modillionlaw09_SeqMax.j0 (k + 1) y0 y1 y2)) ∧ (∀ y0 y1 y2 y3 y4, LeO (modillionlaw09_SeqMax.j1 k y0 y1 y2 y3 y4) (modillionlaw09_SeqMax.j1 (k + 1) y0 y1 y2 y3 y4)) ∧ (∀ y0 y1 y2 y3 y4, LeO (modillionlaw09_SeqMax.l0 k y0 y1 y2 y3 y4) (modillionlaw09_SeqMax.l0 (k + 1) y0 y1 y2 y3 y4)) ∧ (∀ y0 y1 y2, LeO (modillionlaw09_SeqMax.l1 k y0 y1 y2) (modillionlaw09_SeqMax.l1 (k + 1) y0 y1 y2)) ∧ (∀ y0 y1 y2 y3 y4, LeO (modillionlaw09_SeqMax.l2 k y0 y1 y2 y3 y4) (modillionlaw09_SeqMax.l2 (k + 1) y0 y1 y2 y3 y4))
 | 0 => ⟨fun _ _ _ r h => by simp [modillionlaw09_SeqMax.j0] at h, fun _ _ _ _ _ r h => by simp [modillionlaw09_SeqMax.j1] at h, fun _ _ _ _ _ r h => by simp [modillionlaw09_SeqMax.l0] at h, fun _ _ _ r h => by simp [modillionlaw09_SeqMax.l1] at h, fun _ _ _ _ _ r h => by simp [modillionlaw09_SeqMax.l2] at h⟩
 | k + 1 => by
  obtain ⟨ih0, ih1, ih2, ih3, ih4⟩ := modillionlaw09_SeqMax.mono_l k
  refine ⟨?_, ?_, ?_, ?_, ?_⟩
  ·intro y0 y1 y2
   unfold modillionlaw09_SeqMax.j0
   repeat' first
   | (with_reducible exact ih0 _ _ _)
   | (with_reducible exact ih1 _ _ _ _ _)
   | (with_reducible exact ih2 _ _ _ _ _)
   | (with_reducible exact ih3 _ _ _)
   | (with_reducible exact ih4 _ _ _ _ _)
   | (with_reducible exact modillionlaw09_awake.mono _)
   | (with_reducible exact seq_Run.mono _ _ _ _ _ _)
   | (with_reducible exact seq_Start.mono _ _ _ _ _ _)
   | (with_reducible exact LeO.refl _)
   | (with_reducible exact LeO.none _)
   | (with_reducible refine LeO.ite ?_ ?_)
   | (with_reducible refine LeO.bind ?_ (fun _ => ?_))
   | exact ih0 _ _ _
   | exact ih1 _ _ _ _ _
   | exact ih2 _ _ _ _ _
   | exact ih3 _ _ _
   | exact ih4 _ _ _ _ _
   | exact modillionlaw09_awake.mono _
   | exact seq_Run.mono _ _ _ _ _ _
   | exact seq_Start.mono _ _ _ _ _ _
   | exact LeO.none _
   | refine LeO.ite ?_ ?_
   | refine LeO.bind ?_ (fun _ => ?_)
  ·intro y0 y1 y2 y3 y4
   unfold modillionlaw09_SeqMax.j1
   repeat' first
   | (with_reducible exact ih0 _ _ _)
   | (with_reducible exact ih1 _ _ _ _ _)
   | (with_reducible exact ih2 _ _ _ _ _)
   | (with_reducible exact ih3 _ _ _)
   | (with_reducible exact ih4 _ _ _ _ _)
   | (with_reducible exact modillionlaw09_awake.mono _)
   | (with_reducible exact seq_Run.mono _ _ _ _ _ _)
   | (with_reducible exact seq_Start.mono _ _ _ _ _ _)
   | (with_reducible exact LeO.refl _)
   | (with_reducible exact LeO.none _)
   | (with_reducible refine LeO.ite ?_ ?_)
   | (with_reducible refine LeO.bind ?_ (fun _ => ?_))
   | exact ih0 _ _ _
   | exact ih1 _ _ _ _ _
   | exact ih2 _ _ _ _ _
   | exact ih3 _ _ _
   | exact ih4 _ _ _ _ _
   | exact modillionlaw09_awake.mono _
   | exact seq_Run.mono _ _ _ _ _ _
   | exact seq_Start.mono _ _ _ _ _ _
   | exact LeO.none _
   | refine LeO.ite ?_ ?_
   | refine LeO.bind ?_ (fun _ => ?_)
  ·intro y0 y1 y2 y3 y4
   unfold modillionlaw09_SeqMax.l0
   repeat' first
   | (with_reducible exact ih0 _ _ _)
   | (with_reducible exact ih1 _ _ _ _ _)
   | (with_reducible exact ih2 _ _ _ _ _)
   | (with_reducible exact ih3 _ _ _)
   | (with_reducible exact ih4 _ _ _ _ _)
   | (with_reducible exact modillionlaw09_awake.mono _)
   | (with_reducible exact seq_Run.mono _ _ _ _ _ _)
   | (with_reducible exact seq_Start.mono _ _ _ _ _ _)
   | (with_reducible exact LeO.refl _)
   | (with_reducible exact LeO.none _)
   | (with_reducible refine LeO.ite ?_ ?_)
   | (with_reducible refine LeO.bind ?_ (fun _ => ?_))
   | exact ih0 _ _ _
   | exact ih1 _ _ _ _ _
   | exact ih2 _ _ _ _ _
   | exact ih3 _ _ _
   | exact ih4 _ _ _ _ _
   | exact modillionlaw09_awake.mono _
   | exact seq_Run.mono _ _ _ _ _ _
   | exact seq_Start.mono _ _ _ _ _ _
   | exact LeO.none _
   | refine LeO.ite ?_ ?_
   | refine LeO.bind ?_ (fun _ => ?_)
  ·intro y0 y1 y2
   unfold modillionlaw09_SeqMax.l1
   repeat' first
   | (with_reducible exact ih0 _ _ _)
   | (with_reducible exact ih1 _ _ _ _ _)
   | (with_reducible exact ih2 _ _ _ _ _)
   | (with_reducible exact ih3 _ _ _)
   | (with_reducible exact ih4 _ _ _ _ _)
   | (with_reducible exact modillionlaw09_awake.mono _)
   | (with_reducible exact seq_Run.mono _ _ _ _ _ _)
   | (with_reducible exact seq_Start.mono _ _ _ _ _ _)
   | (with_reducible exact LeO.refl _)
   | (with_reducible exact LeO.none _)
   | (with_reducible refine LeO.ite ?_ ?_)
   | (with_reducible refine LeO.bind ?_ (fun _ => ?_))
   | exact ih0 _ _ _
   | exact ih1 _ _ _ _ _
   | exact ih2 _ _ _ _ _
   | exact ih3 _ _ _
   | exact ih4 _ _ _ _ _
   | exact modillionlaw09_awake.mono _
   | exact seq_Run.mono _ _ _ _ _ _
   | exact seq_Start.mono _ _ _ _ _ _
   | exact LeO.none _
   | refine LeO.ite ?_ ?_
   | refine LeO.bind ?_ (fun _ => ?_)
  ·intro y0 y1 y2 y3 y4
   unfold modillionlaw09_SeqMax.l2
   repeat' first
   | (with_reducible exact ih0 _ _ _)
   | (with_reducible exact ih1 _ _ _ _ _)
   | (with_reducible exact ih2 _ _ _ _ _)
   | (with_reducible exact ih3 _ _ _)
   | (with_reducible exact ih4 _ _ _ _ _)
   | (with_reducible exact modillionlaw09_awake.mono _)
   | (with_reducible exact seq_Run.mono _ _ _ _ _ _)
   | (with_reducible exact seq_Start.mono _ _ _ _ _ _)
   | (with_reducible exact LeO.refl _)
   | (with_reducible exact LeO.none _)
   | (with_reducible refine LeO.ite ?_ ?_)
   | (with_reducible refine LeO.bind ?_ (fun _ => ?_))
   | exact ih0 _ _ _
   | exact ih1 _ _ _ _ _
   | exact ih2 _ _ _ _ _
   | exact ih3 _ _ _
   | exact ih4 _ _ _ _ _
   | exact modillionlaw09_awake.mono _
   | exact seq_Run.mono _ _ _ _ _ _
   | exact seq_Start.mono _ _ _ _ _ _
   | exact LeO.none _
   | refine LeO.ite ?_ ?_
   | refine LeO.bind ?_ (fun _ => ?_)
theorem modillionlaw09_SeqMax.mono : ∀ a0 a1 k, LeO (modillionlaw09_SeqMax.f k a0 a1) (modillionlaw09_SeqMax.f (k + 1) a0 a1) := by
 intro a0 a1 k
 obtain ⟨ih0, ih1, ih2, ih3, ih4⟩ := modillionlaw09_SeqMax.mono_l k
 unfold modillionlaw09_SeqMax.f
 repeat' first
   | (with_reducible exact ih0 _ _ _)
   | (with_reducible exact ih1 _ _ _ _ _)
   | (with_reducible exact ih2 _ _ _ _ _)
   | (with_reducible exact ih3 _ _ _)
   | (with_reducible exact ih4 _ _ _ _ _)
   | (with_reducible exact modillionlaw09_awake.mono _)
   | (with_reducible exact seq_Run.mono _ _ _ _ _ _)
   | (with_reducible exact seq_Start.mono _ _ _ _ _ _)
   | (with_reducible exact LeO.refl _)
   | (with_reducible exact LeO.none _)
   | (with_reducible refine LeO.ite ?_ ?_)
   | (with_reducible refine LeO.bind ?_ (fun _ => ?_))
   | exact ih0 _ _ _
   | exact ih1 _ _ _ _ _
   | exact ih2 _ _ _ _ _
   | exact ih3 _ _ _
   | exact ih4 _ _ _ _ _
   | exact modillionlaw09_awake.mono _
   | exact seq_Run.mono _ _ _ _ _ _
   | exact seq_Start.mono _ _ _ _ _ _
   | exact LeO.none _
   | refine LeO.ite ?_ ?_
   | refine LeO.bind ?_ (fun _ => ?_)
def modillionlaw09_SeqMax.T4 : Bool × List (List Nat × List Nat) := (true, [([], []), ([0], [0]), ([], []), ([1, 2, 1], [1, 2]), ([3], [3]), ([4], [4]), ([4], [4]), ([5, 3, 0, 1, 2, 3, 4, 5], [5]), ([6, 7, 0, 1, 2, 3, 4, 5, 6, 7], [6])])
def modillionlaw09_SeqMax.B4 : List Nat := [0, 1, 0, 7, 15, 31, 31, 63, 255]
theorem modillionlaw09_SeqMax.tab4 : rtab .any (opsOf Try.f9 4) = modillionlaw09_SeqMax.T4 := by kernel_rfl
theorem modillionlaw09_SeqMax.bits4 : waitsOk modillionlaw09_SeqMax.T4.2 modillionlaw09_SeqMax.B4 = true := by kernel_rfl
def modillionlaw09_SeqMax.T5 : Bool × List (List Nat × List Nat) := (true, [([], []), ([0], [0]), ([], []), ([1, 2, 1], [1, 2]), ([3], [3]), ([4], [4]), ([4], [4]), ([4], [4]), ([5, 3, 0, 1, 2, 3, 4, 5], [5]), ([6, 8, 0, 1, 2, 3, 4, 5, 6, 8], [6]), ([7, 9, 0, 1, 2, 3, 4, 5, 6, 7, 8, 9], [7])])
def modillionlaw09_SeqMax.B5 : List Nat := [0, 1, 0, 7, 15, 31, 31, 31, 63, 383, 1023]
theorem modillionlaw09_SeqMax.tab5 : rtab .any (opsOf Try.f9 5) = modillionlaw09_SeqMax.T5 := by kernel_rfl
theorem modillionlaw09_SeqMax.bits5 : waitsOk modillionlaw09_SeqMax.T5.2 modillionlaw09_SeqMax.B5 = true := by kernel_rfl
def modillionlaw09_SeqMax.T11 : Bool × List (List Nat × List Nat) := (true, [([], []), ([], []), ([1], [1]), ([], []), ([2, 3], [2, 3]), ([4], [4]), ([5], [5]), ([0, 6], [0, 6]), ([7], [7]), ([], []), ([], []), ([10], [10]), ([], []), ([11, 12], [11, 12]), ([13], [13]), ([14], [14]), ([9, 15], [9, 15]), ([16], [16]), ([8, 17], [8, 17])])
def modillionlaw09_SeqMax.B11 : List Nat := [0, 0, 2, 0, 14, 30, 62, 127, 255, 0, 0, 1024, 0, 7168, 15360, 31744, 65024, 130560, 262143]
theorem modillionlaw09_SeqMax.tab11 : rtab .any (opsOf Try.f9 11) = modillionlaw09_SeqMax.T11 := by kernel_rfl
theorem modillionlaw09_SeqMax.bits11 : waitsOk modillionlaw09_SeqMax.T11.2 modillionlaw09_SeqMax.B11 = true := by kernel_rfl
def modillionlaw09_SeqMax.T20 : Bool × List (List Nat × List Nat) := (true, [([], []), ([0], [0]), ([1], [1]), ([1], [1]), ([2, 3, 1], [1, 2, 3]), ([4, 1], [1, 4]), ([5, 1], [1, 5]), ([1], [1]), ([1], [1]), ([7, 8, 1], [1, 7, 8]), ([9, 1], [1, 9]), ([6, 10, 1], [1, 6, 10]), ([1, 11], [1, 11]), ([12, 1, 0, 1, 2, 3, 4, 5, 6, 7, 8, 9, 10, 11, 12], [0, 12])])
def modillionlaw09_SeqMax.B20 : List Nat := [0, 1, 3, 3, 15, 31, 63, 3, 3, 387, 899, 2047, 4095, 8191]
theorem modillionlaw09_SeqMax.tab20 : rtab .any (opsOf Try.f9 20) = modillionlaw09_SeqMax.T20 := by kernel_rfl
theorem modillionlaw09_SeqMax.bits20 : waitsOk modillionlaw09_SeqMax.T20.2 modillionlaw09_SeqMax.B20 = true := by kernel_rfl
def modillionlaw09_SeqMax.T21 : Bool × List (List Nat × List Nat) := (true, [([], []), ([0], [0]), ([1], [1]), ([2], [2]), ([2], [2]), ([3, 4, 2], [2, 3, 4]), ([5, 2], [2, 5]), ([2], [2]), ([2], [2]), ([7, 8, 2], [2, 7, 8]), ([9, 2], [2, 9]), ([10, 2], [2, 10]), ([6, 11, 2], [2, 6, 11]), ([2, 12], [2, 12])])
def modillionlaw09_SeqMax.B21 : List Nat := [0, 1, 3, 7, 7, 31, 63, 7, 7, 391, 903, 1927, 4095, 8191]
theorem modillionlaw09_SeqMax.tab21 : rtab .any (opsOf Try.f9 21) = modillionlaw09_SeqMax.T21 := by kernel_rfl
theorem modillionlaw09_SeqMax.bits21 : waitsOk modillionlaw09_SeqMax.T21.2 modillionlaw09_SeqMax.B21 = true := by kernel_rfl
set_option maxHeartbeats 8000000 in
set_option maxRecDepth 100000 in
theorem modillionlaw09_SeqMax.calls (k : Nat) (a0_0 : Int) (A0_1 : Option Addr) (c0_1 : Nat) (l0_1 : List (S45)) (r : Bool) (w : World) (hr0_1 : Kd.C k45 w A0_1 l0_1.length l0_1) (hc0_1 : l0_1.length ≤ c0_1) (h : modillionlaw09_SeqMax.f k a0_0 l0_1 = some r) :
  Calls Try.prog 9 #[.agg #[.int .i64 a0_0, .slice A0_1 l0_1.length c0_1]] w fun e w' => e = .returned (.bool r) ∧ Below w.heap.size w w' := by
 have hu24 := Try.underlying24
 have hu26 := Try.underlying26
 have HR0_1 := Aside0.mk hr0_1
 have HC0_1 := Aside0.mk hc0_1
 clear hr0_1 hc0_1
 have HB := Aside0.mk (Below.refl w.heap.size w)
 have H : ((modillionlaw09_awake.f k).bind fun t169 => (if t169 = true then (if (l0_1.length : Int) > 60 then (modillionlaw09_SeqMax.j0 k true a0_0 l0_1) else (modillionlaw09_SeqMax.j0 k (decide (a0_0 > 12)) a0_0 l0_1)) else (modillionlaw09_SeqMax.j0 k true a0_0 l0_1))) = some r := h
 clear h
 have HC2 := Aside0.mk H
 clear H
 go_enter Try.func9, Try.ntmps9
 go_upto_region 1 with (first | ((with_reducible refine gate_dst (N := 1) rfl ?_); (try (refine gate_guard (by rfl) ?_; dsimp only)); refine box_event ?hg (N := 1) ?hd (cs := #[.int .i64 a0_0, .slice A0_1 l0_1.length c0_1]) (t := 24) ?hr ?_; (case hd => rfl); (case hg => rfl); (case hr => first | (go_simp; done) | (go_simp; rfl)); intro gb168 hg w3 hbox hb; have n0_ := Aside0.mk (below_step (kB HB.out) hb); have n1_ := Aside0.mk (hbox); have n2_ := Aside0.mk ((by rw [hg]; exact (below_size (kB HB.out)) : w.heap.size ≤ gb168)); have n3_ := Aside0.mk ((by rw [hg]; exact (below_size (kB HB.out)) : w.heap.size ≤ gb168)); clear HB; have HB := n0_; have BK168 := n1_; have GW168 := n2_; have GE168 := n3_; clear n0_ n1_ n2_ n3_; clear hb hbox hg))
 (try simp only [Act.put, q1_, q2_, q3_])
 go_cut [25] (fun v25 wc => ∃ (kq : Nat) (x25_1 : Bool), v25 = .bool x25_1 ∧ Aside0 (modillionlaw09_SeqMax.j0 kq x25_1 a0_0 l0_1 = some r) ∧ Aside0 (kq ≤ k) ∧ Aside0 (wc.heap[gb168]? = some (.cells #[.int .i64 a0_0, (.slice A0_1 l0_1.length c0_1)] 24 (0, 0))) ∧ Aside0 (Below w.heap.size w wc))
 case first =>
  have H := HC2.out
  clear HC2
  replace H := Option.bind_eq_some_iff.mp H
  obtain ⟨t169, A40, H⟩ := H
  replace H : (if t169 = true then (if (l0_1.length : Int) > 60 then (modillionlaw09_SeqMax.j0 k true a0_0 l0_1) else (modillionlaw09_SeqMax.j0 k (decide (a0_0 > 12)) a0_0 l0_1)) else (modillionlaw09_SeqMax.j0 k true a0_0 l0_1)) = some r := H
  have A4 := Aside0.mk A40
  clear A40
  by_cases c5 : t169 = true
  ·subst c5
   have H1 : (if (l0_1.length : Int) > 60 then (modillionlaw09_SeqMax.j0 k true a0_0 l0_1) else (modillionlaw09_SeqMax.j0 k (decide (a0_0 > 12)) a0_0 l0_1)) = some r := by rw [if_pos rfl] at H; exact H
   clear H
   have H := H1
   clear H1
   by_cases c6 : (l0_1.length : Int) > 60
   ·rw [if_pos c6] at H
    have c6b0 : decide (60 < (l0_1.length : Int)) = true := decide_eq_true c6
    have c6b1 : decide (60 < l0_1.length) = true := decide_eq_true (by omega)
    clear c6
    (first | rw [c6b0] | (simp only [i64_w, i32_w]; rw [c6b0]) | skip)
    have H' := Aside0.mk H
    clear H
    go_wp2_with (first | ((with_reducible refine gate_callee (f := 11) rfl ?_); refine goesL_ (some 13) rfl rfl Try.func11 (by kernel_rfl) rfl #[] rfl (by (try simp only [List.map_toArray, List.map_cons, List.map_nil]); first | done | rfl | (simp only [List.length_drop, List.length_take]; rfl)) ?_; (with_reducible refine (modillionlaw09_awake.calls k  true _ A4.out).mono ?_); rintro e w7 ⟨rfl, hb⟩; refine ⟨_, rfl, ?_⟩; have n0_ := Aside0.mk (blk_below (g := gb168) (o := .cells #[.int .i64 a0_0, .slice A0_1 l0_1.length c0_1] 24 (0, 0)) (kA BK168.out) hb); have n1_ := Aside0.mk (below_step (kB HB.out) hb); clear BK168; clear HB; have BK168 := n0_; have HB := n1_; clear n0_ n1_; (try clear hb); (try clear hb2); (try clear hk); (try clear hi); have hcz8_0 : w7.cell? ⟨gb168, 0, none⟩ = some (.int .i64 a0_0) := (blk_cell BK168.out 0).trans rfl; have hcz8_1 : w7.cell? ⟨gb168, 1, none⟩ = some (.slice A0_1 l0_1.length c0_1) := (blk_cell BK168.out 1).trans rfl; have hfz8_0 := blk_frozen BK168.out 0; have hfz8_1 := blk_frozen BK168.out 1))
    go_meet
    case rel => exact ⟨_, (true), (by first | rfl | (simp; done) | (simp [*]; done)), H', ⟨by first | omega | exact Nat.le_refl _⟩, ⟨kA BK168.out⟩, ⟨kB HB.out⟩⟩
   ·rw [if_neg c6] at H
    have c6b0 : decide (60 < (l0_1.length : Int)) = false := decide_eq_false c6
    have c6b1 : decide (60 < l0_1.length) = false := decide_eq_false (by omega)
    clear c6
    (first | rw [c6b0] | (simp only [i64_w, i32_w]; rw [c6b0]) | skip)
    have H' := Aside0.mk H
    clear H
    go_wp2_with (first | ((with_reducible refine gate_callee (f := 11) rfl ?_); refine goesL_ (some 13) rfl rfl Try.func11 (by kernel_rfl) rfl #[] rfl (by (try simp only [List.map_toArray, List.map_cons, List.map_nil]); first | done | rfl | (simp only [List.length_drop, List.length_take]; rfl)) ?_; (with_reducible refine (modillionlaw09_awake.calls k  true _ A4.out).mono ?_); rintro e w9 ⟨rfl, hb⟩; refine ⟨_, rfl, ?_⟩; have n0_ := Aside0.mk (blk_below (g := gb168) (o := .cells #[.int .i64 a0_0, .slice A0_1 l0_1.length c0_1] 24 (0, 0)) (kA BK168.out) hb); have n1_ := Aside0.mk (below_step (kB HB.out) hb); clear BK168; clear HB; have BK168 := n0_; have HB := n1_; clear n0_ n1_; (try clear hb); (try clear hb2); (try clear hk); (try clear hi); have hcz10_0 : w9.cell? ⟨gb168, 0, none⟩ = some (.int .i64 a0_0) := (blk_cell BK168.out 0).trans rfl; have hcz10_1 : w9.cell? ⟨gb168, 1, none⟩ = some (.slice A0_1 l0_1.length c0_1) := (blk_cell BK168.out 1).trans rfl; have hfz10_0 := blk_frozen BK168.out 0; have hfz10_1 := blk_frozen BK168.out 1))
    go_meet
    case rel => exact ⟨_, (decide (a0_0 > 12)), (by first | rfl | (simp; done) | (simp [*]; done)), H', ⟨by first | omega | exact Nat.le_refl _⟩, ⟨kA BK168.out⟩, ⟨kB HB.out⟩⟩
  ·replace c5 := Bool.eq_false_iff.mpr c5
   subst c5
   have H1 : (modillionlaw09_SeqMax.j0 k true a0_0 l0_1) = some r := by rw [if_neg (show ¬ (false = true) by decide)] at H; exact H
   clear H
   have H := H1
   clear H1
   have H' := Aside0.mk H
   clear H
   go_wp2_with (first | ((with_reducible refine gate_callee (f := 11) rfl ?_); refine goesL_ (some 13) rfl rfl Try.func11 (by kernel_rfl) rfl #[] rfl (by (try simp only [List.map_toArray, List.map_cons, List.map_nil]); first | done | rfl | (simp only [List.length_drop, List.length_take]; rfl)) ?_; (with_reducible refine (modillionlaw09_awake.calls k  false _ A4.out).mono ?_); rintro e w11 ⟨rfl, hb⟩; refine ⟨_, rfl, ?_⟩; have n0_ := Aside0.mk (blk_below (g := gb168) (o := .cells #[.int .i64 a0_0, .slice A0_1 l0_1.length c0_1] 24 (0, 0)) (kA BK168.out) hb); have n1_ := Aside0.mk (below_step (kB HB.out) hb); clear BK168; clear HB; have BK168 := n0_; have HB := n1_; clear n0_ n1_; (try clear hb); (try clear hb2); (try clear hk); (try clear hi)))
   go_meet
   case rel => exact ⟨_, (true), (by first | rfl | (simp; done) | (simp [*]; done)), H', ⟨by first | omega | exact Nat.le_refl _⟩, ⟨kA BK168.out⟩, ⟨kB HB.out⟩⟩
 case rest =>
  clear HC2
  try clear c1
  try clear p2
  try clear c5
  try clear c6
  try clear c6b0
  try clear c6b1
  try clear c9
  try clear c11
  try clear hcz10_0
  try clear hcz10_1
  try clear hcz8_0
  try clear hcz8_1
  try clear hfz10_0
  try clear hfz10_1
  try clear hfz8_0
  try clear hfz8_1
  obtain ⟨kq, x25_1, rfl, HA, HJ1, BK168, HB⟩ := hcut
  cases kq with
  | zero => exact absurd HA.out (by simp [modillionlaw09_SeqMax.j0])
  | succ kj1 =>
   have H := HA.out
   clear HA
   simp only [modillionlaw09_SeqMax.j0] at H
   by_cases c12 : x25_1 = true
   ·subst c12
    have H1 : ((modillionlaw09_awake.f kj1).bind fun t170 => (some t170)) = some r := by rw [if_pos rfl] at H; exact H
    clear H
    have H := H1
    clear H1
    replace H := Option.bind_eq_some_iff.mp H
    obtain ⟨t170, A130, H⟩ := H
    replace H : (some t170) = some r := H
    have A13 := Aside0.mk A130
    clear A130
    obtain rfl := Option.some.inj H
    go_wp2_with (first | ((with_reducible refine gate_callee (f := 11) rfl ?_); refine goesL_ (some 26) rfl rfl Try.func11 (by kernel_rfl) rfl #[] rfl (by (try simp only [List.map_toArray, List.map_cons, List.map_nil]); first | done | rfl | (simp only [List.length_drop, List.length_take]; rfl)) ?_; (with_reducible refine (modillionlaw09_awake.calls kj1  t170 _ A13.out).mono ?_); rintro e w14 ⟨rfl, hb⟩; refine ⟨_, rfl, ?_⟩; have n0_ := Aside0.mk (blk_below (g := gb168) (o := .cells #[.int .i64 a0_0, .slice A0_1 l0_1.length c0_1] 24 (0, 0)) (kA BK168.out) hb); have n1_ := Aside0.mk (below_step (kB HB.out) hb); clear BK168; clear HB; have BK168 := n0_; have HB := n1_; clear n0_ n1_; (try clear hb); (try clear hb2); (try clear hk); (try clear hi)))
    go_ret
    exact ⟨by first | rfl | (simp [errW_none, errW_some] <;> rfl) | (simp [*, errW_none, errW_some] <;> rfl), by exact kB HB.out⟩
   ·replace c12 := Bool.eq_false_iff.mpr c12
    subst c12
    have H1 : ((modillionlaw09_Own.f a0_0 l0_1).bind fun bt172 => ((seq_Start.f kj1 bt172.1 bt172.2 (⟨#[109, 97, 120]⟩ : ByteArray) 0 20).bind fun bt176 => ((modillionlaw09_Own.f a0_0 l0_1).bind fun bt180 => ((seq_Run.f kj1 bt180.1 bt180.2 (⟨#[109, 97, 120]⟩ : ByteArray) 0 20).bind fun bt184 => (if bt176.2 = 0 then (modillionlaw09_SeqMax.j1 kj1 bt176.1 bt184.1 (bt184.2.2 != 0) a0_0 l0_1) else (modillionlaw09_SeqMax.j1 kj1 bt176.1 bt184.1 true a0_0 l0_1)))))) = some r := by rw [if_neg (show ¬ (false = true) by decide)] at H; exact H
    clear H
    have H := H1
    clear H1
    replace H := Option.bind_eq_some_iff.mp H
    obtain ⟨⟨t172, t173⟩, A150, H⟩ := H
    replace H : ((seq_Start.f kj1 t172 t173 (⟨#[109, 97, 120]⟩ : ByteArray) 0 20).bind fun bt176 => ((modillionlaw09_Own.f a0_0 l0_1).bind fun bt180 => ((seq_Run.f kj1 bt180.1 bt180.2 (⟨#[109, 97, 120]⟩ : ByteArray) 0 20).bind fun bt184 => (if bt176.2 = 0 then (modillionlaw09_SeqMax.j1 kj1 bt176.1 bt184.1 (bt184.2.2 != 0) a0_0 l0_1) else (modillionlaw09_SeqMax.j1 kj1 bt176.1 bt184.1 true a0_0 l0_1))))) = some r := H
    have A15 := Aside0.mk A150
    clear A150
    replace H := Option.bind_eq_some_iff.mp H
    obtain ⟨⟨t176, t179⟩, A160, H⟩ := H
    replace H : ((modillionlaw09_Own.f a0_0 l0_1).bind fun bt180 => ((seq_Run.f kj1 bt180.1 bt180.2 (⟨#[109, 97, 120]⟩ : ByteArray) 0 20).bind fun bt184 => (if t179 = 0 then (modillionlaw09_SeqMax.j1 kj1 t176 bt184.1 (bt184.2.2 != 0) a0_0 l0_1) else (modillionlaw09_SeqMax.j1 kj1 t176 bt184.1 true a0_0 l0_1)))) = some r := H
    have A16 := Aside0.mk A160
    clear A160
    replace H := Option.bind_eq_some_iff.mp H
    obtain ⟨⟨t180, t181⟩, A170, H⟩ := H
    replace H : ((seq_Run.f kj1 t180 t181 (⟨#[109, 97, 120]⟩ : ByteArray) 0 20).bind fun bt184 => (if t179 = 0 then (modillionlaw09_SeqMax.j1 kj1 t176 bt184.1 (bt184.2.2 != 0) a0_0 l0_1) else (modillionlaw09_SeqMax.j1 kj1 t176 bt184.1 true a0_0 l0_1))) = some r := H
    have A17 := Aside0.mk A170
    clear A170
    replace H := Option.bind_eq_some_iff.mp H
    obtain ⟨⟨t184, t187, t188⟩, A180, H⟩ := H
    replace H : (if t179 = 0 then (modillionlaw09_SeqMax.j1 kj1 t176 t184 (t188 != 0) a0_0 l0_1) else (modillionlaw09_SeqMax.j1 kj1 t176 t184 true a0_0 l0_1)) = some r := H
    have A18 := Aside0.mk A180
    clear A180
    have HC19 := Aside0.mk H
    clear H
    try go_wp2_with (first | ((with_reducible refine gate_dst (N := 3) rfl ?_); (try (refine gate_guard (by rfl) ?_; dsimp only)); refine box_event ?hg (N := 3) ?hd (cs := #[.string (⟨#[]⟩ : ByteArray), .int .i64 0, .int .i64 0]) (t := 26) ?hr ?_; (case hd => rfl); (case hg => rfl); (case hr => first | (go_simp; done) | (go_simp; rfl)); intro gb171 hg w20 hbox hb; have n0_ := Aside0.mk (blk_below (g := gb168) (o := .cells #[.int .i64 a0_0, .slice A0_1 l0_1.length c0_1] 24 (0, 0)) (kA BK168.out) hb); have n1_ := Aside0.mk (below_step (kB HB.out) hb); have n2_ := Aside0.mk (hbox); have n3_ := Aside0.mk ((by rw [hg]; exact (below_size (kB HB.out)) : w.heap.size ≤ gb171)); have n4_ := Aside0.mk ((by rw [hg]; exact (below_size (kB HB.out)) : w.heap.size ≤ gb171)); have n5_ := Aside0.mk ((by rw [hg]; exact Nat.ne_of_lt (blk_lt (g := gb168) (o := .cells #[.int .i64 a0_0, .slice A0_1 l0_1.length c0_1] 24 (0, 0)) (kA BK168.out)) : gb168 ≠ gb171)); have n6_ := Aside0.mk ((by rw [hg]; exact Nat.ne_of_gt (blk_lt (g := gb168) (o := .cells #[.int .i64 a0_0, .slice A0_1 l0_1.length c0_1] 24 (0, 0)) (kA BK168.out)) : gb171 ≠ gb168)); clear BK168; clear HB; have BK168 := n0_; have HB := n1_; have BK171 := n2_; have GW171 := n3_; have GE171 := n4_; have NB168_171 := n5_; have NB171_168 := n6_; clear n0_ n1_ n2_ n3_ n4_ n5_ n6_; clear hb hbox hg; have hnb21 := NB171_168.out; have hnc21 := NB168_171.out; have hcz22_0 : w20.cell? ⟨gb171, 0, none⟩ = some (.string (⟨#[]⟩ : ByteArray)) := (blk_cell BK171.out 0).trans rfl; have hcz22_1 : w20.cell? ⟨gb171, 1, none⟩ = some (.int .i64 0) := (blk_cell BK171.out 1).trans rfl; have hcz22_2 : w20.cell? ⟨gb171, 2, none⟩ = some (.int .i64 0) := (blk_cell BK171.out 2).trans rfl; have hfz22_0 := blk_frozen BK171.out 0; have hfz22_1 := blk_frozen BK171.out 1; have hfz22_2 := blk_frozen BK171.out 2))
    have n0_ : Aside0 ((((w20.setCell ⟨gb171, 0, none⟩ (.string (⟨#[109, 97, 120]⟩ : ByteArray))).setCell ⟨gb171, 1, none⟩ (.int .i64 0)).setCell ⟨gb171, 2, none⟩ (.int .i64 20)).heap[gb168]? = some (.cells #[.int .i64 a0_0, .slice A0_1 l0_1.length c0_1] 24 (0, 0))) := ⟨kF NB168_171.out BK168.out⟩
    have n1_ : Aside0 ((((w20.setCell ⟨gb171, 0, none⟩ (.string (⟨#[109, 97, 120]⟩ : ByteArray))).setCell ⟨gb171, 1, none⟩ (.int .i64 0)).setCell ⟨gb171, 2, none⟩ (.int .i64 20)).heap[gb171]? = some (.cells #[.string (⟨#[109, 97, 120]⟩ : ByteArray), .int .i64 0, .int .i64 20] 26 (0, 0))) := ⟨by (with_reducible repeat (first | refine blk_drewN ?_ _ | refine blk_drew ?_ | refine blk_alloc ?_ _)); refine blk_put (cs := #[.string (⟨#[109, 97, 120]⟩ : ByteArray), .int .i64 0, .int .i64 0]) ?_ 2 _ rfl; refine blk_put (cs := #[.string (⟨#[109, 97, 120]⟩ : ByteArray), .int .i64 0, .int .i64 0]) ?_ 1 _ rfl; refine blk_put (cs := #[.string (⟨#[]⟩ : ByteArray), .int .i64 0, .int .i64 0]) ?_ 0 _ rfl; exact kA BK171.out⟩
    have n2_ : Aside0 (Below w.heap.size w (((w20.setCell ⟨gb171, 0, none⟩ (.string (⟨#[109, 97, 120]⟩ : ByteArray))).setCell ⟨gb171, 1, none⟩ (.int .i64 0)).setCell ⟨gb171, 2, none⟩ (.int .i64 20))) := ⟨kB HB.out⟩
    (try clear BK168)
    (try clear BK171)
    (try clear HB)
    generalize (((w20.setCell ⟨gb171, 0, none⟩ (.string (⟨#[109, 97, 120]⟩ : ByteArray))).setCell ⟨gb171, 1, none⟩ (.int .i64 0)).setCell ⟨gb171, 2, none⟩ (.int .i64 20)) = w23 at n0_ n1_ n2_ ⊢
    have BK168 := n0_
    have BK171 := n1_
    have HB := n2_
    clear n0_ n1_ n2_
    have n0_ := Aside0.mk (blk_drew BK168.out)
    have n1_ := Aside0.mk (blk_drew BK171.out)
    have n2_ := Aside0.mk (below_drew1 HB.out)
    clear BK168
    clear BK171
    clear HB
    have BK168 := n0_
    have BK171 := n1_
    have HB := n2_
    clear n0_ n1_ n2_
    refine start_ (n := 9) (S := fun w' => w'.cell? ⟨gb168, 0, none⟩ = some (.int .i64 a0_0) ∧ w'.cell? ⟨gb168, 1, none⟩ = some (.slice A0_1 l0_1.length c0_1) ∧ w'.cell? ⟨gb171, 0, none⟩ = some (.string (⟨#[109, 97, 120]⟩ : ByteArray)) ∧ w'.cell? ⟨gb171, 1, none⟩ = some (.int .i64 0) ∧ w'.cell? ⟨gb171, 2, none⟩ = some (.int .i64 20)) (ds := []) #[Z,Z,Z,Z,Z,Z,Z,Z,Z] (by kernel_rfl) rfl rfl ⟨(blk_cell BK168.out 0).trans rfl, (blk_cell BK168.out 1).trans rfl, (blk_cell BK171.out 0).trans rfl, (blk_cell BK171.out 1).trans rfl, (blk_cell BK171.out 2).trans rfl⟩ (fun hHeld => ?_); refine with_tabW modillionlaw09_SeqMax.tab4 modillionlaw09_SeqMax.bits4 (fun HT_ HW_ => ?_)
    generalize w23.drew = w24 at BK168 BK171 HB hHeld ⊢
    refine take_ (i := 0) (N := some 29) (v := ?_) (a' := ?_) #[Y,Z,Z,Z,Z,Z,Z,Z,Z] rfl rfl (take_ofW HT_.out HW_.out (by kernel_rfl)) (fun _ _ _ h => h) (Or.inl ⟨by rfl, ?_⟩) hHeld ?_ ?_
    rotate_left
    ·rintro w' ⟨s0, s1, s2, s3, s4⟩;go_simp;with_reducible rfl
    rotate_left
    ·simp only [Act.put, q1_, q2_, q3_, i64_w, i32_w];rfl
    refine take_ (i := 2) (N := some 31) (v := ?_) (a' := ?_) #[Y,Z,Y,Z,Z,Z,Z,Z,Z] rfl rfl (take_ofW HT_.out HW_.out (by kernel_rfl)) (fun _ _ _ h => h) (Or.inl ⟨by rfl, ?_⟩) hHeld ?_ ?_
    rotate_left
    ·rintro w' ⟨s0, s1, s2, s3, s4⟩;go_simp;with_reducible rfl
    rotate_left
    ·simp only [Act.put, q1_, q2_, q3_, i64_w, i32_w];rfl
    refine one_ (i := 1) (N := some 30) #[Y,Y,Y,Z,Z,Z,Z,Z,Z] rfl rfl (one_of HT_.out (by kernel_rfl)) (by decide) (fun K hK => ?_)
    refine goes_ Try.func13 (by kernel_rfl) rfl #[.agg #[.int .i64 a0_0, .slice A0_1 l0_1.length c0_1]] (by rfl) rfl rfl (by (try simp only [List.map_toArray, List.map_cons, List.map_nil]); first | done | rfl | (simp only [List.length_drop, List.length_take]; rfl)) ?_
    with_reducible refine (modillionlaw09_Own.calls a0_0 _ _ l0_1 t172 t173 _ ?side1 ?side2 A15.out).mono ?_
    (case side1 => repeat (first | exact (Kd.C_below HR0_1.out HB.out) | (with_reducible refine Kd.C_alloc ?_ _) | (with_reducible refine Kd.C_drewN ?_ _) | (with_reducible refine Kd.C_drew ?_)))
    (case side2 => exact HC0_1.out)
    rintro e w25 ⟨v174, rfl, ho0, hb⟩
    refine ⟨_, rfl, ?_⟩
    have n0_ := Aside0.mk (Kd.R_lower ho0 (below_size (kB HB.out)))
    have n1_ := Aside0.mk (blk_below (g := gb168) (o := .cells #[.int .i64 a0_0, .slice A0_1 l0_1.length c0_1] 24 (0, 0)) (kA BK168.out) hb)
    have n2_ := Aside0.mk (blk_below (g := gb171) (o := .cells #[.string (⟨#[109, 97, 120]⟩ : ByteArray), .int .i64 0, .int .i64 20] 26 (0, 0)) (kA BK171.out) hb)
    have n3_ := Aside0.mk (below_step (kB HB.out) hb)
    clear BK168
    clear BK171
    clear HB
    have HO175 := n0_
    have BK168 := n1_
    have BK171 := n2_
    have HB := n3_
    clear n0_ n1_ n2_ n3_
    (try clear hb)
    (try clear hb2)
    (try clear hk)
    (try clear hi)
    (try clear ho0)
    obtain ⟨Ao26, co26, eo26⟩ := Kd.R_slice HO175.out
    (first | subst eo26 | (injection eo26 with f1_ f2_ f3_; have f4_ := f1_.symm; have f5_ := f3_.symm; clear f1_ f2_ f3_; subst f4_; subst f5_))
    refine hK.out _ _ ⟨(blk_cell BK168.out 0).trans rfl, (blk_cell BK168.out 1).trans rfl, (blk_cell BK171.out 0).trans rfl, (blk_cell BK171.out 1).trans rfl, (blk_cell BK171.out 2).trans rfl⟩ (fun hHeld => ?_)
    clear hK K
    refine norm_ (a' := ?_) ?_ ?_
    rotate_left
    ·show Act.put _ (some 30) _ = _
     simp only [Act.put, q1_, q2_, q3_, i64_w, i32_w]
     rfl
    refine one_ (i := 3) (N := some 32) #[Y,Y,Y,Y,Z,Z,Z,Z,Z] rfl rfl (one_of HT_.out (by kernel_rfl)) (by decide) (fun K hK => ?_)
    refine goes_ Try.func12 (by kernel_rfl) rfl #[.agg #[.int .i64 t172, .slice Ao26 t173.length co26], .agg #[.string (⟨#[109, 97, 120]⟩ : ByteArray), .int .i64 0, .int .i64 20]] (by rfl) rfl rfl (by (try simp only [List.map_toArray, List.map_cons, List.map_nil]); first | done | rfl | (simp only [List.length_drop, List.length_take]; rfl)) ?_
    with_reducible refine (seq_Start.calls kj1 t172 _ _ t173 (⟨#[109, 97, 120]⟩ : ByteArray) 0 20 t176 t179 _ ?side1 ?side2 A16.out).mono ?_
    (case side1 => repeat (first | exact (Kd.R_reads' HO175.out).2.2 | (with_reducible refine Kd.C_alloc ?_ _) | (with_reducible refine Kd.C_drewN ?_ _) | (with_reducible refine Kd.C_drew ?_)))
    (case side2 => exact (Kd.R_reads' HO175.out).2.1)
    rintro e w27 ⟨v177, rfl, ho0, hb⟩
    refine ⟨_, rfl, ?_⟩
    have n0_ := Aside0.mk (Kd.R_below (kR HO175.out) hb)
    have n1_ := Aside0.mk (Kd.R_lower ho0 (below_size (kB HB.out)))
    have n2_ := Aside0.mk (blk_below (g := gb168) (o := .cells #[.int .i64 a0_0, .slice A0_1 l0_1.length c0_1] 24 (0, 0)) (kA BK168.out) hb)
    have n3_ := Aside0.mk (blk_below (g := gb171) (o := .cells #[.string (⟨#[109, 97, 120]⟩ : ByteArray), .int .i64 0, .int .i64 20] 26 (0, 0)) (kA BK171.out) hb)
    have n4_ := Aside0.mk (below_step (kB HB.out) hb)
    clear HO175
    clear BK168
    clear BK171
    clear HB
    have HO175 := n0_
    have HO178 := n1_
    have BK168 := n2_
    have BK171 := n3_
    have HB := n4_
    clear n0_ n1_ n2_ n3_ n4_
    (try clear hb)
    (try clear hb2)
    (try clear hk)
    (try clear hi)
    (try clear ho0)
    refine hK.out _ _ ⟨(blk_cell BK168.out 0).trans rfl, (blk_cell BK168.out 1).trans rfl, (blk_cell BK171.out 0).trans rfl, (blk_cell BK171.out 1).trans rfl, (blk_cell BK171.out 2).trans rfl⟩ (fun hHeld => ?_)
    clear hK K
    refine norm_ (a' := ?_) ?_ ?_
    rotate_left
    ·show Act.put _ (some 32) _ = _
     simp only [Act.put, q1_, q2_, q3_, i64_w, i32_w]
     rfl
    refine pure_ (i := 4) (N := some 28) (v := ?_) (a' := ?_) #[Y,Y,Y,Y,Y,Z,Z,Z,Z] rfl rfl (any_of HT_.out (by kernel_rfl)) (fun _ _ _ h => h) (Or.inl ⟨by rfl, ?_⟩) ?_ ?_
    rotate_left
    ·intro w';go_simp;with_reducible rfl
    rotate_left
    ·simp only [Act.put, q1_, q2_, q3_, i64_w, i32_w];rfl
    refine pure_ (i := 5) (N := some 33) (v := ?_) (a' := ?_) #[Y,Y,Y,Y,Y,Y,Z,Z,Z] rfl rfl (any_of HT_.out (by kernel_rfl)) (fun _ _ _ h => h) (Or.inl ⟨by rfl, ?_⟩) ?_ ?_
    rotate_left
    ·intro w';go_simp;with_reducible rfl
    rotate_left
    ·simp only [Act.put, q1_, q2_, q3_, i64_w, i32_w];rfl
    refine pure_ (i := 6) (N := some 34) (v := ?_) (a' := ?_) #[Y,Y,Y,Y,Y,Y,Y,Z,Z] rfl rfl (any_of HT_.out (by kernel_rfl)) (fun _ _ _ h => h) (Or.inl ⟨by rfl, ?_⟩) ?_ ?_
    rotate_left
    ·intro w';go_simp;with_reducible rfl
    rotate_left
    ·simp only [Act.put, q1_, q2_, q3_, i64_w, i32_w];rfl
    refine pure_ (i := 7) (N := some 4) (v := ?_) (a' := ?_) #[Y,Y,Y,Y,Y,Y,Y,Y,Z] rfl rfl (any_of HT_.out (by kernel_rfl)) (fun _ _ _ h => h) (Or.inl ⟨by rfl, ?_⟩) ?_ ?_
    rotate_left
    ·intro w';go_simp;with_reducible rfl
    rotate_left
    ·simp only [Act.put, q1_, q2_, q3_, i64_w, i32_w];rfl
    refine pure_ (i := 8) (N := some 5) (v := ?_) (a' := ?_) #[Y,Y,Y,Y,Y,Y,Y,Y,Y] rfl rfl (any_of HT_.out (by kernel_rfl)) (fun _ _ _ h => h) (Or.inl ⟨by rfl, ?_⟩) ?_ ?_
    rotate_left
    ·intro w';go_simp;with_reducible rfl
    rotate_left
    ·simp only [Act.put, q1_, q2_, q3_, i64_w, i32_w];rfl
    refine done_ (done_of HT_.out (by kernel_rfl)) ?_
    try go_wp2
    have n0_ := Aside0.mk (Kd.R_drew HO175.out)
    have n1_ := Aside0.mk (Kd.R_drew HO178.out)
    have n2_ := Aside0.mk (blk_drew BK168.out)
    have n3_ := Aside0.mk (blk_drew BK171.out)
    have n4_ := Aside0.mk (below_drew1 HB.out)
    clear HO175
    clear HO178
    clear BK168
    clear BK171
    clear HB
    have HO175 := n0_
    have HO178 := n1_
    have BK168 := n2_
    have BK171 := n3_
    have HB := n4_
    clear n0_ n1_ n2_ n3_ n4_
    refine start_ (n := 11) (S := fun w' => w'.cell? ⟨gb168, 0, none⟩ = some (.int .i64 a0_0) ∧ w'.cell? ⟨gb168, 1, none⟩ = some (.slice A0_1 l0_1.length c0_1) ∧ w'.cell? ⟨gb171, 0, none⟩ = some (.string (⟨#[109, 97, 120]⟩ : ByteArray)) ∧ w'.cell? ⟨gb171, 1, none⟩ = some (.int .i64 0) ∧ w'.cell? ⟨gb171, 2, none⟩ = some (.int .i64 20)) (ds := []) #[Z,Z,Z,Z,Z,Z,Z,Z,Z,Z,Z] (by kernel_rfl) rfl rfl ⟨(blk_cell BK168.out 0).trans rfl, (blk_cell BK168.out 1).trans rfl, (blk_cell BK171.out 0).trans rfl, (blk_cell BK171.out 1).trans rfl, (blk_cell BK171.out 2).trans rfl⟩ (fun hHeld => ?_); refine with_tabW modillionlaw09_SeqMax.tab5 modillionlaw09_SeqMax.bits5 (fun HT_ HW_ => ?_)
    generalize w27.drew = w28 at HO175 HO178 BK168 BK171 HB hHeld ⊢
    refine take_ (i := 0) (N := some 36) (v := ?_) (a' := ?_) #[Y,Z,Z,Z,Z,Z,Z,Z,Z,Z,Z] rfl rfl (take_ofW HT_.out HW_.out (by kernel_rfl)) (fun _ _ _ h => h) (Or.inl ⟨by rfl, ?_⟩) hHeld ?_ ?_
    rotate_left
    ·rintro w' ⟨s0, s1, s2, s3, s4⟩;go_simp;with_reducible rfl
    rotate_left
    ·simp only [Act.put, q1_, q2_, q3_, i64_w, i32_w];rfl
    refine take_ (i := 2) (N := some 38) (v := ?_) (a' := ?_) #[Y,Z,Y,Z,Z,Z,Z,Z,Z,Z,Z] rfl rfl (take_ofW HT_.out HW_.out (by kernel_rfl)) (fun _ _ _ h => h) (Or.inl ⟨by rfl, ?_⟩) hHeld ?_ ?_
    rotate_left
    ·rintro w' ⟨s0, s1, s2, s3, s4⟩;go_simp;with_reducible rfl
    rotate_left
    ·simp only [Act.put, q1_, q2_, q3_, i64_w, i32_w];rfl
    refine one_ (i := 1) (N := some 37) #[Y,Y,Y,Z,Z,Z,Z,Z,Z,Z,Z] rfl rfl (one_of HT_.out (by kernel_rfl)) (by decide) (fun K hK => ?_)
    refine goes_ Try.func13 (by kernel_rfl) rfl #[.agg #[.int .i64 a0_0, .slice A0_1 l0_1.length c0_1]] (by rfl) rfl rfl (by (try simp only [List.map_toArray, List.map_cons, List.map_nil]); first | done | rfl | (simp only [List.length_drop, List.length_take]; rfl)) ?_
    with_reducible refine (modillionlaw09_Own.calls a0_0 _ _ l0_1 t180 t181 _ ?side1 ?side2 A17.out).mono ?_
    (case side1 => repeat (first | exact (Kd.C_below HR0_1.out HB.out) | (with_reducible refine Kd.C_alloc ?_ _) | (with_reducible refine Kd.C_drewN ?_ _) | (with_reducible refine Kd.C_drew ?_)))
    (case side2 => exact HC0_1.out)
    rintro e w29 ⟨v182, rfl, ho0, hb⟩
    refine ⟨_, rfl, ?_⟩
    have n0_ := Aside0.mk (Kd.R_elder' (kR HO175.out) (Kd.R_base ho0) hb)
    have n1_ := Aside0.mk (Kd.R_below (kR HO178.out) hb)
    have n2_ := Aside0.mk (Kd.R_lower (Kd.R_new' ho0 (Kd.R_lt (kR HO175.out))) (below_size (kB HB.out)))
    have n3_ := Aside0.mk (blk_below (g := gb168) (o := .cells #[.int .i64 a0_0, .slice A0_1 l0_1.length c0_1] 24 (0, 0)) (kA BK168.out) hb)
    have n4_ := Aside0.mk (blk_below (g := gb171) (o := .cells #[.string (⟨#[109, 97, 120]⟩ : ByteArray), .int .i64 0, .int .i64 20] 26 (0, 0)) (kA BK171.out) hb)
    have n5_ := Aside0.mk (below_step (kB HB.out) hb)
    clear HO175
    clear HO178
    clear BK168
    clear BK171
    clear HB
    have HO175 := n0_
    have HO178 := n1_
    have HO183 := n2_
    have BK168 := n3_
    have BK171 := n4_
    have HB := n5_
    clear n0_ n1_ n2_ n3_ n4_ n5_
    (try clear hb)
    (try clear hb2)
    (try clear hk)
    (try clear hi)
    (try clear ho0)
    obtain ⟨Ao30, co30, eo30⟩ := Kd.R_slice HO183.out
    (first | subst eo30 | (injection eo30 with f1_ f2_ f3_; have f4_ := f1_.symm; have f5_ := f3_.symm; clear f1_ f2_ f3_; subst f4_; subst f5_))
    refine hK.out _ _ ⟨(blk_cell BK168.out 0).trans rfl, (blk_cell BK168.out 1).trans rfl, (blk_cell BK171.out 0).trans rfl, (blk_cell BK171.out 1).trans rfl, (blk_cell BK171.out 2).trans rfl⟩ (fun hHeld => ?_)
    clear hK K
    refine norm_ (a' := ?_) ?_ ?_
    rotate_left
    ·show Act.put _ (some 37) _ = _
     simp only [Act.put, q1_, q2_, q3_, i64_w, i32_w]
     rfl
    refine one_ (i := 3) (N := some 39) #[Y,Y,Y,Y,Z,Z,Z,Z,Z,Z,Z] rfl rfl (one_of HT_.out (by kernel_rfl)) (by decide) (fun K hK => ?_)
    refine goes_ Try.func14 (by kernel_rfl) rfl #[.agg #[.int .i64 t180, .slice Ao30 t181.length co30], .agg #[.string (⟨#[109, 97, 120]⟩ : ByteArray), .int .i64 0, .int .i64 20]] (by rfl) rfl rfl (by (try simp only [List.map_toArray, List.map_cons, List.map_nil]); first | done | rfl | (simp only [List.length_drop, List.length_take]; rfl)) ?_
    with_reducible refine (seq_Run.calls kj1 t180 _ _ t181 (⟨#[109, 97, 120]⟩ : ByteArray) 0 20 t184 t187 t188 _ ?side1 ?side2 A18.out).mono ?_
    (case side1 => repeat (first | exact (Kd.R_reads' HO183.out).2.2 | (with_reducible refine Kd.C_alloc ?_ _) | (with_reducible refine Kd.C_drewN ?_ _) | (with_reducible refine Kd.C_drew ?_)))
    (case side2 => exact (Kd.R_reads' HO183.out).2.1)
    rintro e w31 ⟨v185, rfl, ho0, hb⟩
    refine ⟨_, rfl, ?_⟩
    have n0_ := Aside0.mk (Kd.R_below (kR HO175.out) hb)
    have n1_ := Aside0.mk (Kd.R_below (kR HO178.out) hb)
    have n2_ := Aside0.mk (Kd.R_below (kR HO183.out) hb)
    have n3_ := Aside0.mk (Kd.R_lower ho0 (below_size (kB HB.out)))
    have n4_ := Aside0.mk (blk_below (g := gb168) (o := .cells #[.int .i64 a0_0, .slice A0_1 l0_1.length c0_1] 24 (0, 0)) (kA BK168.out) hb)
    have n5_ := Aside0.mk (blk_below (g := gb171) (o := .cells #[.string (⟨#[109, 97, 120]⟩ : ByteArray), .int .i64 0, .int .i64 20] 26 (0, 0)) (kA BK171.out) hb)
    have n6_ := Aside0.mk (below_step (kB HB.out) hb)
    clear HO175
    clear HO178
    clear HO183
    clear BK168
    clear BK171
    clear HB
    have HO175 := n0_
    have HO178 := n1_
    have HO183 := n2_
    have HO186 := n3_
    have BK168 := n4_
    have BK171 := n5_
    have HB := n6_
    clear n0_ n1_ n2_ n3_ n4_ n5_ n6_
    (try clear hb)
    (try clear hb2)
    (try clear hk)
    (try clear hi)
    (try clear ho0)
    refine hK.out _ _ ⟨(blk_cell BK168.out 0).trans rfl, (blk_cell BK168.out 1).trans rfl, (blk_cell BK171.out 0).trans rfl, (blk_cell BK171.out 1).trans rfl, (blk_cell BK171.out 2).trans rfl⟩ (fun hHeld => ?_)
    clear hK K
    refine norm_ (a' := ?_) ?_ ?_
    rotate_left
    ·show Act.put _ (some 39) _ = _
     simp only [Act.put, q1_, q2_, q3_, i64_w, i32_w]
     rfl
    refine pure_ (i := 4) (N := some 35) (v := ?_) (a' := ?_) #[Y,Y,Y,Y,Y,Z,Z,Z,Z,Z,Z] rfl rfl (any_of HT_.out (by kernel_rfl)) (fun _ _ _ h => h) (Or.inl ⟨by rfl, ?_⟩) ?_ ?_
    rotate_left
    ·intro w';go_simp;with_reducible rfl
    rotate_left
    ·simp only [Act.put, q1_, q2_, q3_, i64_w, i32_w];rfl
    refine pure_ (i := 5) (N := some 40) (v := ?_) (a' := ?_) #[Y,Y,Y,Y,Y,Y,Z,Z,Z,Z,Z] rfl rfl (any_of HT_.out (by kernel_rfl)) (fun _ _ _ h => h) (Or.inl ⟨by rfl, ?_⟩) ?_ ?_
    rotate_left
    ·intro w';go_simp;with_reducible rfl
    rotate_left
    ·simp only [Act.put, q1_, q2_, q3_, i64_w, i32_w];rfl
    refine pure_ (i := 6) (N := some 41) (v := ?_) (a' := ?_) #[Y,Y,Y,Y,Y,Y,Y,Z,Z,Z,Z] rfl rfl (any_of HT_.out (by kernel_rfl)) (fun _ _ _ h => h) (Or.inl ⟨by rfl, ?_⟩) ?_ ?_
    rotate_left
    ·intro w';go_simp;with_reducible rfl
    rotate_left
    ·simp only [Act.put, q1_, q2_, q3_, i64_w, i32_w];rfl
    refine pure_ (i := 7) (N := some 42) (v := ?_) (a' := ?_) #[Y,Y,Y,Y,Y,Y,Y,Y,Z,Z,Z] rfl rfl (any_of HT_.out (by kernel_rfl)) (fun _ _ _ h => h) (Or.inl ⟨by rfl, ?_⟩) ?_ ?_
    rotate_left
    ·intro w';go_simp;with_reducible rfl
    rotate_left
    ·simp only [Act.put, q1_, q2_, q3_, i64_w, i32_w];rfl
    refine pure_ (i := 8) (N := some 6) (v := ?_) (a' := ?_) #[Y,Y,Y,Y,Y,Y,Y,Y,Y,Z,Z] rfl rfl (any_of HT_.out (by kernel_rfl)) (fun _ _ _ h => h) (Or.inl ⟨by rfl, ?_⟩) ?_ ?_
    rotate_left
    ·intro w';go_simp;with_reducible rfl
    rotate_left
    ·simp only [Act.put, q1_, q2_, q3_, i64_w, i32_w];rfl
    refine pure_ (i := 9) (N := some 7) (v := ?_) (a' := ?_) #[Y,Y,Y,Y,Y,Y,Y,Y,Y,Y,Z] rfl rfl (any_of HT_.out (by kernel_rfl)) (fun _ _ _ h => h) (Or.inl ⟨by rfl, ?_⟩) ?_ ?_
    rotate_left
    ·intro w';go_simp;with_reducible rfl
    rotate_left
    ·simp only [Act.put, q1_, q2_, q3_, i64_w, i32_w];rfl
    refine pure_ (i := 10) (N := some 8) (v := ?_) (a' := ?_) #[Y,Y,Y,Y,Y,Y,Y,Y,Y,Y,Y] rfl rfl (any_of HT_.out (by kernel_rfl)) (fun _ _ _ h => h) (Or.inl ⟨by rfl, ?_⟩) ?_ ?_
    rotate_left
    ·intro w';go_simp;with_reducible rfl
    rotate_left
    ·simp only [Act.put, q1_, q2_, q3_, i64_w, i32_w];rfl
    refine done_ (done_of HT_.out (by kernel_rfl)) ?_
    go_upto_region 6 with (fail)
    go_cut [48] (fun v48 wc => ∃ (kq : Nat) (x48_18 : Bool), v48 = .bool x48_18 ∧ Aside0 (modillionlaw09_SeqMax.j1 kq t176 t184 x48_18 a0_0 l0_1 = some r) ∧ Aside0 (kq ≤ kj1) ∧ Aside0 (Kd.R k50 50 wc w.heap.size (fun _ => True) v177 t176) ∧ Aside0 (Kd.R (Kd.int .i64) 2 wc w.heap.size (fun _ => True) v185 t184) ∧ Aside0 (wc.heap[gb168]? = some (.cells #[.int .i64 a0_0, (.slice A0_1 l0_1.length c0_1)] 24 (0, 0))) ∧ Aside0 (wc.heap[gb171]? = some (.cells #[.string (⟨#[109, 97, 120]⟩ : ByteArray), .int .i64 0, .int .i64 20] 26 (0, 0))) ∧ Aside0 (Below w.heap.size w wc))
    case first =>
     have H := HC19.out
     clear HC19
     by_cases c32 : t179 = 0
     ·rw [if_pos c32] at H
      have c32b0 : (t179 == 0) = true := beq_iff_eq.mpr c32
      have c32b1 : (t179 != 0) = false := bne_eq_false_iff_eq.mpr c32
      clear c32
      (first | rw [c32b0] | (simp only [i64_w, i32_w]; rw [c32b0]) | skip)
      have H' := Aside0.mk H
      clear H
      go_wp2
      go_meet
      case rel => exact ⟨_, ((t188 != 0)), (by first | rfl | (simp; done) | (simp [*]; done)), H', ⟨by have := HJ1.out; first | omega | exact Nat.le_refl _⟩, ⟨kR HO178.out⟩, ⟨kR HO186.out⟩, ⟨kA BK168.out⟩, ⟨kA BK171.out⟩, ⟨kB HB.out⟩⟩
     ·rw [if_neg c32] at H
      have c32b0 : (t179 == 0) = false := beq_eq_false_iff_ne.mpr c32
      have c32b1 : (t179 != 0) = true := bne_iff_ne.mpr c32
      (first | rw [c32b0] | (simp only [i64_w, i32_w]; rw [c32b0]) | skip)
      have H' := Aside0.mk H
      clear H
      go_wp2
      go_meet
      case rel => exact ⟨_, (true), (by first | rfl | (simp; done) | (simp [*]; done)), H', ⟨by have := HJ1.out; first | omega | exact Nat.le_refl _⟩, ⟨kR HO178.out⟩, ⟨kR HO186.out⟩, ⟨kA BK168.out⟩, ⟨kA BK171.out⟩, ⟨kB HB.out⟩⟩
    case rest =>
     clear HC19
     try clear c1
     try clear c2
     try clear p2
     try clear c3
     try clear c5
     try clear c6
     try clear c6b0
     try clear c6b1
     try clear c9
     try clear c11
     try clear c12
     try clear c13
     try clear c14
     try clear c21
     try clear c32
     try clear c32b0
     try clear c32b1
     try clear hcz10_0
     try clear hcz10_1
     try clear hcz22_0
     try clear hcz22_1
     try clear hcz22_2
     try clear hcz8_0
     try clear hcz8_1
     try clear hfz10_0
     try clear hfz10_1
     try clear hfz22_0
     try clear hfz22_1
     try clear hfz22_2
     try clear hfz8_0
     try clear hfz8_1
     try clear p2
     obtain ⟨kq, x48_18, rfl, HA, HJ18, HO_4, HO_6, BK168, BK171, HB⟩ := hcut
     cases kq with
     | zero => exact absurd HA.out (by simp [modillionlaw09_SeqMax.j1])
     | succ kj18 =>
      have H := HA.out
      clear HA
      simp only [modillionlaw09_SeqMax.j1] at H
      by_cases c33 : x48_18 = true
      ·subst c33
       have H1 : (some ((t184.length : Int) == 0)) = some r := by rw [if_pos rfl] at H; exact H
       clear H
       have H := H1
       clear H1
       obtain rfl := Option.some.inj H
       obtain ⟨Ao34, co34, eo34⟩ := Kd.R_slice HO_6.out
       subst eo34
       go_wp2
       go_ret
       exact ⟨by first | rfl | (simp [errW_none, errW_some] <;> rfl) | (simp [*, errW_none, errW_some] <;> rfl), by exact kB HB.out⟩
      ·replace c33 := Bool.eq_false_iff.mpr c33
       subst c33
       have H1 : (modillionlaw09_SeqMax.l0 kj18 t176 t184 0 a0_0 l0_1) = some r := by rw [if_neg (show ¬ (false = true) by decide)] at H; exact H
       clear H
       have H := H1
       clear H1
       have H' := Aside0.mk H
       clear H
       go_wp2
       go_loopg [9] kj18 (fun kq v9 w' => ∃ (x9_3 : Int), v9 = .int .i64 x9_3 ∧ Aside0 (modillionlaw09_SeqMax.l0 kq t176 t184 x9_3 a0_0 l0_1 = some r) ∧ Aside0 (kq ≤ kj18) ∧ Aside0 (Kd.R k50 50 w' w.heap.size (fun _ => True) v177 t176) ∧ Aside0 (Kd.R (Kd.int .i64) 2 w' w.heap.size (fun _ => True) v185 t184) ∧ Aside0 (w'.heap[gb168]? = some (.cells #[.int .i64 a0_0, (.slice A0_1 l0_1.length c0_1)] 24 (0, 0))) ∧ Aside0 (w'.heap[gb171]? = some (.cells #[.string (⟨#[109, 97, 120]⟩ : ByteArray), .int .i64 0, .int .i64 20] 26 (0, 0))) ∧ Aside0 (Below w.heap.size w w'))
       case atStart => exact ⟨(0), (by first | rfl | (simp; done) | (simp [*]; done)), H', ⟨Nat.le_refl _⟩, ⟨kR HO_4.out⟩, ⟨kR HO_6.out⟩, ⟨kA BK168.out⟩, ⟨kA BK171.out⟩, ⟨kB HB.out⟩⟩
       case round =>
        clear H'
        try clear c1
        try clear c2
        try clear p2
        try clear c3
        try clear c5
        try clear c6
        try clear c6b0
        try clear c6b1
        try clear c9
        try clear c11
        try clear c12
        try clear c13
        try clear c14
        try clear c21
        try clear c32
        try clear c32b0
        try clear c32b1
        try clear c33
        try clear hcz10_0
        try clear hcz10_1
        try clear hcz22_0
        try clear hcz22_1
        try clear hcz22_2
        try clear hcz8_0
        try clear hcz8_1
        try clear hfz10_0
        try clear hfz10_1
        try clear hfz22_0
        try clear hfz22_1
        try clear hfz22_2
        try clear hfz8_0
        try clear hfz8_1
        try clear p2
        obtain ⟨x9_3, rfl, HA, HK3, HO_4, HO_6, BK168, BK171, HB⟩ := hrel
        cases gk with
        | zero => exact absurd HA.out (by simp [modillionlaw09_SeqMax.l0])
        | succ k3 =>
         have H := HA.out
         clear HA
         simp only [modillionlaw09_SeqMax.l0] at H
         by_cases c35 : x9_3 < (l0_1.length : Int)
         ·rw [if_pos c35] at H
          have c35b0 := decide_eq_true c35
          clear c35
          obtain ⟨c36, H⟩ := iteS11 H
          have c36b0 := decide_eq_true c36
          clear c36
          obtain ⟨c37, H⟩ := iteS11 H
          have c37b0 := decide_eq_true c37
          clear c37
          obtain ⟨c38, H⟩ := iteS11 H
          have c38b0 := decide_eq_true c38
          clear c38
          obtain ⟨c39, H⟩ := iteS11 H
          have c39b0 := decide_eq_true c39
          clear c39
          obtain ⟨c40, H⟩ := iteS11 H
          have c40b0 := decide_eq_true c40
          clear c40
          have HH_ := Aside0.mk H
          clear H
          have hnb42 := NB168_171.out
          have hnc42 := NB171_168.out
          have hcz43_0 : wr.cell? ⟨gb168, 0, none⟩ = some (.int .i64 a0_0) := (blk_cell BK168.out 0).trans rfl
          have hcz43_1 : wr.cell? ⟨gb168, 1, none⟩ = some (.slice A0_1 l0_1.length c0_1) := (blk_cell BK168.out 1).trans rfl
          have hfz43_0 := blk_frozen BK168.out 0
          have hfz43_1 := blk_frozen BK168.out 1
          try go_wp2
          have n0_ := Aside0.mk (Kd.R_drew HO_4.out)
          have n1_ := Aside0.mk (Kd.R_drew HO_6.out)
          have n2_ := Aside0.mk (blk_drew BK168.out)
          have n3_ := Aside0.mk (blk_drew BK171.out)
          have n4_ := Aside0.mk (below_drew1 HB.out)
          clear HO_4
          clear HO_6
          clear BK168
          clear BK171
          clear HB
          have HO_4 := n0_
          have HO_6 := n1_
          have BK168 := n2_
          have BK171 := n3_
          have HB := n4_
          clear n0_ n1_ n2_ n3_ n4_
          have p189 : 0 ≤ (x9_3 : Int) := of_decide_eq_true (by first | (with_reducible assumption) | assumption)
          have q189 : x9_3 < (l0_1.length : Int) := of_decide_eq_true (by first | (with_reducible assumption) | assumption)
          obtain ⟨ad189, e189, hx189_0, hx189_1, hx189_2⟩ := at_T45 HR0_1.out x9_3 p189 q189
          have hw189_2 := hx189_2
          have hw189_1 := hx189_1
          have hw189_0 := hx189_0
          cases e189
          replace hx189_0 := (HB.out.cell (World.block_lt_of_cell? w _ hx189_0)).trans hx189_0
          replace hx189_1 := (HB.out.cell (World.block_lt_of_cell? w _ hx189_1)).trans hx189_1
          replace hx189_2 := (HB.out.cell (World.block_lt_of_cell? w _ hx189_2)).trans hx189_2
          replace p189 := eq_true p189
          replace q189 := eq_true q189
          obtain ⟨Ao45, co45, eo45⟩ := Kd.R_slice HO_6.out
          (first | subst eo45 | (injection eo45 with f1_ f2_ f3_; have f4_ := f1_.symm; have f5_ := f3_.symm; clear f1_ f2_ f3_; subst f4_; subst f5_))
          have p190 : 0 ≤ (((rd_T45 l0_1 x9_3).f1) : Int) := of_decide_eq_true (by first | (with_reducible assumption) | assumption)
          have q190 : ((rd_T45 l0_1 x9_3).f1) < (t184.length : Int) := of_decide_eq_true (by first | (with_reducible assumption) | assumption)
          obtain ⟨ad190, e190, hx190_0⟩ := Kd.at_int (Kd.R_reads' HO_6.out).2.2 ((rd_T45 l0_1 x9_3).f1) p190 q190
          cases e190
          replace p190 := eq_true p190
          replace q190 := eq_true q190
          have p191 : 0 ≤ (x9_3 : Int) := of_decide_eq_true (by first | (with_reducible assumption) | assumption)
          have q191 : x9_3 < (l0_1.length : Int) := of_decide_eq_true (by first | (with_reducible assumption) | assumption)
          obtain ⟨ad191, e191, hx191_0, hx191_1, hx191_2⟩ := at_T45 HR0_1.out x9_3 p191 q191
          have hw191_2 := hx191_2
          have hw191_1 := hx191_1
          have hw191_0 := hx191_0
          obtain rfl : ad189 = ad191 := (by injection e191)
          replace hx191_0 := (HB.out.cell (World.block_lt_of_cell? w _ hx191_0)).trans hx191_0
          replace hx191_1 := (HB.out.cell (World.block_lt_of_cell? w _ hx191_1)).trans hx191_1
          replace hx191_2 := (HB.out.cell (World.block_lt_of_cell? w _ hx191_2)).trans hx191_2
          replace p191 := eq_true p191
          replace q191 := eq_true q191
          have p192 : 0 ≤ (((rd_T45 l0_1 x9_3).f0) : Int) := of_decide_eq_true (by first | (with_reducible assumption) | assumption)
          have q192 : ((rd_T45 l0_1 x9_3).f0) < (t184.length : Int) := of_decide_eq_true (by first | (with_reducible assumption) | assumption)
          obtain ⟨ad192, e192, hx192_0⟩ := Kd.at_int (Kd.R_reads' HO_6.out).2.2 ((rd_T45 l0_1 x9_3).f0) p192 q192
          obtain rfl : ad190 = ad192 := (by injection e192)
          replace p192 := eq_true p192
          replace q192 := eq_true q192
          refine start_ (n := 19) (S := fun w' => w'.cell? ⟨gb168, 0, none⟩ = some (.int .i64 a0_0) ∧ w'.cell? ⟨gb168, 1, none⟩ = some (.slice (some ad189) l0_1.length c0_1) ∧ w'.cell? (ad189.add ((x9_3).toNat * 3)) = some (.int .i64 ((rd_T45 l0_1 x9_3).f0)) ∧ w'.cell? ⟨(ad189.add ((x9_3).toNat * 3)).block, (ad189.add ((x9_3).toNat * 3)).off + 1, none⟩ = some (.int .i64 ((rd_T45 l0_1 x9_3).f1)) ∧ w'.cell? ⟨(ad189.add ((x9_3).toNat * 3)).block, (ad189.add ((x9_3).toNat * 3)).off + 2, none⟩ = some (.int .i64 ((rd_T45 l0_1 x9_3).f2)) ∧ w'.cell? (ad190.add (((rd_T45 l0_1 x9_3).f1)).toNat) = some (.int .i64 (rd t184 ((rd_T45 l0_1 x9_3).f1))) ∧ w'.cell? (ad189.add ((x9_3).toNat * 3)) = some (.int .i64 ((rd_T45 l0_1 x9_3).f0)) ∧ w'.cell? ⟨(ad189.add ((x9_3).toNat * 3)).block, (ad189.add ((x9_3).toNat * 3)).off + 1, none⟩ = some (.int .i64 ((rd_T45 l0_1 x9_3).f1)) ∧ w'.cell? ⟨(ad189.add ((x9_3).toNat * 3)).block, (ad189.add ((x9_3).toNat * 3)).off + 2, none⟩ = some (.int .i64 ((rd_T45 l0_1 x9_3).f2)) ∧ w'.cell? (ad190.add (((rd_T45 l0_1 x9_3).f0)).toNat) = some (.int .i64 (rd t184 ((rd_T45 l0_1 x9_3).f0)))) (ds := []) #[Z,Z,Z,Z,Z,Z,Z,Z,Z,Z,Z,Z,Z,Z,Z,Z,Z,Z,Z] (by kernel_rfl) rfl rfl ⟨(blk_cell BK168.out 0).trans rfl, (blk_cell BK168.out 1).trans rfl, ((HB.out.cell (World.block_lt_of_cell? w _ hw189_0)).trans hw189_0), ((HB.out.cell (World.block_lt_of_cell? w _ hw189_1)).trans hw189_1), ((HB.out.cell (World.block_lt_of_cell? w _ hw189_2)).trans hw189_2), hx190_0, ((HB.out.cell (World.block_lt_of_cell? w _ hw191_0)).trans hw191_0), ((HB.out.cell (World.block_lt_of_cell? w _ hw191_1)).trans hw191_1), ((HB.out.cell (World.block_lt_of_cell? w _ hw191_2)).trans hw191_2), hx192_0⟩ (fun hHeld => ?_); refine with_tabW modillionlaw09_SeqMax.tab11 modillionlaw09_SeqMax.bits11 (fun HT_ HW_ => ?_)
          generalize wr.drew = w44 at HO_4 HO_6 BK168 BK171 HB hx189_0 hx189_1 hx189_2 hx190_0 hx191_0 hx191_1 hx191_2 hx192_0 hHeld ⊢
          refine pure_ (i := 0) (N := some 59) (v := ?_) (a' := ?_) #[Y,Z,Z,Z,Z,Z,Z,Z,Z,Z,Z,Z,Z,Z,Z,Z,Z,Z,Z] rfl rfl (any_of HT_.out (by kernel_rfl)) (fun _ _ _ h => h) (Or.inl ⟨by rfl, ?_⟩) ?_ ?_
          rotate_left
          ·intro w';go_simp;with_reducible rfl
          rotate_left
          ·simp only [Act.put, q1_, q2_, q3_, i64_w, i32_w];rfl
          refine pure_ (i := 1) (N := some 60) (v := ?_) (a' := ?_) #[Y,Y,Z,Z,Z,Z,Z,Z,Z,Z,Z,Z,Z,Z,Z,Z,Z,Z,Z] rfl rfl (any_of HT_.out (by kernel_rfl)) (fun _ _ _ h => h) (Or.inl ⟨by rfl, ?_⟩) ?_ ?_
          rotate_left
          ·intro w';go_simp;with_reducible rfl
          rotate_left
          ·simp only [Act.put, q1_, q2_, q3_, i64_w, i32_w];rfl
          refine pure_ (i := 3) (N := some 62) (v := ?_) (a' := ?_) #[Y,Y,Z,Y,Z,Z,Z,Z,Z,Z,Z,Z,Z,Z,Z,Z,Z,Z,Z] rfl rfl (any_of HT_.out (by kernel_rfl)) (fun _ _ _ h => h) (Or.inl ⟨by rfl, ?_⟩) ?_ ?_
          rotate_left
          ·intro w';go_simp;with_reducible rfl
          rotate_left
          ·simp only [Act.put, q1_, q2_, q3_, i64_w, i32_w];rfl
          refine pure_ (i := 9) (N := some 68) (v := ?_) (a' := ?_) #[Y,Y,Z,Y,Z,Z,Z,Z,Z,Y,Z,Z,Z,Z,Z,Z,Z,Z,Z] rfl rfl (any_of HT_.out (by kernel_rfl)) (fun _ _ _ h => h) (Or.inl ⟨by rfl, ?_⟩) ?_ ?_
          rotate_left
          ·intro w';go_simp;with_reducible rfl
          rotate_left
          ·simp only [Act.put, q1_, q2_, q3_, i64_w, i32_w];rfl
          refine pure_ (i := 10) (N := some 69) (v := ?_) (a' := ?_) #[Y,Y,Z,Y,Z,Z,Z,Z,Z,Y,Y,Z,Z,Z,Z,Z,Z,Z,Z] rfl rfl (any_of HT_.out (by kernel_rfl)) (fun _ _ _ h => h) (Or.inl ⟨by rfl, ?_⟩) ?_ ?_
          rotate_left
          ·intro w';go_simp;with_reducible rfl
          rotate_left
          ·simp only [Act.put, q1_, q2_, q3_, i64_w, i32_w];rfl
          refine pure_ (i := 12) (N := some 71) (v := ?_) (a' := ?_) #[Y,Y,Z,Y,Z,Z,Z,Z,Z,Y,Y,Z,Y,Z,Z,Z,Z,Z,Z] rfl rfl (any_of HT_.out (by kernel_rfl)) (fun _ _ _ h => h) (Or.inl ⟨by rfl, ?_⟩) ?_ ?_
          rotate_left
          ·intro w';go_simp;with_reducible rfl
          rotate_left
          ·simp only [Act.put, q1_, q2_, q3_, i64_w, i32_w];rfl
          refine take_ (i := 2) (N := some 61) (v := ?_) (a' := ?_) #[Y,Y,Y,Y,Z,Z,Z,Z,Z,Y,Y,Z,Y,Z,Z,Z,Z,Z,Z] rfl rfl (take_ofW HT_.out HW_.out (by kernel_rfl)) (fun _ _ _ h => h) (Or.inl ⟨by rfl, ?_⟩) hHeld ?_ ?_
          rotate_left
          ·rintro w' ⟨s0, s1, s2, s3, s4, s5, s6, s7, s8, s9⟩;go_simp;with_reducible rfl
          rotate_left
          ·simp only [Act.put, q1_, q2_, q3_, i64_w, i32_w];rfl
          refine pure_ (i := 4) (N := some 63) (v := ?_) (a' := ?_) #[Y,Y,Y,Y,Y,Z,Z,Z,Z,Y,Y,Z,Y,Z,Z,Z,Z,Z,Z] rfl rfl (any_of HT_.out (by kernel_rfl)) (fun _ _ _ h => h) (Or.inl ⟨by rfl, ?_⟩) ?_ ?_
          rotate_left
          ·intro w';go_simp;with_reducible rfl
          rotate_left
          ·simp only [Act.put, q1_, q2_, q3_, i64_w, i32_w];rfl
          refine pure_ (i := 5) (N := some 64) (v := ?_) (a' := ?_) #[Y,Y,Y,Y,Y,Y,Z,Z,Z,Y,Y,Z,Y,Z,Z,Z,Z,Z,Z] rfl rfl (any_of HT_.out (by kernel_rfl)) (fun _ _ _ h => h) (Or.inl ⟨by rfl, ?_⟩) ?_ ?_
          rotate_left
          ·intro w';go_simp;with_reducible rfl
          rotate_left
          ·simp only [Act.put, q1_, q2_, q3_, i64_w, i32_w];rfl
          refine take_ (i := 6) (N := some 65) (v := ?_) (a' := ?_) #[Y,Y,Y,Y,Y,Y,Y,Z,Z,Y,Y,Z,Y,Z,Z,Z,Z,Z,Z] rfl rfl (take_ofW HT_.out HW_.out (by kernel_rfl)) (fun _ _ _ h => h) (Or.inl ⟨by rfl, ?_⟩) hHeld ?_ ?_
          rotate_left
          ·rintro w' ⟨s0, s1, s2, s3, s4, s5, s6, s7, s8, s9⟩;go_simp;with_reducible rfl
          rotate_left
          ·simp only [Act.put, q1_, q2_, q3_, i64_w, i32_w];rfl
          refine pure_ (i := 7) (N := some 66) (v := ?_) (a' := ?_) #[Y,Y,Y,Y,Y,Y,Y,Y,Z,Y,Y,Z,Y,Z,Z,Z,Z,Z,Z] rfl rfl (any_of HT_.out (by kernel_rfl)) (fun _ _ _ h => h) (Or.inl ⟨by rfl, ?_⟩) ?_ ?_
          rotate_left
          ·intro w';go_simp;with_reducible rfl
          rotate_left
          ·simp only [Act.put, q1_, q2_, q3_, i64_w, i32_w];rfl
          refine take_ (i := 8) (N := some 67) (v := ?_) (a' := ?_) #[Y,Y,Y,Y,Y,Y,Y,Y,Y,Y,Y,Z,Y,Z,Z,Z,Z,Z,Z] rfl rfl (take_ofW HT_.out HW_.out (by kernel_rfl)) (fun _ _ _ h => h) (Or.inl ⟨by rfl, ?_⟩) hHeld ?_ ?_
          rotate_left
          ·rintro w' ⟨s0, s1, s2, s3, s4, s5, s6, s7, s8, s9⟩;go_simp;with_reducible rfl
          rotate_left
          ·simp only [Act.put, q1_, q2_, q3_, i64_w, i32_w];rfl
          refine take_ (i := 11) (N := some 70) (v := ?_) (a' := ?_) #[Y,Y,Y,Y,Y,Y,Y,Y,Y,Y,Y,Y,Y,Z,Z,Z,Z,Z,Z] rfl rfl (take_ofW HT_.out HW_.out (by kernel_rfl)) (fun _ _ _ h => h) (Or.inl ⟨by rfl, ?_⟩) hHeld ?_ ?_
          rotate_left
          ·rintro w' ⟨s0, s1, s2, s3, s4, s5, s6, s7, s8, s9⟩;go_simp;with_reducible rfl
          rotate_left
          ·simp only [Act.put, q1_, q2_, q3_, i64_w, i32_w];rfl
          refine pure_ (i := 13) (N := some 72) (v := ?_) (a' := ?_) #[Y,Y,Y,Y,Y,Y,Y,Y,Y,Y,Y,Y,Y,Y,Z,Z,Z,Z,Z] rfl rfl (any_of HT_.out (by kernel_rfl)) (fun _ _ _ h => h) (Or.inl ⟨by rfl, ?_⟩) ?_ ?_
          rotate_left
          ·intro w';go_simp;with_reducible rfl
          rotate_left
          ·simp only [Act.put, q1_, q2_, q3_, i64_w, i32_w];rfl
          refine pure_ (i := 14) (N := some 73) (v := ?_) (a' := ?_) #[Y,Y,Y,Y,Y,Y,Y,Y,Y,Y,Y,Y,Y,Y,Y,Z,Z,Z,Z] rfl rfl (any_of HT_.out (by kernel_rfl)) (fun _ _ _ h => h) (Or.inl ⟨by rfl, ?_⟩) ?_ ?_
          rotate_left
          ·intro w';go_simp;with_reducible rfl
          rotate_left
          ·simp only [Act.put, q1_, q2_, q3_, i64_w, i32_w];rfl
          refine take_ (i := 15) (N := some 74) (v := ?_) (a' := ?_) #[Y,Y,Y,Y,Y,Y,Y,Y,Y,Y,Y,Y,Y,Y,Y,Y,Z,Z,Z] rfl rfl (take_ofW HT_.out HW_.out (by kernel_rfl)) (fun _ _ _ h => h) (Or.inl ⟨by rfl, ?_⟩) hHeld ?_ ?_
          rotate_left
          ·rintro w' ⟨s0, s1, s2, s3, s4, s5, s6, s7, s8, s9⟩;go_simp;with_reducible rfl
          rotate_left
          ·simp only [Act.put, q1_, q2_, q3_, i64_w, i32_w];rfl
          refine pure_ (i := 16) (N := some 75) (v := ?_) (a' := ?_) #[Y,Y,Y,Y,Y,Y,Y,Y,Y,Y,Y,Y,Y,Y,Y,Y,Y,Z,Z] rfl rfl (any_of HT_.out (by kernel_rfl)) (fun _ _ _ h => h) (Or.inl ⟨by rfl, ?_⟩) ?_ ?_
          rotate_left
          ·intro w';go_simp;with_reducible rfl
          rotate_left
          ·simp only [Act.put, q1_, q2_, q3_, i64_w, i32_w];rfl
          refine take_ (i := 17) (N := some 76) (v := ?_) (a' := ?_) #[Y,Y,Y,Y,Y,Y,Y,Y,Y,Y,Y,Y,Y,Y,Y,Y,Y,Y,Z] rfl rfl (take_ofW HT_.out HW_.out (by kernel_rfl)) (fun _ _ _ h => h) (Or.inl ⟨by rfl, ?_⟩) hHeld ?_ ?_
          rotate_left
          ·rintro w' ⟨s0, s1, s2, s3, s4, s5, s6, s7, s8, s9⟩;go_simp;with_reducible rfl
          rotate_left
          ·simp only [Act.put, q1_, q2_, q3_, i64_w, i32_w];rfl
          refine pure_ (i := 18) (N := some 77) (v := ?_) (a' := ?_) #[Y,Y,Y,Y,Y,Y,Y,Y,Y,Y,Y,Y,Y,Y,Y,Y,Y,Y,Y] rfl rfl (any_of HT_.out (by kernel_rfl)) (fun _ _ _ h => h) (Or.inl ⟨by rfl, ?_⟩) ?_ ?_
          rotate_left
          ·intro w';go_simp;with_reducible rfl
          rotate_left
          ·simp only [Act.put, q1_, q2_, q3_, i64_w, i32_w];rfl
          refine done_ (done_of HT_.out (by kernel_rfl)) ?_
          have H := HH_.out
          clear HH_
          by_cases c41 : (rd t184 ((rd_T45 l0_1 x9_3).f1)) < (rd t184 ((rd_T45 l0_1 x9_3).f0))
          ·rw [if_pos c41] at H
           have c41b0 := decide_eq_true c41
           clear c41
           (first | rw [c41b0] | simp only [c41b0] | skip)
           obtain rfl := Option.some.inj H
           try go_wp2
           go_ret
           exact ⟨by first | rfl | (simp [errW_none, errW_some] <;> rfl) | (simp [*, errW_none, errW_some] <;> rfl), by exact kB HB.out⟩
          ·rw [if_neg c41] at H
           have c41b0 := decide_eq_false c41
           clear c41
           (first | rw [c41b0] | simp only [c41b0] | skip)
           have H' := Aside0.mk H
           clear H
           try go_wp2
           go_roundg k3
           case measure => have := HJ1.out; have := HJ18.out; have := HK3.out; omega
           case rel => exact ⟨(wrap64 (x9_3 + 1)), (by first | rfl | (simp; done) | (simp [*]; done)), H', ⟨by have := HJ1.out; have := HJ18.out; have := HK3.out; omega⟩, ⟨kR HO_4.out⟩, ⟨kR HO_6.out⟩, ⟨kA BK168.out⟩, ⟨kA BK171.out⟩, ⟨kB HB.out⟩⟩
         ·rw [if_neg c35] at H
          have c35b0 := decide_eq_false c35
          clear c35
          have H' := Aside0.mk H
          clear H
          have hnb50 := NB168_171.out
          have hnc50 := NB171_168.out
          have hcz51_0 : wr.cell? ⟨gb168, 0, none⟩ = some (.int .i64 a0_0) := (blk_cell BK168.out 0).trans rfl
          have hcz51_1 : wr.cell? ⟨gb168, 1, none⟩ = some (.slice A0_1 l0_1.length c0_1) := (blk_cell BK168.out 1).trans rfl
          have hfz51_0 := blk_frozen BK168.out 0
          have hfz51_1 := blk_frozen BK168.out 1
          go_wp2
          go_loopg [10] k3 (fun kq v10 w' => ∃ (x10_4 : Int), v10 = .int .i64 x10_4 ∧ Aside0 (modillionlaw09_SeqMax.l1 kq t176 t184 x10_4 = some r) ∧ Aside0 (kq ≤ k3) ∧ Aside0 (Kd.R k50 50 w' w.heap.size (fun _ => True) v177 t176) ∧ Aside0 (Kd.R (Kd.int .i64) 2 w' w.heap.size (fun _ => True) v185 t184) ∧ Aside0 (w'.heap[gb168]? = some (.cells #[.int .i64 a0_0, (.slice A0_1 l0_1.length c0_1)] 24 (0, 0))) ∧ Aside0 (w'.heap[gb171]? = some (.cells #[.string (⟨#[109, 97, 120]⟩ : ByteArray), .int .i64 0, .int .i64 20] 26 (0, 0))) ∧ Aside0 (Below w.heap.size w w'))
          case atStart => exact ⟨(0), (by first | rfl | (simp; done) | (simp [*]; done)), H', ⟨Nat.le_refl _⟩, ⟨kR HO_4.out⟩, ⟨kR HO_6.out⟩, ⟨kA BK168.out⟩, ⟨kA BK171.out⟩, ⟨kB HB.out⟩⟩
          case round =>
           clear H'
           try clear c1
           try clear p1
           try clear q1
           try clear hx1
           try clear c2
           try clear p2
           try clear c3
           try clear c4
           try clear c5
           try clear c6
           try clear c6b0
           try clear c6b1
           try clear p6
           try clear c9
           try clear c11
           try clear c12
           try clear c13
           try clear c14
           try clear p18
           try clear q18
           try clear hx18
           try clear p19
           try clear q19
           try clear hx19
           try clear c21
           try clear c32
           try clear c32b0
           try clear c32b1
           try clear c33
           try clear c35
           try clear c35b0
           try clear c36
           try clear c36b0
           try clear c37
           try clear c37b0
           try clear c38
           try clear c38b0
           try clear c39
           try clear c39b0
           try clear c40
           try clear c40b0
           try clear c41
           try clear c41b0
           try clear c42
           try clear c46
           try clear c50
           try clear hcz10_0
           try clear hcz10_1
           try clear hcz22_0
           try clear hcz22_1
           try clear hcz22_2
           try clear hcz43_0
           try clear hcz43_1
           try clear hcz47_0
           try clear hcz47_1
           try clear hcz51_0
           try clear hcz51_1
           try clear hcz8_0
           try clear hcz8_1
           try clear hfz10_0
           try clear hfz10_1
           try clear hfz22_0
           try clear hfz22_1
           try clear hfz22_2
           try clear hfz43_0
           try clear hfz43_1
           try clear hfz47_0
           try clear hfz47_1
           try clear hfz51_0
           try clear hfz51_1
           try clear hfz8_0
           try clear hfz8_1
           try clear hx189_0
           try clear hx189_1
           try clear hx189_2
           try clear hx190_0
           try clear hx191_0
           try clear hx191_1
           try clear hx191_2
           try clear hx192_0
           try clear p189
           try clear p190
           try clear p191
           try clear p192
           try clear p2
           try clear q189
           try clear q190
           try clear q191
           try clear q192
           obtain ⟨x10_4, rfl, HA, HK4, HO_4, HO_6, BK168, BK171, HB⟩ := hrel
           cases gk with
           | zero => exact absurd HA.out (by simp [modillionlaw09_SeqMax.l1])
           | succ k4 =>
            have H := HA.out
            clear HA
            simp only [modillionlaw09_SeqMax.l1] at H
            by_cases c52 : x10_4 < (t184.length : Int)
            ·rw [if_pos c52] at H
             have c52b0 := decide_eq_true c52
             clear c52
             have H' := Aside0.mk H
             clear H
             obtain ⟨Ao53, co53, eo53⟩ := Kd.R_slice HO_6.out
             subst eo53
             go_wp2
             go_loopg [11, 12] k4 (fun kq v11 v12 w' => ∃ (x11_5 : Bool) (x12_5 : Int), v11 = .bool x11_5 ∧ v12 = .int .i64 x12_5 ∧ Aside0 (modillionlaw09_SeqMax.l2 kq t176 t184 x10_4 x11_5 x12_5 = some r) ∧ Aside0 (kq ≤ k4) ∧ Aside0 (Kd.R k50 50 w' w.heap.size (fun _ => True) v177 t176) ∧ Aside0 (Kd.R (Kd.int .i64) 2 w' w.heap.size (fun _ => True) (.slice Ao53 t184.length co53) t184) ∧ Aside0 (w'.heap[gb168]? = some (.cells #[.int .i64 a0_0, (.slice A0_1 l0_1.length c0_1)] 24 (0, 0))) ∧ Aside0 (w'.heap[gb171]? = some (.cells #[.string (⟨#[109, 97, 120]⟩ : ByteArray), .int .i64 0, .int .i64 20] 26 (0, 0))) ∧ Aside0 (Below w.heap.size w w'))
             case atStart => exact ⟨(false), (0), (by first | rfl | (simp; done) | (simp [*]; done)), (by first | rfl | (simp; done) | (simp [*]; done)), H', ⟨Nat.le_refl _⟩, ⟨kR HO_4.out⟩, ⟨kR HO_6.out⟩, ⟨kA BK168.out⟩, ⟨kA BK171.out⟩, ⟨kB HB.out⟩⟩
             case round =>
              clear H'
              try clear c1
              try clear p1
              try clear q1
              try clear hx1
              try clear c2
              try clear p2
              try clear c3
              try clear c4
              try clear c5
              try clear c6
              try clear c6b0
              try clear c6b1
              try clear p6
              try clear c9
              try clear c11
              try clear c12
              try clear c13
              try clear c14
              try clear p18
              try clear q18
              try clear hx18
              try clear p19
              try clear q19
              try clear hx19
              try clear c21
              try clear c32
              try clear c32b0
              try clear c32b1
              try clear c33
              try clear c35
              try clear c35b0
              try clear c36
              try clear c36b0
              try clear c37
              try clear c37b0
              try clear c38
              try clear c38b0
              try clear c39
              try clear c39b0
              try clear c40
              try clear c40b0
              try clear c41
              try clear c41b0
              try clear c42
              try clear c46
              try clear c50
              try clear c52
              try clear c52b0
              try clear hcz10_0
              try clear hcz10_1
              try clear hcz22_0
              try clear hcz22_1
              try clear hcz22_2
              try clear hcz43_0
              try clear hcz43_1
              try clear hcz47_0
              try clear hcz47_1
              try clear hcz51_0
              try clear hcz51_1
              try clear hcz8_0
              try clear hcz8_1
              try clear hfz10_0
              try clear hfz10_1
              try clear hfz22_0
              try clear hfz22_1
              try clear hfz22_2
              try clear hfz43_0
              try clear hfz43_1
              try clear hfz47_0
              try clear hfz47_1
              try clear hfz51_0
              try clear hfz51_1
              try clear hfz8_0
              try clear hfz8_1
              try clear hx189_0
              try clear hx189_1
              try clear hx189_2
              try clear hx190_0
              try clear hx191_0
              try clear hx191_1
              try clear hx191_2
              try clear hx192_0
              try clear p1
              try clear p18
              try clear p189
              try clear p19
              try clear p190
              try clear p191
              try clear p192
              try clear p2
              try clear p6
              try clear q1
              try clear q18
              try clear q189
              try clear q19
              try clear q190
              try clear q191
              try clear q192
              obtain ⟨x11_5, x12_5, rfl, rfl, HA, HK5, HO_4, HO_6, BK168, BK171, HB⟩ := hrel
              cases gk with
              | zero => exact absurd HA.out (by simp [modillionlaw09_SeqMax.l2])
              | succ k5 =>
               have H := HA.out
               clear HA
               simp only [modillionlaw09_SeqMax.l2] at H
               by_cases c54 : x12_5 < (t176.length : Int)
               ·rw [if_pos c54] at H
                have c54b0 := decide_eq_true c54
                clear c54
                by_cases c55 : x11_5 = true
                ·subst c55
                 have H1 : (modillionlaw09_SeqMax.l2 k5 t176 t184 x10_4 true (wrap64 (x12_5 + 1))) = some r := by rw [if_pos rfl] at H; exact H
                 clear H
                 have H := H1
                 clear H1
                 have H' := Aside0.mk H
                 clear H
                 obtain ⟨Ao56, co56, eo56⟩ := Kd.R_slice HO_4.out
                 subst eo56
                 try go_wp2
                 have n0_ := Aside0.mk (Kd.R_drew HO_4.out)
                 have n1_ := Aside0.mk (Kd.R_drew HO_6.out)
                 have n2_ := Aside0.mk (blk_drew BK168.out)
                 have n3_ := Aside0.mk (blk_drew BK171.out)
                 have n4_ := Aside0.mk (below_drew1 HB.out)
                 clear HO_4
                 clear HO_6
                 clear BK168
                 clear BK171
                 clear HB
                 have HO_4 := n0_
                 have HO_6 := n1_
                 have BK168 := n2_
                 have BK171 := n3_
                 have HB := n4_
                 clear n0_ n1_ n2_ n3_ n4_
                 refine start_ (n := 14) (S := fun w' => True) (ds := []) #[Z,Z,Z,Z,Z,Z,Z,Z,Z,Z,Z,Z,Z,Z] (by kernel_rfl) rfl rfl trivial (fun hHeld => ?_); refine with_tabW modillionlaw09_SeqMax.tab20 modillionlaw09_SeqMax.bits20 (fun HT_ HW_ => ?_)
                 generalize wr.drew = w57 at HO_4 HO_6 BK168 BK171 HB hHeld ⊢
                 refine pure_ (i := 0) (N := some 90) (v := ?_) (a' := ?_) #[Y,Z,Z,Z,Z,Z,Z,Z,Z,Z,Z,Z,Z,Z] rfl rfl (any_of HT_.out (by kernel_rfl)) (fun _ _ _ h => h) (Or.inl ⟨by rfl, ?_⟩) ?_ ?_
                 rotate_left
                 ·intro w';go_simp;with_reducible rfl
                 rotate_left
                 ·simp only [Act.put, q1_, q2_, q3_, i64_w, i32_w];rfl
                 refine pure_ (i := 1) (N := some 91) (v := ?_) (a' := ?_) #[Y,Y,Z,Z,Z,Z,Z,Z,Z,Z,Z,Z,Z,Z] rfl rfl (any_of HT_.out (by kernel_rfl)) (fun _ _ _ h => h) (Or.inl ⟨by rfl, ?_⟩) ?_ ?_
                 rotate_left
                 ·intro w';go_simp;with_reducible rfl
                 rotate_left
                 ·simp only [Act.put, q1_, q2_, q3_, i64_w, i32_w];rfl
                 refine pure_ (i := 2) (N := some 92) (v := undef) (a' := ?_) #[Y,Y,Y,Z,Z,Z,Z,Z,Z,Z,Z,Z,Z,Z] rfl rfl (any_of HT_.out (by kernel_rfl)) (fun _ _ _ h => h) (Or.inr ⟨by rfl, rfl⟩) ?_ ?_
                 rotate_left
                 ·simp only [Act.put, q1_, q2_, q3_, i64_w, i32_w];rfl
                 refine pure_ (i := 3) (N := some 93) (v := undef) (a' := ?_) #[Y,Y,Y,Y,Z,Z,Z,Z,Z,Z,Z,Z,Z,Z] rfl rfl (any_of HT_.out (by kernel_rfl)) (fun _ _ _ h => h) (Or.inr ⟨by rfl, rfl⟩) ?_ ?_
                 rotate_left
                 ·simp only [Act.put, q1_, q2_, q3_, i64_w, i32_w];rfl
                 refine pure_ (i := 4) (N := some 94) (v := undef) (a' := ?_) #[Y,Y,Y,Y,Y,Z,Z,Z,Z,Z,Z,Z,Z,Z] rfl rfl (any_of HT_.out (by kernel_rfl)) (fun _ _ _ h => h) (Or.inr ⟨by rfl, rfl⟩) ?_ ?_
                 rotate_left
                 ·simp only [Act.put, q1_, q2_, q3_, i64_w, i32_w];rfl
                 refine pure_ (i := 5) (N := some 95) (v := undef) (a' := ?_) #[Y,Y,Y,Y,Y,Y,Z,Z,Z,Z,Z,Z,Z,Z] rfl rfl (any_of HT_.out (by kernel_rfl)) (fun _ _ _ h => h) (Or.inr ⟨by rfl, rfl⟩) ?_ ?_
                 rotate_left
                 ·simp only [Act.put, q1_, q2_, q3_, i64_w, i32_w];rfl
                 refine pure_ (i := 6) (N := some 96) (v := undef) (a' := ?_) #[Y,Y,Y,Y,Y,Y,Y,Z,Z,Z,Z,Z,Z,Z] rfl rfl (any_of HT_.out (by kernel_rfl)) (fun _ _ _ h => h) (Or.inr ⟨by rfl, rfl⟩) ?_ ?_
                 rotate_left
                 ·simp only [Act.put, q1_, q2_, q3_, i64_w, i32_w];rfl
                 refine pure_ (i := 7) (N := some 97) (v := undef) (a' := ?_) #[Y,Y,Y,Y,Y,Y,Y,Y,Z,Z,Z,Z,Z,Z] rfl rfl (any_of HT_.out (by kernel_rfl)) (fun _ _ _ h => h) (Or.inr ⟨by rfl, rfl⟩) ?_ ?_
                 rotate_left
                 ·simp only [Act.put, q1_, q2_, q3_, i64_w, i32_w];rfl
                 refine pure_ (i := 8) (N := some 98) (v := undef) (a' := ?_) #[Y,Y,Y,Y,Y,Y,Y,Y,Y,Z,Z,Z,Z,Z] rfl rfl (any_of HT_.out (by kernel_rfl)) (fun _ _ _ h => h) (Or.inr ⟨by rfl, rfl⟩) ?_ ?_
                 rotate_left
                 ·simp only [Act.put, q1_, q2_, q3_, i64_w, i32_w];rfl
                 refine pure_ (i := 9) (N := some 99) (v := undef) (a' := ?_) #[Y,Y,Y,Y,Y,Y,Y,Y,Y,Y,Z,Z,Z,Z] rfl rfl (any_of HT_.out (by kernel_rfl)) (fun _ _ _ h => h) (Or.inr ⟨by rfl, rfl⟩) ?_ ?_
                 rotate_left
                 ·simp only [Act.put, q1_, q2_, q3_, i64_w, i32_w];rfl
                 refine pure_ (i := 10) (N := some 100) (v := undef) (a' := ?_) #[Y,Y,Y,Y,Y,Y,Y,Y,Y,Y,Y,Z,Z,Z] rfl rfl (any_of HT_.out (by kernel_rfl)) (fun _ _ _ h => h) (Or.inr ⟨by rfl, rfl⟩) ?_ ?_
                 rotate_left
                 ·simp only [Act.put, q1_, q2_, q3_, i64_w, i32_w];rfl
                 refine pure_ (i := 11) (N := some 101) (v := undef) (a' := ?_) #[Y,Y,Y,Y,Y,Y,Y,Y,Y,Y,Y,Y,Z,Z] rfl rfl (any_of HT_.out (by kernel_rfl)) (fun _ _ _ h => h) (Or.inr ⟨by rfl, rfl⟩) ?_ ?_
                 rotate_left
                 ·simp only [Act.put, q1_, q2_, q3_, i64_w, i32_w];rfl
                 refine pure_ (i := 12) (N := some 102) (v := ?_) (a' := ?_) #[Y,Y,Y,Y,Y,Y,Y,Y,Y,Y,Y,Y,Y,Z] rfl rfl (any_of HT_.out (by kernel_rfl)) (fun _ _ _ h => h) (Or.inl ⟨by rfl, ?_⟩) ?_ ?_
                 rotate_left
                 ·intro w';go_simp;with_reducible rfl
                 rotate_left
                 ·simp only [Act.put, q1_, q2_, q3_, i64_w, i32_w];rfl
                 refine pure_ (i := 13) (N := some 11) (v := ?_) (a' := ?_) #[Y,Y,Y,Y,Y,Y,Y,Y,Y,Y,Y,Y,Y,Y] rfl rfl (any_of HT_.out (by kernel_rfl)) (fun _ _ _ h => h) (Or.inl ⟨by rfl, ?_⟩) ?_ ?_
                 rotate_left
                 ·intro w';go_simp;with_reducible rfl
                 rotate_left
                 ·simp only [Act.put, q1_, q2_, q3_, i64_w, i32_w];rfl
                 refine done_ (done_of HT_.out (by kernel_rfl)) ?_
                 try go_wp2
                 go_roundg k5
                 case measure => have := HJ1.out; have := HJ18.out; have := HK3.out; have := HK4.out; have := HK5.out; omega
                 case rel => exact ⟨(true), (wrap64 (x12_5 + 1)), (by first | rfl | (simp; done) | (simp [*]; done)), (by first | rfl | (simp; done) | (simp [*]; done)), H', ⟨by have := HJ1.out; have := HJ18.out; have := HK3.out; have := HK4.out; have := HK5.out; omega⟩, ⟨kR HO_4.out⟩, ⟨kR HO_6.out⟩, ⟨kA BK168.out⟩, ⟨kA BK171.out⟩, ⟨kB HB.out⟩⟩
                ·replace c55 := Bool.eq_false_iff.mpr c55
                 subst c55
                 have H1 : (if 0 ≤ x12_5 then (if 0 ≤ x10_4 then (if x10_4 < (t184.length : Int) then (modillionlaw09_SeqMax.l2 k5 t176 t184 x10_4 (((rd_T50 t176 x12_5).f1) == (rd t184 x10_4)) (wrap64 (x12_5 + 1))) else (none)) else (none)) else (none)) = some r := by rw [if_neg (show ¬ (false = true) by decide)] at H; exact H
                 clear H
                 have H := H1
                 clear H1
                 obtain ⟨c58, H⟩ := iteS11 H
                 have c58b0 := decide_eq_true c58
                 clear c58
                 obtain ⟨c59, H⟩ := iteS11 H
                 have c59b0 := decide_eq_true c59
                 clear c59
                 obtain ⟨c60, H⟩ := iteS11 H
                 have c60b0 := decide_eq_true c60
                 clear c60
                 have H' := Aside0.mk H
                 clear H
                 obtain ⟨Ao61, co61, eo61⟩ := Kd.R_slice HO_4.out
                 subst eo61
                 try go_wp2
                 have n0_ := Aside0.mk (Kd.R_drew HO_4.out)
                 have n1_ := Aside0.mk (Kd.R_drew HO_6.out)
                 have n2_ := Aside0.mk (blk_drew BK168.out)
                 have n3_ := Aside0.mk (blk_drew BK171.out)
                 have n4_ := Aside0.mk (below_drew1 HB.out)
                 clear HO_4
                 clear HO_6
                 clear BK168
                 clear BK171
                 clear HB
                 have HO_4 := n0_
                 have HO_6 := n1_
                 have BK168 := n2_
                 have BK171 := n3_
                 have HB := n4_
                 clear n0_ n1_ n2_ n3_ n4_
                 have p193 : 0 ≤ (x12_5 : Int) := of_decide_eq_true (by first | (with_reducible assumption) | assumption)
                 have q193 : x12_5 < (t176.length : Int) := of_decide_eq_true (by first | (with_reducible assumption) | assumption)
                 obtain ⟨ad193, e193, hx193_0, hx193_1, hx193_2, hx193_3, hx193_4⟩ := at_T50 (Kd.R_reads' HO_4.out).2.2 x12_5 p193 q193
                 cases e193
                 replace p193 := eq_true p193
                 replace q193 := eq_true q193
                 have p194 : 0 ≤ (x10_4 : Int) := of_decide_eq_true (by first | (with_reducible assumption) | assumption)
                 have q194 : x10_4 < (t184.length : Int) := of_decide_eq_true (by first | (with_reducible assumption) | assumption)
                 obtain ⟨ad194, e194, hx194_0⟩ := Kd.at_int (Kd.R_reads' HO_6.out).2.2 x10_4 p194 q194
                 cases e194
                 replace p194 := eq_true p194
                 replace q194 := eq_true q194
                 refine start_ (n := 14) (S := fun w' => w'.cell? (ad193.add ((x12_5).toNat * 5)) = some (.int .i64 ((rd_T50 t176 x12_5).f0)) ∧ w'.cell? ⟨(ad193.add ((x12_5).toNat * 5)).block, (ad193.add ((x12_5).toNat * 5)).off + 1, none⟩ = some (.int .i64 ((rd_T50 t176 x12_5).f1)) ∧ w'.cell? ⟨(ad193.add ((x12_5).toNat * 5)).block, (ad193.add ((x12_5).toNat * 5)).off + 2, none⟩ = some (.bool ((rd_T50 t176 x12_5).f2)) ∧ w'.cell? ⟨(ad193.add ((x12_5).toNat * 5)).block, (ad193.add ((x12_5).toNat * 5)).off + 3, none⟩ = some (.bool ((rd_T50 t176 x12_5).f3)) ∧ w'.cell? ⟨(ad193.add ((x12_5).toNat * 5)).block, (ad193.add ((x12_5).toNat * 5)).off + 4, none⟩ = some (.int .i64 ((rd_T50 t176 x12_5).f4)) ∧ w'.cell? (ad194.add (x10_4).toNat) = some (.int .i64 (rd t184 x10_4))) (ds := []) #[Z,Z,Z,Z,Z,Z,Z,Z,Z,Z,Z,Z,Z,Z] (by kernel_rfl) rfl rfl ⟨hx193_0, hx193_1, hx193_2, hx193_3, hx193_4, hx194_0⟩ (fun hHeld => ?_); refine with_tabW modillionlaw09_SeqMax.tab20 modillionlaw09_SeqMax.bits20 (fun HT_ HW_ => ?_)
                 generalize wr.drew = w62 at HO_4 HO_6 BK168 BK171 HB hx193_0 hx193_1 hx193_2 hx193_3 hx193_4 hx194_0 hHeld ⊢
                 refine pure_ (i := 0) (N := some 90) (v := ?_) (a' := ?_) #[Y,Z,Z,Z,Z,Z,Z,Z,Z,Z,Z,Z,Z,Z] rfl rfl (any_of HT_.out (by kernel_rfl)) (fun _ _ _ h => h) (Or.inl ⟨by rfl, ?_⟩) ?_ ?_
                 rotate_left
                 ·intro w';go_simp;with_reducible rfl
                 rotate_left
                 ·simp only [Act.put, q1_, q2_, q3_, i64_w, i32_w];rfl
                 refine pure_ (i := 1) (N := some 91) (v := ?_) (a' := ?_) #[Y,Y,Z,Z,Z,Z,Z,Z,Z,Z,Z,Z,Z,Z] rfl rfl (any_of HT_.out (by kernel_rfl)) (fun _ _ _ h => h) (Or.inl ⟨by rfl, ?_⟩) ?_ ?_
                 rotate_left
                 ·intro w';go_simp;with_reducible rfl
                 rotate_left
                 ·simp only [Act.put, q1_, q2_, q3_, i64_w, i32_w];rfl
                 refine pure_ (i := 2) (N := some 92) (v := ?_) (a' := ?_) #[Y,Y,Y,Z,Z,Z,Z,Z,Z,Z,Z,Z,Z,Z] rfl rfl (any_of HT_.out (by kernel_rfl)) (fun _ _ _ h => h) (Or.inl ⟨by rfl, ?_⟩) ?_ ?_
                 rotate_left
                 ·intro w';go_simp;with_reducible rfl
                 rotate_left
                 ·simp only [Act.put, q1_, q2_, q3_, i64_w, i32_w];rfl
                 refine pure_ (i := 3) (N := some 93) (v := ?_) (a' := ?_) #[Y,Y,Y,Y,Z,Z,Z,Z,Z,Z,Z,Z,Z,Z] rfl rfl (any_of HT_.out (by kernel_rfl)) (fun _ _ _ h => h) (Or.inl ⟨by rfl, ?_⟩) ?_ ?_
                 rotate_left
                 ·intro w';go_simp;with_reducible rfl
                 rotate_left
                 ·simp only [Act.put, q1_, q2_, q3_, i64_w, i32_w];rfl
                 refine pure_ (i := 4) (N := some 94) (v := ?_) (a' := ?_) #[Y,Y,Y,Y,Y,Z,Z,Z,Z,Z,Z,Z,Z,Z] rfl rfl (any_of HT_.out (by kernel_rfl)) (fun _ _ _ h => h) (Or.inl ⟨by rfl, ?_⟩) ?_ ?_
                 rotate_left
                 ·intro w';go_simp;with_reducible rfl
                 rotate_left
                 ·simp only [Act.put, q1_, q2_, q3_, i64_w, i32_w];rfl
                 refine pure_ (i := 5) (N := some 95) (v := ?_) (a' := ?_) #[Y,Y,Y,Y,Y,Y,Z,Z,Z,Z,Z,Z,Z,Z] rfl rfl (any_of HT_.out (by kernel_rfl)) (fun _ _ _ h => h) (Or.inl ⟨by rfl, ?_⟩) ?_ ?_
                 rotate_left
                 ·intro w';go_simp;with_reducible rfl
                 rotate_left
                 ·simp only [Act.put, q1_, q2_, q3_, i64_w, i32_w];rfl
                 refine pure_ (i := 7) (N := some 97) (v := ?_) (a' := ?_) #[Y,Y,Y,Y,Y,Y,Z,Y,Z,Z,Z,Z,Z,Z] rfl rfl (any_of HT_.out (by kernel_rfl)) (fun _ _ _ h => h) (Or.inl ⟨by rfl, ?_⟩) ?_ ?_
                 rotate_left
                 ·intro w';go_simp;with_reducible rfl
                 rotate_left
                 ·simp only [Act.put, q1_, q2_, q3_, i64_w, i32_w];rfl
                 refine pure_ (i := 8) (N := some 98) (v := ?_) (a' := ?_) #[Y,Y,Y,Y,Y,Y,Z,Y,Y,Z,Z,Z,Z,Z] rfl rfl (any_of HT_.out (by kernel_rfl)) (fun _ _ _ h => h) (Or.inl ⟨by rfl, ?_⟩) ?_ ?_
                 rotate_left
                 ·intro w';go_simp;with_reducible rfl
                 rotate_left
                 ·simp only [Act.put, q1_, q2_, q3_, i64_w, i32_w];rfl
                 refine pure_ (i := 9) (N := some 99) (v := ?_) (a' := ?_) #[Y,Y,Y,Y,Y,Y,Z,Y,Y,Y,Z,Z,Z,Z] rfl rfl (any_of HT_.out (by kernel_rfl)) (fun _ _ _ h => h) (Or.inl ⟨by rfl, ?_⟩) ?_ ?_
                 rotate_left
                 ·intro w';go_simp;with_reducible rfl
                 rotate_left
                 ·simp only [Act.put, q1_, q2_, q3_, i64_w, i32_w];rfl
                 refine take_ (i := 6) (N := some 96) (v := ?_) (a' := ?_) #[Y,Y,Y,Y,Y,Y,Y,Y,Y,Y,Z,Z,Z,Z] rfl rfl (take_ofW HT_.out HW_.out (by kernel_rfl)) (fun _ _ _ h => h) (Or.inl ⟨by rfl, ?_⟩) hHeld ?_ ?_
                 rotate_left
                 ·rintro w' ⟨s0, s1, s2, s3, s4, s5⟩;go_simp;with_reducible rfl
                 rotate_left
                 ·simp only [Act.put, q1_, q2_, q3_, i64_w, i32_w];rfl
                 refine take_ (i := 10) (N := some 100) (v := ?_) (a' := ?_) #[Y,Y,Y,Y,Y,Y,Y,Y,Y,Y,Y,Z,Z,Z] rfl rfl (take_ofW HT_.out HW_.out (by kernel_rfl)) (fun _ _ _ h => h) (Or.inl ⟨by rfl, ?_⟩) hHeld ?_ ?_
                 rotate_left
                 ·rintro w' ⟨s0, s1, s2, s3, s4, s5⟩;go_simp;with_reducible rfl
                 rotate_left
                 ·simp only [Act.put, q1_, q2_, q3_, i64_w, i32_w];rfl
                 refine pure_ (i := 11) (N := some 101) (v := ?_) (a' := ?_) #[Y,Y,Y,Y,Y,Y,Y,Y,Y,Y,Y,Y,Z,Z] rfl rfl (any_of HT_.out (by kernel_rfl)) (fun _ _ _ h => h) (Or.inl ⟨by rfl, ?_⟩) ?_ ?_
                 rotate_left
                 ·intro w';go_simp;with_reducible rfl
                 rotate_left
                 ·simp only [Act.put, q1_, q2_, q3_, i64_w, i32_w];rfl
                 refine pure_ (i := 12) (N := some 102) (v := ?_) (a' := ?_) #[Y,Y,Y,Y,Y,Y,Y,Y,Y,Y,Y,Y,Y,Z] rfl rfl (any_of HT_.out (by kernel_rfl)) (fun _ _ _ h => h) (Or.inl ⟨by rfl, ?_⟩) ?_ ?_
                 rotate_left
                 ·intro w';go_simp;with_reducible rfl
                 rotate_left
                 ·simp only [Act.put, q1_, q2_, q3_, i64_w, i32_w];rfl
                 refine pure_ (i := 13) (N := some 11) (v := ?_) (a' := ?_) #[Y,Y,Y,Y,Y,Y,Y,Y,Y,Y,Y,Y,Y,Y] rfl rfl (any_of HT_.out (by kernel_rfl)) (fun _ _ _ h => h) (Or.inl ⟨by rfl, ?_⟩) ?_ ?_
                 rotate_left
                 ·intro w';go_simp;with_reducible rfl
                 rotate_left
                 ·simp only [Act.put, q1_, q2_, q3_, i64_w, i32_w];rfl
                 refine done_ (done_of HT_.out (by kernel_rfl)) ?_
                 try go_wp2
                 go_roundg k5
                 case measure => have := HJ1.out; have := HJ18.out; have := HK3.out; have := HK4.out; have := HK5.out; omega
                 case rel => exact ⟨((((rd_T50 t176 x12_5).f1) == (rd t184 x10_4))), (wrap64 (x12_5 + 1)), (by first | rfl | (simp; done) | (simp [*]; done)), (by first | rfl | (simp; done) | (simp [*]; done)), H', ⟨by have := HJ1.out; have := HJ18.out; have := HK3.out; have := HK4.out; have := HK5.out; omega⟩, ⟨kR HO_4.out⟩, ⟨kR HO_6.out⟩, ⟨kA BK168.out⟩, ⟨kA BK171.out⟩, ⟨kB HB.out⟩⟩
               ·rw [if_neg c54] at H
                have c54b0 := decide_eq_false c54
                clear c54
                by_cases c63 : x11_5 = true
                ·subst c63
                 have H1 : (if 0 ≤ x10_4 then (if x10_4 < (t184.length : Int) then (if x10_4 < (t176.length : Int) then (if (rd t184 x10_4) < ((rd_T50 t176 x10_4).f1) then (some false) else (modillionlaw09_SeqMax.l1 k5 t176 t184 (wrap64 (x10_4 + 1)))) else (none)) else (none)) else (none)) = some r := by rw [if_pos rfl] at H; exact H
                 clear H
                 have H := H1
                 clear H1
                 obtain ⟨c64, H⟩ := iteS11 H
                 have c64b0 := decide_eq_true c64
                 clear c64
                 obtain ⟨c65, H⟩ := iteS11 H
                 have c65b0 := decide_eq_true c65
                 clear c65
                 obtain ⟨c66, H⟩ := iteS11 H
                 have c66b0 := decide_eq_true c66
                 clear c66
                 have HH_ := Aside0.mk H
                 clear H
                 obtain ⟨Ao68, co68, eo68⟩ := Kd.R_slice HO_4.out
                 subst eo68
                 try go_wp2
                 have n0_ := Aside0.mk (Kd.R_drew HO_4.out)
                 have n1_ := Aside0.mk (Kd.R_drew HO_6.out)
                 have n2_ := Aside0.mk (blk_drew BK168.out)
                 have n3_ := Aside0.mk (blk_drew BK171.out)
                 have n4_ := Aside0.mk (below_drew1 HB.out)
                 clear HO_4
                 clear HO_6
                 clear BK168
                 clear BK171
                 clear HB
                 have HO_4 := n0_
                 have HO_6 := n1_
                 have BK168 := n2_
                 have BK171 := n3_
                 have HB := n4_
                 clear n0_ n1_ n2_ n3_ n4_
                 have p195 : 0 ≤ (x10_4 : Int) := of_decide_eq_true (by first | (with_reducible assumption) | assumption)
                 have q195 : x10_4 < (t184.length : Int) := of_decide_eq_true (by first | (with_reducible assumption) | assumption)
                 obtain ⟨ad195, e195, hx195_0⟩ := Kd.at_int (Kd.R_reads' HO_6.out).2.2 x10_4 p195 q195
                 cases e195
                 replace p195 := eq_true p195
                 replace q195 := eq_true q195
                 have p196 : 0 ≤ (x10_4 : Int) := of_decide_eq_true (by first | (with_reducible assumption) | assumption)
                 have q196 : x10_4 < (t176.length : Int) := of_decide_eq_true (by first | (with_reducible assumption) | assumption)
                 obtain ⟨ad196, e196, hx196_0, hx196_1, hx196_2, hx196_3, hx196_4⟩ := at_T50 (Kd.R_reads' HO_4.out).2.2 x10_4 p196 q196
                 cases e196
                 replace p196 := eq_true p196
                 replace q196 := eq_true q196
                 refine start_ (n := 14) (S := fun w' => w'.cell? (ad195.add (x10_4).toNat) = some (.int .i64 (rd t184 x10_4)) ∧ w'.cell? (ad196.add ((x10_4).toNat * 5)) = some (.int .i64 ((rd_T50 t176 x10_4).f0)) ∧ w'.cell? ⟨(ad196.add ((x10_4).toNat * 5)).block, (ad196.add ((x10_4).toNat * 5)).off + 1, none⟩ = some (.int .i64 ((rd_T50 t176 x10_4).f1)) ∧ w'.cell? ⟨(ad196.add ((x10_4).toNat * 5)).block, (ad196.add ((x10_4).toNat * 5)).off + 2, none⟩ = some (.bool ((rd_T50 t176 x10_4).f2)) ∧ w'.cell? ⟨(ad196.add ((x10_4).toNat * 5)).block, (ad196.add ((x10_4).toNat * 5)).off + 3, none⟩ = some (.bool ((rd_T50 t176 x10_4).f3)) ∧ w'.cell? ⟨(ad196.add ((x10_4).toNat * 5)).block, (ad196.add ((x10_4).toNat * 5)).off + 4, none⟩ = some (.int .i64 ((rd_T50 t176 x10_4).f4))) (ds := []) #[Z,Z,Z,Z,Z,Z,Z,Z,Z,Z,Z,Z,Z,Z] (by kernel_rfl) rfl rfl ⟨hx195_0, hx196_0, hx196_1, hx196_2, hx196_3, hx196_4⟩ (fun hHeld => ?_); refine with_tabW modillionlaw09_SeqMax.tab21 modillionlaw09_SeqMax.bits21 (fun HT_ HW_ => ?_)
                 generalize wr.drew = w69 at HO_4 HO_6 BK168 BK171 HB hx195_0 hx196_0 hx196_1 hx196_2 hx196_3 hx196_4 hHeld ⊢
                 refine pure_ (i := 0) (N := some 103) (v := ?_) (a' := ?_) #[Y,Z,Z,Z,Z,Z,Z,Z,Z,Z,Z,Z,Z,Z] rfl rfl (any_of HT_.out (by kernel_rfl)) (fun _ _ _ h => h) (Or.inl ⟨by rfl, ?_⟩) ?_ ?_
                 rotate_left
                 ·intro w';go_simp;with_reducible rfl
                 rotate_left
                 ·simp only [Act.put, q1_, q2_, q3_, i64_w, i32_w];rfl
                 refine pure_ (i := 1) (N := some 104) (v := ?_) (a' := ?_) #[Y,Y,Z,Z,Z,Z,Z,Z,Z,Z,Z,Z,Z,Z] rfl rfl (any_of HT_.out (by kernel_rfl)) (fun _ _ _ h => h) (Or.inl ⟨by rfl, ?_⟩) ?_ ?_
                 rotate_left
                 ·intro w';go_simp;with_reducible rfl
                 rotate_left
                 ·simp only [Act.put, q1_, q2_, q3_, i64_w, i32_w];rfl
                 refine pure_ (i := 2) (N := some 105) (v := ?_) (a' := ?_) #[Y,Y,Y,Z,Z,Z,Z,Z,Z,Z,Z,Z,Z,Z] rfl rfl (any_of HT_.out (by kernel_rfl)) (fun _ _ _ h => h) (Or.inl ⟨by rfl, ?_⟩) ?_ ?_
                 rotate_left
                 ·intro w';go_simp;with_reducible rfl
                 rotate_left
                 ·simp only [Act.put, q1_, q2_, q3_, i64_w, i32_w];rfl
                 refine pure_ (i := 3) (N := some 106) (v := ?_) (a' := ?_) #[Y,Y,Y,Y,Z,Z,Z,Z,Z,Z,Z,Z,Z,Z] rfl rfl (any_of HT_.out (by kernel_rfl)) (fun _ _ _ h => h) (Or.inl ⟨by rfl, ?_⟩) ?_ ?_
                 rotate_left
                 ·intro w';go_simp;with_reducible rfl
                 rotate_left
                 ·simp only [Act.put, q1_, q2_, q3_, i64_w, i32_w];rfl
                 refine pure_ (i := 4) (N := some 107) (v := ?_) (a' := ?_) #[Y,Y,Y,Y,Y,Z,Z,Z,Z,Z,Z,Z,Z,Z] rfl rfl (any_of HT_.out (by kernel_rfl)) (fun _ _ _ h => h) (Or.inl ⟨by rfl, ?_⟩) ?_ ?_
                 rotate_left
                 ·intro w';go_simp;with_reducible rfl
                 rotate_left
                 ·simp only [Act.put, q1_, q2_, q3_, i64_w, i32_w];rfl
                 refine pure_ (i := 5) (N := some 108) (v := ?_) (a' := ?_) #[Y,Y,Y,Y,Y,Y,Z,Z,Z,Z,Z,Z,Z,Z] rfl rfl (any_of HT_.out (by kernel_rfl)) (fun _ _ _ h => h) (Or.inl ⟨by rfl, ?_⟩) ?_ ?_
                 rotate_left
                 ·intro w';go_simp;with_reducible rfl
                 rotate_left
                 ·simp only [Act.put, q1_, q2_, q3_, i64_w, i32_w];rfl
                 refine pure_ (i := 7) (N := some 110) (v := ?_) (a' := ?_) #[Y,Y,Y,Y,Y,Y,Z,Y,Z,Z,Z,Z,Z,Z] rfl rfl (any_of HT_.out (by kernel_rfl)) (fun _ _ _ h => h) (Or.inl ⟨by rfl, ?_⟩) ?_ ?_
                 rotate_left
                 ·intro w';go_simp;with_reducible rfl
                 rotate_left
                 ·simp only [Act.put, q1_, q2_, q3_, i64_w, i32_w];rfl
                 refine pure_ (i := 8) (N := some 111) (v := ?_) (a' := ?_) #[Y,Y,Y,Y,Y,Y,Z,Y,Y,Z,Z,Z,Z,Z] rfl rfl (any_of HT_.out (by kernel_rfl)) (fun _ _ _ h => h) (Or.inl ⟨by rfl, ?_⟩) ?_ ?_
                 rotate_left
                 ·intro w';go_simp;with_reducible rfl
                 rotate_left
                 ·simp only [Act.put, q1_, q2_, q3_, i64_w, i32_w];rfl
                 refine pure_ (i := 9) (N := some 112) (v := ?_) (a' := ?_) #[Y,Y,Y,Y,Y,Y,Z,Y,Y,Y,Z,Z,Z,Z] rfl rfl (any_of HT_.out (by kernel_rfl)) (fun _ _ _ h => h) (Or.inl ⟨by rfl, ?_⟩) ?_ ?_
                 rotate_left
                 ·intro w';go_simp;with_reducible rfl
                 rotate_left
                 ·simp only [Act.put, q1_, q2_, q3_, i64_w, i32_w];rfl
                 refine pure_ (i := 10) (N := some 113) (v := ?_) (a' := ?_) #[Y,Y,Y,Y,Y,Y,Z,Y,Y,Y,Y,Z,Z,Z] rfl rfl (any_of HT_.out (by kernel_rfl)) (fun _ _ _ h => h) (Or.inl ⟨by rfl, ?_⟩) ?_ ?_
                 rotate_left
                 ·intro w';go_simp;with_reducible rfl
                 rotate_left
                 ·simp only [Act.put, q1_, q2_, q3_, i64_w, i32_w];rfl
                 refine take_ (i := 6) (N := some 109) (v := ?_) (a' := ?_) #[Y,Y,Y,Y,Y,Y,Y,Y,Y,Y,Y,Z,Z,Z] rfl rfl (take_ofW HT_.out HW_.out (by kernel_rfl)) (fun _ _ _ h => h) (Or.inl ⟨by rfl, ?_⟩) hHeld ?_ ?_
                 rotate_left
                 ·rintro w' ⟨s0, s1, s2, s3, s4, s5⟩;go_simp;with_reducible rfl
                 rotate_left
                 ·simp only [Act.put, q1_, q2_, q3_, i64_w, i32_w];rfl
                 refine take_ (i := 11) (N := some 114) (v := ?_) (a' := ?_) #[Y,Y,Y,Y,Y,Y,Y,Y,Y,Y,Y,Y,Z,Z] rfl rfl (take_ofW HT_.out HW_.out (by kernel_rfl)) (fun _ _ _ h => h) (Or.inl ⟨by rfl, ?_⟩) hHeld ?_ ?_
                 rotate_left
                 ·rintro w' ⟨s0, s1, s2, s3, s4, s5⟩;go_simp;with_reducible rfl
                 rotate_left
                 ·simp only [Act.put, q1_, q2_, q3_, i64_w, i32_w];rfl
                 refine pure_ (i := 12) (N := some 115) (v := ?_) (a' := ?_) #[Y,Y,Y,Y,Y,Y,Y,Y,Y,Y,Y,Y,Y,Z] rfl rfl (any_of HT_.out (by kernel_rfl)) (fun _ _ _ h => h) (Or.inl ⟨by rfl, ?_⟩) ?_ ?_
                 rotate_left
                 ·intro w';go_simp;with_reducible rfl
                 rotate_left
                 ·simp only [Act.put, q1_, q2_, q3_, i64_w, i32_w];rfl
                 refine pure_ (i := 13) (N := some 116) (v := ?_) (a' := ?_) #[Y,Y,Y,Y,Y,Y,Y,Y,Y,Y,Y,Y,Y,Y] rfl rfl (any_of HT_.out (by kernel_rfl)) (fun _ _ _ h => h) (Or.inl ⟨by rfl, ?_⟩) ?_ ?_
                 rotate_left
                 ·intro w';go_simp;with_reducible rfl
                 rotate_left
                 ·simp only [Act.put, q1_, q2_, q3_, i64_w, i32_w];rfl
                 refine done_ (done_of HT_.out (by kernel_rfl)) ?_
                 have H := HH_.out
                 clear HH_
                 by_cases c67 : (rd t184 x10_4) < ((rd_T50 t176 x10_4).f1)
                 ·rw [if_pos c67] at H
                  have c67b0 := decide_eq_true c67
                  clear c67
                  (first | rw [c67b0] | simp only [c67b0] | skip)
                  obtain rfl := Option.some.inj H
                  try go_wp2
                  go_ret
                  exact ⟨by first | rfl | (simp [errW_none, errW_some] <;> rfl) | (simp [*, errW_none, errW_some] <;> rfl), by exact kB HB.out⟩
                 ·rw [if_neg c67] at H
                  have c67b0 := decide_eq_false c67
                  clear c67
                  (first | rw [c67b0] | simp only [c67b0] | skip)
                  have H' := Aside0.mk H
                  clear H
                  try go_wp2
                  go_roundg k5
                  case measure => have := HJ1.out; have := HJ18.out; have := HK3.out; have := HK4.out; have := HK5.out; omega
                  case rel => exact ⟨(wrap64 (x10_4 + 1)), (by first | rfl | (simp; done) | (simp [*]; done)), H', ⟨by have := HJ1.out; have := HJ18.out; have := HK3.out; have := HK4.out; have := HK5.out; omega⟩, ⟨kR HO_4.out⟩, ⟨kR HO_6.out⟩, ⟨kA BK168.out⟩, ⟨kA BK171.out⟩, ⟨kB HB.out⟩⟩
                ·replace c63 := Bool.eq_false_iff.mpr c63
                 subst c63
                 have H1 : (some false) = some r := by rw [if_neg (show ¬ (false = true) by decide)] at H; exact H
                 clear H
                 have H := H1
                 clear H1
                 obtain rfl := Option.some.inj H
                 obtain ⟨Ao72, co72, eo72⟩ := Kd.R_slice HO_4.out
                 subst eo72
                 try go_wp2
                 have n0_ := Aside0.mk (Kd.R_drew HO_4.out)
                 have n1_ := Aside0.mk (Kd.R_drew HO_6.out)
                 have n2_ := Aside0.mk (blk_drew BK168.out)
                 have n3_ := Aside0.mk (blk_drew BK171.out)
                 have n4_ := Aside0.mk (below_drew1 HB.out)
                 clear HO_4
                 clear HO_6
                 clear BK168
                 clear BK171
                 clear HB
                 have HO_4 := n0_
                 have HO_6 := n1_
                 have BK168 := n2_
                 have BK171 := n3_
                 have HB := n4_
                 clear n0_ n1_ n2_ n3_ n4_
                 refine start_ (n := 14) (S := fun w' => True) (ds := []) #[Z,Z,Z,Z,Z,Z,Z,Z,Z,Z,Z,Z,Z,Z] (by kernel_rfl) rfl rfl trivial (fun hHeld => ?_); refine with_tabW modillionlaw09_SeqMax.tab21 modillionlaw09_SeqMax.bits21 (fun HT_ HW_ => ?_)
                 generalize wr.drew = w73 at HO_4 HO_6 BK168 BK171 HB hHeld ⊢
                 refine pure_ (i := 0) (N := some 103) (v := ?_) (a' := ?_) #[Y,Z,Z,Z,Z,Z,Z,Z,Z,Z,Z,Z,Z,Z] rfl rfl (any_of HT_.out (by kernel_rfl)) (fun _ _ _ h => h) (Or.inl ⟨by rfl, ?_⟩) ?_ ?_
                 rotate_left
                 ·intro w';go_simp;with_reducible rfl
                 rotate_left
                 ·simp only [Act.put, q1_, q2_, q3_, i64_w, i32_w];rfl
                 refine pure_ (i := 1) (N := some 104) (v := ?_) (a' := ?_) #[Y,Y,Z,Z,Z,Z,Z,Z,Z,Z,Z,Z,Z,Z] rfl rfl (any_of HT_.out (by kernel_rfl)) (fun _ _ _ h => h) (Or.inl ⟨by rfl, ?_⟩) ?_ ?_
                 rotate_left
                 ·intro w';go_simp;with_reducible rfl
                 rotate_left
                 ·simp only [Act.put, q1_, q2_, q3_, i64_w, i32_w];rfl
                 refine pure_ (i := 2) (N := some 105) (v := ?_) (a' := ?_) #[Y,Y,Y,Z,Z,Z,Z,Z,Z,Z,Z,Z,Z,Z] rfl rfl (any_of HT_.out (by kernel_rfl)) (fun _ _ _ h => h) (Or.inl ⟨by rfl, ?_⟩) ?_ ?_
                 rotate_left
                 ·intro w';go_simp;with_reducible rfl
                 rotate_left
                 ·simp only [Act.put, q1_, q2_, q3_, i64_w, i32_w];rfl
                 refine pure_ (i := 3) (N := some 106) (v := undef) (a' := ?_) #[Y,Y,Y,Y,Z,Z,Z,Z,Z,Z,Z,Z,Z,Z] rfl rfl (any_of HT_.out (by kernel_rfl)) (fun _ _ _ h => h) (Or.inr ⟨by rfl, rfl⟩) ?_ ?_
                 rotate_left
                 ·simp only [Act.put, q1_, q2_, q3_, i64_w, i32_w];rfl
                 refine pure_ (i := 4) (N := some 107) (v := undef) (a' := ?_) #[Y,Y,Y,Y,Y,Z,Z,Z,Z,Z,Z,Z,Z,Z] rfl rfl (any_of HT_.out (by kernel_rfl)) (fun _ _ _ h => h) (Or.inr ⟨by rfl, rfl⟩) ?_ ?_
                 rotate_left
                 ·simp only [Act.put, q1_, q2_, q3_, i64_w, i32_w];rfl
                 refine pure_ (i := 5) (N := some 108) (v := undef) (a' := ?_) #[Y,Y,Y,Y,Y,Y,Z,Z,Z,Z,Z,Z,Z,Z] rfl rfl (any_of HT_.out (by kernel_rfl)) (fun _ _ _ h => h) (Or.inr ⟨by rfl, rfl⟩) ?_ ?_
                 rotate_left
                 ·simp only [Act.put, q1_, q2_, q3_, i64_w, i32_w];rfl
                 refine pure_ (i := 6) (N := some 109) (v := undef) (a' := ?_) #[Y,Y,Y,Y,Y,Y,Y,Z,Z,Z,Z,Z,Z,Z] rfl rfl (any_of HT_.out (by kernel_rfl)) (fun _ _ _ h => h) (Or.inr ⟨by rfl, rfl⟩) ?_ ?_
                 rotate_left
                 ·simp only [Act.put, q1_, q2_, q3_, i64_w, i32_w];rfl
                 refine pure_ (i := 7) (N := some 110) (v := undef) (a' := ?_) #[Y,Y,Y,Y,Y,Y,Y,Y,Z,Z,Z,Z,Z,Z] rfl rfl (any_of HT_.out (by kernel_rfl)) (fun _ _ _ h => h) (Or.inr ⟨by rfl, rfl⟩) ?_ ?_
                 rotate_left
                 ·simp only [Act.put, q1_, q2_, q3_, i64_w, i32_w];rfl
                 refine pure_ (i := 8) (N := some 111) (v := undef) (a' := ?_) #[Y,Y,Y,Y,Y,Y,Y,Y,Y,Z,Z,Z,Z,Z] rfl rfl (any_of HT_.out (by kernel_rfl)) (fun _ _ _ h => h) (Or.inr ⟨by rfl, rfl⟩) ?_ ?_
                 rotate_left
                 ·simp only [Act.put, q1_, q2_, q3_, i64_w, i32_w];rfl
                 refine pure_ (i := 9) (N := some 112) (v := undef) (a' := ?_) #[Y,Y,Y,Y,Y,Y,Y,Y,Y,Y,Z,Z,Z,Z] rfl rfl (any_of HT_.out (by kernel_rfl)) (fun _ _ _ h => h) (Or.inr ⟨by rfl, rfl⟩) ?_ ?_
                 rotate_left
                 ·simp only [Act.put, q1_, q2_, q3_, i64_w, i32_w];rfl
                 refine pure_ (i := 10) (N := some 113) (v := undef) (a' := ?_) #[Y,Y,Y,Y,Y,Y,Y,Y,Y,Y,Y,Z,Z,Z] rfl rfl (any_of HT_.out (by kernel_rfl)) (fun _ _ _ h => h) (Or.inr ⟨by rfl, rfl⟩) ?_ ?_
                 rotate_left
                 ·simp only [Act.put, q1_, q2_, q3_, i64_w, i32_w];rfl
                 refine pure_ (i := 11) (N := some 114) (v := undef) (a' := ?_) #[Y,Y,Y,Y,Y,Y,Y,Y,Y,Y,Y,Y,Z,Z] rfl rfl (any_of HT_.out (by kernel_rfl)) (fun _ _ _ h => h) (Or.inr ⟨by rfl, rfl⟩) ?_ ?_
                 rotate_left
                 ·simp only [Act.put, q1_, q2_, q3_, i64_w, i32_w];rfl
                 refine pure_ (i := 12) (N := some 115) (v := undef) (a' := ?_) #[Y,Y,Y,Y,Y,Y,Y,Y,Y,Y,Y,Y,Y,Z] rfl rfl (any_of HT_.out (by kernel_rfl)) (fun _ _ _ h => h) (Or.inr ⟨by rfl, rfl⟩) ?_ ?_
                 rotate_left
                 ·simp only [Act.put, q1_, q2_, q3_, i64_w, i32_w];rfl
                 refine pure_ (i := 13) (N := some 116) (v := ?_) (a' := ?_) #[Y,Y,Y,Y,Y,Y,Y,Y,Y,Y,Y,Y,Y,Y] rfl rfl (any_of HT_.out (by kernel_rfl)) (fun _ _ _ h => h) (Or.inl ⟨by rfl, ?_⟩) ?_ ?_
                 rotate_left
                 ·intro w';go_simp;with_reducible rfl
                 rotate_left
                 ·simp only [Act.put, q1_, q2_, q3_, i64_w, i32_w];rfl
                 refine done_ (done_of HT_.out (by kernel_rfl)) ?_
                 try go_wp2
                 go_ret
                 exact ⟨by first | rfl | (simp [errW_none, errW_some] <;> rfl) | (simp [*, errW_none, errW_some] <;> rfl), by exact kB HB.out⟩
            ·rw [if_neg c52] at H
             have c52b0 := decide_eq_false c52
             clear c52
             obtain rfl := Option.some.inj H
             obtain ⟨Ao74, co74, eo74⟩ := Kd.R_slice HO_6.out
             subst eo74
             go_wp2
             go_ret
             exact ⟨by first | rfl | (simp [errW_none, errW_some] <;> rfl) | (simp [*, errW_none, errW_some] <;> rfl), by exact kB HB.out⟩

end Go.Proofs.Ytpndhkeoljoapaa.P
