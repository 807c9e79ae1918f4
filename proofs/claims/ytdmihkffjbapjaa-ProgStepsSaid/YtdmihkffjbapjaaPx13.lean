/- What these Go functions compute, as Lean functions, and that they do. No condition. -/
import Derived.Test.YtdmihkffjbapjaaPx0
namespace Go.Proofs.Ytdmihkffjbapjaa.P
open Go.RowKit Go.Proofs.YtdmihkffjbapjaaW.PrintWords Go.Proofs.YtdmihkffjbapjaaW.PrintLast Go.Proofs.YtdmihkffjbapjaaW.PrintMore
attribute [local go_sem] max2_int min2_int max_two min_two max_three min_three max_four min_four   -- for this text's walks alone
set_option linter.unusedVariables false
set_option linter.unusedSimpArgs false
set_option linter.unnecessarySimpa false
theorem iteS13 {α : Type} {c : Prop} [Decidable c] {a : Option α} {r : α} (h : (if c then a else none) = some r) : c ∧ a = some r := by
 by_cases hc : c
 ·rw [if_pos hc] at h; exact ⟨hc, h⟩
 ·rw [if_neg hc] at h; cases h

/-! ### modillionref05_Norm: function 40 -/
mutual
def modillionref05_Norm.l0 : Nat → Int → Int → List (S46) → Int → List (S46) → Option (Int × (List (S46)))
 | 0, _, _, _, _, _ => none
 | k + 1, x4, x138000, x138001, x140000, x140001 => if x4 < x138000 then (modillionref05_Norm.l1 k x4 0 x138000 x138001 x140000 x140001) else (some (x140000, x140001))
def modillionref05_Norm.l1 : Nat → Int → Int → Int → List (S46) → Int → List (S46) → Option (Int × (List (S46)))
 | 0, _, _, _, _, _, _ => none
 | k + 1, x4, x5, x138000, x138001, x140000, x140001 => if x5 < x138000 then (modillionref05_Norm.l2 k x4 x5 0 x138000 x138001 x140000 x140001) else (modillionref05_Norm.l0 k (wrap64 (x4 + 1)) x138000 x138001 x140000 x140001)
def modillionref05_Norm.l2 : Nat → Int → Int → Int → Int → List (S46) → Int → List (S46) → Option (Int × (List (S46)))
 | 0, _, _, _, _, _, _, _ => none
 | k + 1, x4, x5, x6, x138000, x138001, x140000, x140001 => if x6 < (x138001.length : Int) then (if 0 ≤ x6 then (if ((rd_T46 x138001 x6).f0) = x4 then (if ((rd_T46 x138001 x6).f1) = x5 then (if x140001.length < 5864062014805 then (modillionref05_Norm.l2 k x4 x5 (wrap64 (x6 + 1)) x138000 x138001 x140000 (x140001 ++ [(⟨(rd_T46 x138001 x6).f0, (rd_T46 x138001 x6).f1, (rd_T46 x138001 x6).f2⟩ : S46)])) else (none)) else (modillionref05_Norm.l2 k x4 x5 (wrap64 (x6 + 1)) x138000 x138001 x140000 x140001)) else (modillionref05_Norm.l2 k x4 x5 (wrap64 (x6 + 1)) x138000 x138001 x140000 x140001)) else (none)) else (modillionref05_Norm.l1 k x4 (wrap64 (x5 + 1)) x138000 x138001 x140000 x140001)
end
def modillionref05_Norm.f (k : Nat) (a0_0 : Int) (l0_1 : List (S46)) : Option (Int × (List (S46))) := modillionref05_Norm.l0 k 0 a0_0 l0_1 a0_0 ([] : List (S46))
theorem modillionref05_Norm.mono_l : ∀ k, (∀ y0 y1 y2 y3 y4, LeO (modillionref05_Norm.l0 k y0 y1 y2 y3 y4) (modillionref05_Norm.l0 (k + 1) y0 y1 y2 y3 y4)) ∧ (∀ y0 y1 y2 y3 y4 y5, LeO (modillionref05_Norm.l1 k y0 y1 y2 y3 y4 y5) (modillionref05_Norm.l1 (k + 1) y0 y1 y2 y3 y4 y5)) ∧ (∀ y0 y1 y2 y3 y4 y5 y6, LeO (modillionref05_Norm.l2 k y0 y1 y2 y3 y4 y5 y6) (modillionref05_Norm.l2 (k + 1) y0 y1 y2 y3 y4 y5 y6))
 | 0 => ⟨fun _ _ _ _ _ r h => by simp [modillionref05_Norm.l0] at h, fun _ _ _ _ _ _ r h => by simp [modillionref05_Norm.l1] at h, fun _ _ _ _ _ _ _ r h => by simp [modillionref05_Norm.l2] at h⟩
 | k + 1 => by
  obtain ⟨ih0, ih1, ih2⟩ := modillionref05_Norm.mono_l k
  refine ⟨?_, ?_, ?_⟩
  ·intro y0 y1 y2 y3 y4
   unfold modillionref05_Norm.l0
   repeat' first
   | (with_reducible exact ih0 _ _ _ _ _)
   | (with_reducible exact ih1 _ _ _ _ _ _)
   | (with_reducible exact ih2 _ _ _ _ _ _ _)
   | (with_reducible exact LeO.refl _)
   | (with_reducible exact LeO.none _)
   | (with_reducible refine LeO.ite ?_ ?_)
   | (with_reducible refine LeO.bind ?_ (fun _ => ?_))
   | exact ih0 _ _ _ _ _
   | exact ih1 _ _ _ _ _ _
   | exact ih2 _ _ _ _ _ _ _
   | exact LeO.none _
   | refine LeO.ite ?_ ?_
   | refine LeO.bind ?_ (fun _ => ?_)
  ·intro y0 y1 y2 y3 y4 y5
   unfold modillionref05_Norm.l1
   repeat' first
   | (with_reducible exact ih0 _ _ _ _ _)
   | (with_reducible exact ih1 _ _ _ _ _ _)
   | (with_reducible exact ih2 _ _ _ _ _ _ _)
   | (with_reducible exact LeO.refl _)
   | (with_reducible exact LeO.none _)
   | (with_reducible refine LeO.ite ?_ ?_)
   | (with_reducible refine LeO.bind ?_ (fun _ => ?_))
   | exact ih0 _ _ _ _ _
   | exact ih1 _ _ _ _ _ _
   | exact ih2 _ _ _ _ _ _ _
   | exact LeO.none _
   | refine LeO.ite ?_ ?_
   | refine LeO.bind ?_ (fun _ => ?_)
  ·intro y0 y1 y2 y3 y4 y5 y6
   unfold modillionref05_Norm.l2
   repeat' first
   | (with_reducible exact ih0 _ _ _ _ _)
   | (with_reducible exact ih1 _ _ _ _ _ _)
   | (with_reducible exact ih2 _ _ _ _ _ _ _)
   | (with_reducible exact LeO.refl _)
   | (with_reducible exact LeO.none _)
   | (with_reducible refine LeO.ite ?_ ?_)
   | (with_reducible refine LeO.bind ?_ (fun _ => ?_))
   | exact ih0 _ _ _ _ _
   | exact ih1 _ _ _ _ _ _
   | exact ih2 _ _ _ _ _ _ _
   | exact LeO.none _
   | refine LeO.ite ?_ ?_
   | refine LeO.bind ?_ (fun _ => ?_)
theorem modillionref05_Norm.mono : ∀ a0 a1 k, LeO (modillionref05_Norm.f k a0 a1) (modillionref05_Norm.f (k + 1) a0 a1) := by
 intro a0 a1 k
 obtain ⟨ih0, ih1, ih2⟩ := modillionref05_Norm.mono_l k
 unfold modillionref05_Norm.f
 repeat' first
   | (with_reducible exact ih0 _ _ _ _ _)
   | (with_reducible exact ih1 _ _ _ _ _ _)
   | (with_reducible exact ih2 _ _ _ _ _ _ _)
   | (with_reducible exact LeO.refl _)
   | (with_reducible exact LeO.none _)
   | (with_reducible refine LeO.ite ?_ ?_)
   | (with_reducible refine LeO.bind ?_ (fun _ => ?_))
   | exact ih0 _ _ _ _ _
   | exact ih1 _ _ _ _ _ _
   | exact ih2 _ _ _ _ _ _ _
   | exact LeO.none _
   | refine LeO.ite ?_ ?_
   | refine LeO.bind ?_ (fun _ => ?_)
def modillionref05_Norm.T12 : Bool × List (List Nat × List Nat) := (true, [([], []), ([0], [0]), ([], []), ([2], [2]), ([], []), ([3, 4], [3, 4]), ([5], [5]), ([6], [6]), ([1, 7], [1, 7]), ([0, 1, 2, 3, 4, 5, 6, 7, 8], []), ([9, 8, 8, 0, 1, 2, 3, 4, 5, 6, 7, 8], [8, 9])])
def modillionref05_Norm.B12 : List Nat := [0, 1, 0, 4, 0, 28, 60, 124, 255, 511, 1023]
theorem modillionref05_Norm.tab12 : rtab .any (opsOf Try.f40 12) = modillionref05_Norm.T12 := by kernel_rfl
theorem modillionref05_Norm.bits12 : waitsOk modillionref05_Norm.T12.2 modillionref05_Norm.B12 = true := by kernel_rfl
set_option maxHeartbeats 8000000 in
set_option maxRecDepth 100000 in
theorem modillionref05_Norm.calls (k : Nat) (a0_0 : Int) (A0_1 : Option Addr) (c0_1 : Nat) (l0_1 : List (S46)) (r1 : Int) (r2 : List (S46)) (w : World) (hr0_1 : Kd.C k46 w A0_1 l0_1.length l0_1) (hc0_1 : l0_1.length ≤ c0_1) (h : modillionref05_Norm.f k a0_0 l0_1 = some (r1, r2)) :
  Calls Try.prog 40 #[.agg #[.int .i64 a0_0, .slice A0_1 l0_1.length c0_1]] w fun e w' => ∃ v1_ : Value, e = .returned (.agg #[.int .i64 r1, v1_]) ∧ Kd.R k46 46 w' w.heap.size (fun _ => True) v1_ r2 ∧ Below w.heap.size w w' := by
 have hu24 := Try.underlying24
 have hu46 := Try.underlying46
 have HR0_1 := Aside0.mk hr0_1
 have HC0_1 := Aside0.mk hc0_1
 clear hr0_1 hc0_1
 have HB := Aside0.mk (Below.refl w.heap.size w)
 have H : (modillionref05_Norm.l0 k 0 a0_0 l0_1 a0_0 ([] : List (S46))) = some (r1, r2) := h
 clear h
 have H' := Aside0.mk H
 clear H
 go_enter Try.func40, Try.ntmps40
 go_wp2_with (first | ((with_reducible refine gate_dst (N := 1) rfl ?_); refine box_event ?hg (N := 1) ?hd (cs := #[.int .i64 a0_0, .slice A0_1 l0_1.length c0_1]) (t := 24) ?hr ?_; (case hd => rfl); (case hg => rfl); (case hr => first | (go_simp; done) | (go_simp; rfl)); intro gb137 hg w2 hbox hb; have n0_ := Aside0.mk (below_step (kB HB.out) hb); have n1_ := Aside0.mk (hbox); have n2_ := Aside0.mk ((by rw [hg]; exact (below_size (kB HB.out)) : w.heap.size ≤ gb137)); have n3_ := Aside0.mk ((by rw [hg]; exact (below_size (kB HB.out)) : w.heap.size ≤ gb137)); clear HB; have HB := n0_; have BK137 := n1_; have GW137 := n2_; have GE137 := n3_; clear n0_ n1_ n2_ n3_; clear hb hbox hg) | ((with_reducible refine gate_dst (N := 2) rfl ?_); refine box_event ?hg (N := 2) ?hd (cs := #[.int .i64 0, .slice none 0 0]) (t := 24) ?hr ?_; (case hd => rfl); (case hg => rfl); (case hr => first | (go_simp; done) | (go_simp; rfl)); intro gb138 hg w3 hbox hb; have n0_ := Aside0.mk (blk_below (g := gb137) (o := .cells #[.int .i64 a0_0, .slice A0_1 l0_1.length c0_1] 24 (0, 0)) (kA BK137.out) hb); have n1_ := Aside0.mk (below_step (kB HB.out) hb); have n2_ := Aside0.mk (hbox); have n3_ := Aside0.mk ((by rw [hg]; exact (below_size (kB HB.out)) : w.heap.size ≤ gb138)); have n4_ := Aside0.mk ((by rw [hg]; exact (below_size (kB HB.out)) : w.heap.size ≤ gb138)); have n5_ := Aside0.mk ((by rw [hg]; exact Nat.ne_of_lt (blk_lt (g := gb137) (o := .cells #[.int .i64 a0_0, .slice A0_1 l0_1.length c0_1] 24 (0, 0)) (kA BK137.out)) : gb137 ≠ gb138)); have n6_ := Aside0.mk ((by rw [hg]; exact Nat.ne_of_gt (blk_lt (g := gb137) (o := .cells #[.int .i64 a0_0, .slice A0_1 l0_1.length c0_1] 24 (0, 0)) (kA BK137.out)) : gb138 ≠ gb137)); clear BK137; clear HB; have BK137 := n0_; have HB := n1_; have BK138 := n2_; have GW138 := n3_; have GE138 := n4_; have NB137_138 := n5_; have NB138_137 := n6_; clear n0_ n1_ n2_ n3_ n4_ n5_ n6_; clear hb hbox hg; have hnb4 := NB137_138.out; have hnc4 := NB138_137.out; have hcz5_0 : w3.cell? ⟨gb137, 0, none⟩ = some (.int .i64 a0_0) := (blk_cell BK137.out 0).trans rfl; have hcz5_1 : w3.cell? ⟨gb137, 1, none⟩ = some (.slice A0_1 l0_1.length c0_1) := (blk_cell BK137.out 1).trans rfl; have hfz5_0 := blk_frozen BK137.out 0; have hfz5_1 := blk_frozen BK137.out 1) | ((with_reducible refine gate_dst (N := 3) rfl ?_); refine box_event ?hg (N := 3) ?hd (cs := #[.int .i64 0, .slice none 0 0]) (t := 24) ?hr ?_; (case hd => rfl); (case hg => rfl); (case hr => first | (go_simp; done) | (go_simp; rfl)); intro gb139 hg w6 hbox hb; have n0_ := Aside0.mk (blk_below (g := gb137) (o := .cells #[.int .i64 a0_0, .slice A0_1 l0_1.length c0_1] 24 (0, 0)) (kA BK137.out) hb); have n1_ := Aside0.mk (blk_below (g := gb138) (o := .cells #[.int .i64 0, .slice none 0 0] 24 (0, 0)) (kA BK138.out) hb); have n2_ := Aside0.mk (below_step (kB HB.out) hb); have n3_ := Aside0.mk (hbox); have n4_ := Aside0.mk ((by rw [hg]; exact (below_size (kB HB.out)) : w.heap.size ≤ gb139)); have n5_ := Aside0.mk ((by rw [hg]; exact (below_size (kB HB.out)) : w.heap.size ≤ gb139)); have n6_ := Aside0.mk ((by rw [hg]; exact Nat.ne_of_lt (blk_lt (g := gb137) (o := .cells #[.int .i64 a0_0, .slice A0_1 l0_1.length c0_1] 24 (0, 0)) (kA BK137.out)) : gb137 ≠ gb139)); have n7_ := Aside0.mk ((by rw [hg]; exact Nat.ne_of_gt (blk_lt (g := gb137) (o := .cells #[.int .i64 a0_0, .slice A0_1 l0_1.length c0_1] 24 (0, 0)) (kA BK137.out)) : gb139 ≠ gb137)); have n8_ := Aside0.mk ((by rw [hg]; exact Nat.ne_of_lt (blk_lt (g := gb138) (o := .cells #[.int .i64 0, .slice none 0 0] 24 (0, 0)) (kA BK138.out)) : gb138 ≠ gb139)); have n9_ := Aside0.mk ((by rw [hg]; exact Nat.ne_of_gt (blk_lt (g := gb138) (o := .cells #[.int .i64 0, .slice none 0 0] 24 (0, 0)) (kA BK138.out)) : gb139 ≠ gb138)); clear BK137; clear BK138; clear HB; have BK137 := n0_; have BK138 := n1_; have HB := n2_; have BK139 := n3_; have GW139 := n4_; have GE139 := n5_; have NB137_139 := n6_; have NB139_137 := n7_; have NB138_139 := n8_; have NB139_138 := n9_; clear n0_ n1_ n2_ n3_ n4_ n5_ n6_ n7_ n8_ n9_; clear hb hbox hg; have hnb7 := NB139_137.out; have hnc7 := NB137_139.out; have hnb8 := NB139_138.out; have hnc8 := NB138_139.out; have hcz9_0 : w6.cell? ⟨gb139, 0, none⟩ = some (.int .i64 0) := (blk_cell BK139.out 0).trans rfl; have hcz9_1 : w6.cell? ⟨gb139, 1, none⟩ = some (.slice none 0 0) := (blk_cell BK139.out 1).trans rfl; have hfz9_0 := blk_frozen BK139.out 0; have hfz9_1 := blk_frozen BK139.out 1))
 go_loopg [4] k (fun kq v4 w' => ∃ (x4_1 : Int) (x140001_1 : List (S46)) (u140001 : Value), v4 = .int .i64 x4_1 ∧ Aside0 (modillionref05_Norm.l0 kq x4_1 a0_0 l0_1 a0_0 x140001_1 = some (r1, r2)) ∧ Aside0 (kq ≤ k) ∧ Aside0 (Kd.R k46 46 w' w.heap.size (fun _ => True) u140001 x140001_1) ∧ Aside0 (w'.heap[gb137]? = some (.cells #[.int .i64 a0_0, (.slice A0_1 l0_1.length c0_1)] 24 (0, 0))) ∧ Aside0 (w'.heap[gb138]? = some (.cells #[.int .i64 0, (.slice none 0 0)] 24 (0, 0))) ∧ Aside0 (w'.heap[gb139]? = some (.cells #[.int .i64 a0_0, u140001] 24 (0, 0))) ∧ Aside0 (Below w.heap.size w w'))
 case atStart => exact ⟨(0), (([] : List (S46))), (.slice none 0 0), (by first | rfl | (simp; done) | (simp [*]; done)), H', ⟨Nat.le_refl _⟩, ⟨by first | exact Kd.R_nil _ _ _ _ _ | exact Kd.N_nil _ _ _ _ _ | exact Kd.V_nil _ _ _ _ _ | exact Kd.Q_nil _ _ _ _ _ | exact Kd.S_nil _ _ _ _ _⟩, ⟨kF NB137_139.out BK137.out⟩, ⟨kF NB138_139.out BK138.out⟩, ⟨by (with_reducible repeat (first | refine blk_drewN ?_ _ | refine blk_drew ?_ | refine blk_alloc ?_ _)); refine blk_put (cs := #[.int .i64 a0_0, .slice none 0 0]) ?_ 1 _ rfl; refine blk_put (cs := #[.int .i64 0, .slice none 0 0]) ?_ 0 _ rfl; exact kA BK139.out⟩, ⟨kB HB.out⟩⟩
 case round =>
  clear H'
  try clear p2
  try clear c4
  try clear c7
  try clear c8
  try clear hcz5_0
  try clear hcz5_1
  try clear hcz9_0
  try clear hcz9_1
  try clear hfz5_0
  try clear hfz5_1
  try clear hfz9_0
  try clear hfz9_1
  obtain ⟨x4_1, x140001_1, u140001, rfl, HA, HK1, HO_140001, BK137, BK138, BK139, HB⟩ := hrel
  cases gk with
  | zero => exact absurd HA.out (by simp [modillionref05_Norm.l0])
  | succ k1 =>
   have H := HA.out
   clear HA
   simp only [modillionref05_Norm.l0] at H
   by_cases c10 : x4_1 < a0_0
   ·rw [if_pos c10] at H
    have c10b0 := decide_eq_true c10
    clear c10
    have H' := Aside0.mk H
    clear H
    have hnb11 := NB137_138.out
    have hnc11 := NB138_137.out
    have hnb12 := NB137_139.out
    have hnc12 := NB139_137.out
    have hcz13_0 : wr.cell? ⟨gb137, 0, none⟩ = some (.int .i64 a0_0) := (blk_cell BK137.out 0).trans rfl
    have hcz13_1 : wr.cell? ⟨gb137, 1, none⟩ = some (.slice A0_1 l0_1.length c0_1) := (blk_cell BK137.out 1).trans rfl
    have hfz13_0 := blk_frozen BK137.out 0
    have hfz13_1 := blk_frozen BK137.out 1
    go_wp2
    go_loopg [5] k1 (fun kq v5 w' => ∃ (x5_2 : Int) (x140001_2 : List (S46)) (u140001 : Value), v5 = .int .i64 x5_2 ∧ Aside0 (modillionref05_Norm.l1 kq x4_1 x5_2 a0_0 l0_1 a0_0 x140001_2 = some (r1, r2)) ∧ Aside0 (kq ≤ k1) ∧ Aside0 (Kd.R k46 46 w' w.heap.size (fun _ => True) u140001 x140001_2) ∧ Aside0 (w'.heap[gb137]? = some (.cells #[.int .i64 a0_0, (.slice A0_1 l0_1.length c0_1)] 24 (0, 0))) ∧ Aside0 (w'.heap[gb138]? = some (.cells #[.int .i64 0, (.slice none 0 0)] 24 (0, 0))) ∧ Aside0 (w'.heap[gb139]? = some (.cells #[.int .i64 a0_0, u140001] 24 (0, 0))) ∧ Aside0 (Below w.heap.size w w'))
    case atStart => exact ⟨(0), (x140001_1), (u140001), (by first | rfl | (simp; done) | (simp [*]; done)), H', ⟨Nat.le_refl _⟩, ⟨kR HO_140001.out⟩, ⟨kA BK137.out⟩, ⟨kA BK138.out⟩, ⟨kA BK139.out⟩, ⟨kB HB.out⟩⟩
    case round =>
     clear H'
     try clear c1
     try clear p2
     try clear c4
     try clear c7
     try clear c8
     try clear c10
     try clear c10b0
     try clear c11
     try clear c12
     try clear hcz13_0
     try clear hcz13_1
     try clear hcz5_0
     try clear hcz5_1
     try clear hcz9_0
     try clear hcz9_1
     try clear hfz13_0
     try clear hfz13_1
     try clear hfz5_0
     try clear hfz5_1
     try clear hfz9_0
     try clear hfz9_1
     try clear p2
     obtain ⟨x5_2, x140001_2, u140001, rfl, HA, HK2, HO_140001, BK137, BK138, BK139, HB⟩ := hrel
     cases gk with
     | zero => exact absurd HA.out (by simp [modillionref05_Norm.l1])
     | succ k2 =>
      have H := HA.out
      clear HA
      simp only [modillionref05_Norm.l1] at H
      by_cases c14 : x5_2 < a0_0
      ·rw [if_pos c14] at H
       have c14b0 : decide (x5_2 < a0_0) = true := decide_eq_true c14
       clear c14
       have H' := Aside0.mk H
       clear H
       have hnb15 := NB137_138.out
       have hnc15 := NB138_137.out
       have hnb16 := NB137_139.out
       have hnc16 := NB139_137.out
       have hcz17_0 : wr.cell? ⟨gb137, 0, none⟩ = some (.int .i64 a0_0) := (blk_cell BK137.out 0).trans rfl
       have hcz17_1 : wr.cell? ⟨gb137, 1, none⟩ = some (.slice A0_1 l0_1.length c0_1) := (blk_cell BK137.out 1).trans rfl
       have hfz17_0 := blk_frozen BK137.out 0
       have hfz17_1 := blk_frozen BK137.out 1
       go_wp2
       go_loopg [6] k2 (fun kq v6 w' => ∃ (x6_3 : Int) (x140001_3 : List (S46)) (u140001 : Value), v6 = .int .i64 x6_3 ∧ Aside0 (modillionref05_Norm.l2 kq x4_1 x5_2 x6_3 a0_0 l0_1 a0_0 x140001_3 = some (r1, r2)) ∧ Aside0 (kq ≤ k2) ∧ Aside0 (Kd.R k46 46 w' w.heap.size (fun _ => True) u140001 x140001_3) ∧ Aside0 (w'.heap[gb137]? = some (.cells #[.int .i64 a0_0, (.slice A0_1 l0_1.length c0_1)] 24 (0, 0))) ∧ Aside0 (w'.heap[gb138]? = some (.cells #[.int .i64 0, (.slice none 0 0)] 24 (0, 0))) ∧ Aside0 (w'.heap[gb139]? = some (.cells #[.int .i64 a0_0, u140001] 24 (0, 0))) ∧ Aside0 (Below w.heap.size w w'))
       case atStart => exact ⟨(0), (x140001_2), (u140001), (by first | rfl | (simp; done) | (simp [*]; done)), H', ⟨Nat.le_refl _⟩, ⟨kR HO_140001.out⟩, ⟨kA BK137.out⟩, ⟨kA BK138.out⟩, ⟨kA BK139.out⟩, ⟨kB HB.out⟩⟩
       case round =>
        clear H'
        try clear c1
        try clear p2
        try clear c4
        try clear c7
        try clear c8
        try clear c10
        try clear c10b0
        try clear c11
        try clear c12
        try clear c14
        try clear c14b0
        try clear c15
        try clear c16
        try clear hcz13_0
        try clear hcz13_1
        try clear hcz17_0
        try clear hcz17_1
        try clear hcz5_0
        try clear hcz5_1
        try clear hcz9_0
        try clear hcz9_1
        try clear hfz13_0
        try clear hfz13_1
        try clear hfz17_0
        try clear hfz17_1
        try clear hfz5_0
        try clear hfz5_1
        try clear hfz9_0
        try clear hfz9_1
        try clear p2
        obtain ⟨x6_3, x140001_3, u140001, rfl, HA, HK3, HO_140001, BK137, BK138, BK139, HB⟩ := hrel
        cases gk with
        | zero => exact absurd HA.out (by simp [modillionref05_Norm.l2])
        | succ k3 =>
         have H := HA.out
         clear HA
         simp only [modillionref05_Norm.l2] at H
         by_cases c18 : x6_3 < (l0_1.length : Int)
         ·rw [if_pos c18] at H
          have c18b0 := decide_eq_true c18
          clear c18
          obtain ⟨c19, H⟩ := iteS13 H
          have c19b0 := decide_eq_true c19
          clear c19
          by_cases c20 : ((rd_T46 l0_1 x6_3).f0) = x4_1
          ·rw [if_pos c20] at H
           have c20b0 : (((rd_T46 l0_1 x6_3).f0) == x4_1) = true := beq_iff_eq.mpr c20
           have c20b1 : (((rd_T46 l0_1 x6_3).f0) != x4_1) = false := bne_eq_false_iff_eq.mpr c20
           clear c20
           by_cases c21 : ((rd_T46 l0_1 x6_3).f1) = x5_2
           ·rw [if_pos c21] at H
            have c21b0 : (((rd_T46 l0_1 x6_3).f1) == x5_2) = true := beq_iff_eq.mpr c21
            have c21b1 : (((rd_T46 l0_1 x6_3).f1) != x5_2) = false := bne_eq_false_iff_eq.mpr c21
            clear c21
            obtain ⟨c22, H⟩ := iteS13 H
            have LMc22 := Aside0.mk c22
            clear c22
            obtain ⟨y143, hy143⟩ : ∃ y_ : List (S46), y_ = (x140001_3 ++ [(⟨(rd_T46 l0_1 x6_3).f0, (rd_T46 l0_1 x6_3).f1, (rd_T46 l0_1 x6_3).f2⟩ : S46)]) := ⟨_, rfl⟩
            replace H : (modillionref05_Norm.l2 k3 x4_1 x5_2 (wrap64 (x6_3 + 1)) a0_0 l0_1 a0_0 y143) = some (r1, r2) := by first | (rw [hy143]; with_reducible exact H) | (have H2_ := (Option.bind_some _ _).symm.trans H; rw [hy143]; with_reducible exact H2_) | (have H2_ := (Option.bind_some _ _).symm.trans H; with_reducible exact H2_) | with_reducible exact H | (rw [hy143]; exact H) | exact H
            have Ny143 := Aside0.mk hy143
            clear hy143
            have H' := Aside0.mk H
            clear H
            have hnb23 := NB137_138.out
            have hnc23 := NB138_137.out
            have hnb24 := NB137_139.out
            have hnc24 := NB139_137.out
            have hcz25_0 : wr.cell? ⟨gb137, 0, none⟩ = some (.int .i64 a0_0) := (blk_cell BK137.out 0).trans rfl
            have hcz25_1 : wr.cell? ⟨gb137, 1, none⟩ = some (.slice A0_1 l0_1.length c0_1) := (blk_cell BK137.out 1).trans rfl
            have hfz25_0 := blk_frozen BK137.out 0
            have hfz25_1 := blk_frozen BK137.out 1
            have p140 : 0 ≤ (x6_3 : Int) := of_decide_eq_true (by first | (with_reducible assumption) | assumption)
            have q140 : x6_3 < (l0_1.length : Int) := of_decide_eq_true (by first | (with_reducible assumption) | assumption)
            obtain ⟨ad140, e140, hx140_0, hx140_1, hx140_2⟩ := at_T46 HR0_1.out x6_3 p140 q140
            cases e140
            replace hx140_0 := (HB.out.cell (World.block_lt_of_cell? w _ hx140_0)).trans hx140_0
            replace hx140_1 := (HB.out.cell (World.block_lt_of_cell? w _ hx140_1)).trans hx140_1
            replace hx140_2 := (HB.out.cell (World.block_lt_of_cell? w _ hx140_2)).trans hx140_2
            replace p140 := eq_true p140
            replace q140 := eq_true q140
            have p141 : 0 ≤ (x6_3 : Int) := of_decide_eq_true (by first | (with_reducible assumption) | assumption)
            have q141 : x6_3 < (l0_1.length : Int) := of_decide_eq_true (by first | (with_reducible assumption) | assumption)
            obtain ⟨ad141, e141, hx141_0, hx141_1, hx141_2⟩ := at_T46 HR0_1.out x6_3 p141 q141
            obtain rfl : ad140 = ad141 := (by injection e141)
            replace hx141_0 := (HB.out.cell (World.block_lt_of_cell? w _ hx141_0)).trans hx141_0
            replace hx141_1 := (HB.out.cell (World.block_lt_of_cell? w _ hx141_1)).trans hx141_1
            replace hx141_2 := (HB.out.cell (World.block_lt_of_cell? w _ hx141_2)).trans hx141_2
            replace p141 := eq_true p141
            replace q141 := eq_true q141
            try go_wp2
            have n0_ := Aside0.mk (Kd.R_drew HO_140001.out)
            have n1_ := Aside0.mk (blk_drew BK137.out)
            have n2_ := Aside0.mk (blk_drew BK138.out)
            have n3_ := Aside0.mk (blk_drew BK139.out)
            have n4_ := Aside0.mk (below_drew1 HB.out)
            clear HO_140001
            clear BK137
            clear BK138
            clear BK139
            clear HB
            have HO_140001 := n0_
            have BK137 := n1_
            have BK138 := n2_
            have BK139 := n3_
            have HB := n4_
            clear n0_ n1_ n2_ n3_ n4_
            have p142 : 0 ≤ (x6_3 : Int) := of_decide_eq_true (by first | (with_reducible assumption) | assumption)
            have q142 : x6_3 < (l0_1.length : Int) := of_decide_eq_true (by first | (with_reducible assumption) | assumption)
            obtain ⟨ad142, e142, hx142_0, hx142_1, hx142_2⟩ := at_T46 HR0_1.out x6_3 p142 q142
            have hw142_2 := hx142_2
            have hw142_1 := hx142_1
            have hw142_0 := hx142_0
            obtain rfl : ad140 = ad142 := (by injection e142)
            replace hx142_0 := (HB.out.cell (World.block_lt_of_cell? w _ hx142_0)).trans hx142_0
            replace hx142_1 := (HB.out.cell (World.block_lt_of_cell? w _ hx142_1)).trans hx142_1
            replace hx142_2 := (HB.out.cell (World.block_lt_of_cell? w _ hx142_2)).trans hx142_2
            replace p142 := eq_true p142
            replace q142 := eq_true q142
            refine start_ (n := 11) (S := fun w' => w'.cell? ⟨gb139, 0, none⟩ = some (.int .i64 a0_0) ∧ w'.cell? ⟨gb139, 1, none⟩ = some (u140001) ∧ w'.cell? ⟨gb137, 0, none⟩ = some (.int .i64 a0_0) ∧ w'.cell? ⟨gb137, 1, none⟩ = some (.slice (some ad140) l0_1.length c0_1) ∧ w'.cell? (ad140.add ((x6_3).toNat * 3)) = some (.int .i64 ((rd_T46 l0_1 x6_3).f0)) ∧ w'.cell? ⟨(ad140.add ((x6_3).toNat * 3)).block, (ad140.add ((x6_3).toNat * 3)).off + 1, none⟩ = some (.int .i64 ((rd_T46 l0_1 x6_3).f1)) ∧ w'.cell? ⟨(ad140.add ((x6_3).toNat * 3)).block, (ad140.add ((x6_3).toNat * 3)).off + 2, none⟩ = some (.int .i64 ((rd_T46 l0_1 x6_3).f2))) (ds := [10]) #[false, false, false, false, false, false, false, false, false, false, false] (by kernel_rfl) rfl rfl ⟨(blk_cell BK139.out 0).trans rfl, (blk_cell BK139.out 1).trans rfl, (blk_cell BK137.out 0).trans rfl, (blk_cell BK137.out 1).trans rfl, ((HB.out.cell (World.block_lt_of_cell? w _ hw142_0)).trans hw142_0), ((HB.out.cell (World.block_lt_of_cell? w _ hw142_1)).trans hw142_1), ((HB.out.cell (World.block_lt_of_cell? w _ hw142_2)).trans hw142_2)⟩ (fun hHeld => ?_); refine with_tabW modillionref05_Norm.tab12 modillionref05_Norm.bits12 (fun HT_ HW_ => ?_)
            generalize wr.drew = w26 at HO_140001 BK137 BK138 BK139 HB hx142_0 hx142_1 hx142_2 hHeld ⊢
            refine pure_ (i := 0) (N := some 47) (v := ?_) (a' := ?_) #[true, false, false, false, false, false, false, false, false, false, false] rfl rfl (any_of HT_.out (by kernel_rfl)) (fun _ _ _ h => h) (Or.inl ⟨by rfl, ?_⟩) ?_ ?_
            rotate_left
            ·intro w'
             go_simp
             with_reducible rfl
            rotate_left
            ·simp only [Act.put, List.setIfInBounds_toArray, List.set_cons_zero, List.set_cons_succ, i64_w, i32_w]
             rfl
            refine pure_ (i := 2) (N := some 49) (v := ?_) (a' := ?_) #[true, false, true, false, false, false, false, false, false, false, false] rfl rfl (any_of HT_.out (by kernel_rfl)) (fun _ _ _ h => h) (Or.inl ⟨by rfl, ?_⟩) ?_ ?_
            rotate_left
            ·intro w'
             go_simp
             with_reducible rfl
            rotate_left
            ·simp only [Act.put, List.setIfInBounds_toArray, List.set_cons_zero, List.set_cons_succ, i64_w, i32_w]
             rfl
            refine pure_ (i := 4) (N := some 51) (v := ?_) (a' := ?_) #[true, false, true, false, true, false, false, false, false, false, false] rfl rfl (any_of HT_.out (by kernel_rfl)) (fun _ _ _ h => h) (Or.inl ⟨by rfl, ?_⟩) ?_ ?_
            rotate_left
            ·intro w'
             go_simp
             with_reducible rfl
            rotate_left
            ·simp only [Act.put, List.setIfInBounds_toArray, List.set_cons_zero, List.set_cons_succ, i64_w, i32_w]
             rfl
            refine take_ (i := 1) (N := some 48) (v := ?_) (a' := ?_) #[true, true, true, false, true, false, false, false, false, false, false] rfl rfl (take_ofW HT_.out HW_.out (by kernel_rfl)) (fun _ _ _ h => h) (Or.inl ⟨by rfl, ?_⟩) hHeld ?_ ?_
            rotate_left
            ·rintro w' ⟨s0, s1, s2, s3, s4, s5, s6⟩
             go_simp
             with_reducible rfl
            rotate_left
            ·simp only [Act.put, List.setIfInBounds_toArray, List.set_cons_zero, List.set_cons_succ, i64_w, i32_w]
             rfl
            refine take_ (i := 3) (N := some 50) (v := ?_) (a' := ?_) #[true, true, true, true, true, false, false, false, false, false, false] rfl rfl (take_ofW HT_.out HW_.out (by kernel_rfl)) (fun _ _ _ h => h) (Or.inl ⟨by rfl, ?_⟩) hHeld ?_ ?_
            rotate_left
            ·rintro w' ⟨s0, s1, s2, s3, s4, s5, s6⟩
             go_simp
             with_reducible rfl
            rotate_left
            ·simp only [Act.put, List.setIfInBounds_toArray, List.set_cons_zero, List.set_cons_succ, i64_w, i32_w]
             rfl
            refine pure_ (i := 5) (N := some 52) (v := ?_) (a' := ?_) #[true, true, true, true, true, true, false, false, false, false, false] rfl rfl (any_of HT_.out (by kernel_rfl)) (fun _ _ _ h => h) (Or.inl ⟨by rfl, ?_⟩) ?_ ?_
            rotate_left
            ·intro w'
             go_simp
             with_reducible rfl
            rotate_left
            ·simp only [Act.put, List.setIfInBounds_toArray, List.set_cons_zero, List.set_cons_succ, i64_w, i32_w]
             rfl
            refine take_ (i := 6) (N := some 53) (v := ?_) (a' := ?_) #[true, true, true, true, true, true, true, false, false, false, false] rfl rfl (take_ofW HT_.out HW_.out (by kernel_rfl)) (fun _ _ _ h => h) (Or.inl ⟨by rfl, ?_⟩) hHeld ?_ ?_
            rotate_left
            ·rintro w' ⟨s0, s1, s2, s3, s4, s5, s6⟩
             go_simp
             with_reducible rfl
            rotate_left
            ·simp only [Act.put, List.setIfInBounds_toArray, List.set_cons_zero, List.set_cons_succ, i64_w, i32_w]
             rfl
            refine one_ (i := 7) (N := some 54) #[true, true, true, true, true, true, true, true, false, false, false] rfl rfl (one_of HT_.out (by kernel_rfl)) (by decide) (fun K hK => ?_)
            refine value_ (w1 := ?_) (v := ?_) (by rfl) rfl ?_ ?_
            rotate_left 2
            ·go_simp
             constructor
             ·rfl
             ·rfl
            refine hK.out _ _ ⟨(blk_cell (blk_alloc BK139.out _) 0).trans rfl, (blk_cell (blk_alloc BK139.out _) 1).trans rfl, (blk_cell (blk_alloc BK137.out _) 0).trans rfl, (blk_cell (blk_alloc BK137.out _) 1).trans rfl, (World.cell?_alloc_lt _ _ _ (World.block_lt_of_cell? _ _ (((HB.out.cell (World.block_lt_of_cell? w _ hw142_0)).trans hw142_0)))).trans (((HB.out.cell (World.block_lt_of_cell? w _ hw142_0)).trans hw142_0)), (World.cell?_alloc_lt _ _ _ (World.block_lt_of_cell? _ _ (((HB.out.cell (World.block_lt_of_cell? w _ hw142_1)).trans hw142_1)))).trans (((HB.out.cell (World.block_lt_of_cell? w _ hw142_1)).trans hw142_1)), (World.cell?_alloc_lt _ _ _ (World.block_lt_of_cell? _ _ (((HB.out.cell (World.block_lt_of_cell? w _ hw142_2)).trans hw142_2)))).trans (((HB.out.cell (World.block_lt_of_cell? w _ hw142_2)).trans hw142_2))⟩ (fun hHeld => ?_)
            clear hK K
            refine norm_ (a' := ?_) ?_ ?_
            rotate_left
            ·show Act.put _ (some 54) _ = _
             simp only [Act.put, List.setIfInBounds_toArray, List.set_cons_zero, List.set_cons_succ, i64_w, i32_w]
             rfl
            refine one_ (i := 8) (N := some 55) #[true, true, true, true, true, true, true, true, true, false, false] rfl rfl (one_of HT_.out (by kernel_rfl)) (by decide) (fun K hK => ?_)
            refine Kd.R_append_step k46 (w0 := w) w.heap.size (by rfl) (.tmp 48) (.tmp 54) 22 46 (.agg #[(.int .i64 0), (.int .i64 0), (.int .i64 0)]) 24 rfl Try.underlying22 info46 rfl (by decide) (by omega) u140001 x140001_3 (⟨(rd_T46 l0_1 x6_3).f0, (rd_T46 l0_1 x6_3).f1, (rd_T46 l0_1 x6_3).f2⟩ : S46) [.int .i64 ((rd_T46 l0_1 x6_3).f0), .int .i64 ((rd_T46 l0_1 x6_3).f1), .int .i64 ((rd_T46 l0_1 x6_3).f2)] (fun _ => True) (fun _ => False) rfl rfl ?aP (fun _ hk => hk.elim) ?aF ?aO ?aB ?aS ?aL ?_
            (case aP => exact k46_mkM _ _ _ (⟨(rd_T46 l0_1 x6_3).f0, (rd_T46 l0_1 x6_3).f1, (rd_T46 l0_1 x6_3).f2⟩ : S46))
            (case aB => exact (kB HB.out))
            (case aF => exact (fun _ _ => trivial))
            (case aO => exact (kR HO_140001.out))
            (case aS => exact (below_size (kB HB.out)))
            (case aL => have := LMc22.out; omega)
            intro v144 w27 ho hb hg hat
            rw [← Ny143.out] at ho
            have n0_ := Aside0.mk (blk_grown (g := gb137) (o := .cells #[.int .i64 a0_0, .slice (some ad140) l0_1.length c0_1] 24 (0, 0)) (kA BK137.out) hg (Kd.R_ne HO_140001.out BK137.out (by decide)))
            have n1_ := Aside0.mk (blk_grown (g := gb138) (o := .cells #[.int .i64 0, .slice none 0 0] 24 (0, 0)) (kA BK138.out) hg (Kd.R_ne HO_140001.out BK138.out (by decide)))
            have n2_ := Aside0.mk (blk_grown (g := gb139) (o := .cells #[.int .i64 a0_0, u140001] 24 (0, 0)) (kA BK139.out) hg (Kd.R_ne HO_140001.out BK139.out (by decide)))
            have n3_ := Aside0.mk (hb)
            have n4_ := Aside0.mk (ho)
            clear BK137
            clear BK138
            clear BK139
            clear HB
            clear HO_140001
            have BK137 := n0_
            have BK138 := n1_
            have BK139 := n2_
            have HB := n3_
            have HO145 := n4_
            clear n0_ n1_ n2_ n3_ n4_
            clear ho hb hg hat
            obtain ⟨Ao28, co28, eo28⟩ := Kd.R_slice HO145.out
            (first | subst eo28 | (injection eo28 with f1_ f2_ f3_; have f4_ := f1_.symm; have f5_ := f3_.symm; clear f1_ f2_ f3_; subst f4_; subst f5_))
            refine hK.out _ _ ⟨(blk_cell BK139.out 0).trans rfl, (blk_cell BK139.out 1).trans rfl, (blk_cell BK137.out 0).trans rfl, (blk_cell BK137.out 1).trans rfl, ((HB.out.cell (World.block_lt_of_cell? w _ hw142_0)).trans hw142_0), ((HB.out.cell (World.block_lt_of_cell? w _ hw142_1)).trans hw142_1), ((HB.out.cell (World.block_lt_of_cell? w _ hw142_2)).trans hw142_2)⟩ (fun hHeld => ?_)
            clear hK K
            refine norm_ (a' := ?_) ?_ ?_
            rotate_left
            ·show Act.put _ (some 55) _ = _
             simp only [Act.put, List.setIfInBounds_toArray, List.set_cons_zero, List.set_cons_succ, i64_w, i32_w]
             rfl
            refine pure_ (i := 9) (N := some 56) (v := ?_) (a' := ?_) #[true, true, true, true, true, true, true, true, true, true, false] rfl rfl (any_of HT_.out (by kernel_rfl)) (fun _ _ _ h => h) (Or.inl ⟨by rfl, ?_⟩) ?_ ?_
            rotate_left
            ·intro w'
             go_simp
             with_reducible rfl
            rotate_left
            ·simp only [Act.put, List.setIfInBounds_toArray, List.set_cons_zero, List.set_cons_succ, i64_w, i32_w]
             rfl
            refine last_ (i := 10) (N := none) #[true, true, true, true, true, true, true, true, true, true, true] rfl rfl (one_of HT_.out (by kernel_rfl)) (by decide) (fun K hK => ?_)
            have hs29 : w27.cell? ⟨gb139, 1, none⟩ = some (u140001) := (blk_cell BK139.out 1).trans rfl
            have hfs29 := blk_frozen BK139.out 1
            have hns29_0 := NB137_139.out
            have hns29_1 := NB138_139.out
            have hms29_0 := NB139_137.out
            have hms29_1 := NB139_138.out
            refine skip_ (w1 := ?_) (by rfl) rfl ?_ ?_
            rotate_left
            ·go_simp
             rfl
            refine hK.out _ _ ?_
            clear hK K
            refine done_ (done_of HT_.out (by kernel_rfl)) ?_
            try go_wp2
            go_roundg k3
            case measure => have := HK1.out; have := HK2.out; have := HK3.out; omega
            case rel => exact ⟨(wrap64 (x6_3 + 1)), (y143), (.slice Ao28 y143.length co28), (by first | rfl | (simp; done) | (simp [*]; done)), H', ⟨by have := HK1.out; have := HK2.out; have := HK3.out; omega⟩, ⟨by (with_reducible repeat (first | apply Kd.R_alloc | apply Kd.R_drewN | apply Kd.R_drew)); exact Kd.R_mono (Kd.R_far (p := ⟨gb139, 1, none⟩) (Kd.R_types HO145.out BK139.out (by decide)) (fun _ hk => hk.2) (.slice Ao28 y143.length co28)) (fun _ hk => trivial)⟩, ⟨kF NB137_139.out BK137.out⟩, ⟨kF NB138_139.out BK138.out⟩, ⟨by (with_reducible repeat (first | refine blk_drewN ?_ _ | refine blk_drew ?_ | refine blk_alloc ?_ _)); refine blk_put (cs := #[.int .i64 a0_0, u140001]) ?_ 1 _ rfl; exact kA BK139.out⟩, ⟨kB HB.out⟩⟩
           ·rw [if_neg c21] at H
            have c21b0 : (((rd_T46 l0_1 x6_3).f1) == x5_2) = false := beq_eq_false_iff_ne.mpr c21
            have c21b1 : (((rd_T46 l0_1 x6_3).f1) != x5_2) = true := bne_iff_ne.mpr c21
            have H' := Aside0.mk H
            clear H
            have hnb30 := NB137_138.out
            have hnc30 := NB138_137.out
            have hnb31 := NB137_139.out
            have hnc31 := NB139_137.out
            have hcz32_0 : wr.cell? ⟨gb137, 0, none⟩ = some (.int .i64 a0_0) := (blk_cell BK137.out 0).trans rfl
            have hcz32_1 : wr.cell? ⟨gb137, 1, none⟩ = some (.slice A0_1 l0_1.length c0_1) := (blk_cell BK137.out 1).trans rfl
            have hfz32_0 := blk_frozen BK137.out 0
            have hfz32_1 := blk_frozen BK137.out 1
            have p140 : 0 ≤ (x6_3 : Int) := of_decide_eq_true (by first | (with_reducible assumption) | assumption)
            have q140 : x6_3 < (l0_1.length : Int) := of_decide_eq_true (by first | (with_reducible assumption) | assumption)
            obtain ⟨ad140, e140, hx140_0, hx140_1, hx140_2⟩ := at_T46 HR0_1.out x6_3 p140 q140
            cases e140
            replace hx140_0 := (HB.out.cell (World.block_lt_of_cell? w _ hx140_0)).trans hx140_0
            replace hx140_1 := (HB.out.cell (World.block_lt_of_cell? w _ hx140_1)).trans hx140_1
            replace hx140_2 := (HB.out.cell (World.block_lt_of_cell? w _ hx140_2)).trans hx140_2
            replace p140 := eq_true p140
            replace q140 := eq_true q140
            have p141 : 0 ≤ (x6_3 : Int) := of_decide_eq_true (by first | (with_reducible assumption) | assumption)
            have q141 : x6_3 < (l0_1.length : Int) := of_decide_eq_true (by first | (with_reducible assumption) | assumption)
            obtain ⟨ad141, e141, hx141_0, hx141_1, hx141_2⟩ := at_T46 HR0_1.out x6_3 p141 q141
            obtain rfl : ad140 = ad141 := (by injection e141)
            replace hx141_0 := (HB.out.cell (World.block_lt_of_cell? w _ hx141_0)).trans hx141_0
            replace hx141_1 := (HB.out.cell (World.block_lt_of_cell? w _ hx141_1)).trans hx141_1
            replace hx141_2 := (HB.out.cell (World.block_lt_of_cell? w _ hx141_2)).trans hx141_2
            replace p141 := eq_true p141
            replace q141 := eq_true q141
            go_wp2
            go_roundg k3
            case measure => have := HK1.out; have := HK2.out; have := HK3.out; omega
            case rel => exact ⟨(wrap64 (x6_3 + 1)), (x140001_3), (u140001), (by first | rfl | (simp; done) | (simp [*]; done)), H', ⟨by have := HK1.out; have := HK2.out; have := HK3.out; omega⟩, ⟨kR HO_140001.out⟩, ⟨kA BK137.out⟩, ⟨kA BK138.out⟩, ⟨kA BK139.out⟩, ⟨kB HB.out⟩⟩
          ·rw [if_neg c20] at H
           have c20b0 : (((rd_T46 l0_1 x6_3).f0) == x4_1) = false := beq_eq_false_iff_ne.mpr c20
           have c20b1 : (((rd_T46 l0_1 x6_3).f0) != x4_1) = true := bne_iff_ne.mpr c20
           have H' := Aside0.mk H
           clear H
           have hnb33 := NB137_138.out
           have hnc33 := NB138_137.out
           have hnb34 := NB137_139.out
           have hnc34 := NB139_137.out
           have hcz35_0 : wr.cell? ⟨gb137, 0, none⟩ = some (.int .i64 a0_0) := (blk_cell BK137.out 0).trans rfl
           have hcz35_1 : wr.cell? ⟨gb137, 1, none⟩ = some (.slice A0_1 l0_1.length c0_1) := (blk_cell BK137.out 1).trans rfl
           have hfz35_0 := blk_frozen BK137.out 0
           have hfz35_1 := blk_frozen BK137.out 1
           have p140 : 0 ≤ (x6_3 : Int) := of_decide_eq_true (by first | (with_reducible assumption) | assumption)
           have q140 : x6_3 < (l0_1.length : Int) := of_decide_eq_true (by first | (with_reducible assumption) | assumption)
           obtain ⟨ad140, e140, hx140_0, hx140_1, hx140_2⟩ := at_T46 HR0_1.out x6_3 p140 q140
           cases e140
           replace hx140_0 := (HB.out.cell (World.block_lt_of_cell? w _ hx140_0)).trans hx140_0
           replace hx140_1 := (HB.out.cell (World.block_lt_of_cell? w _ hx140_1)).trans hx140_1
           replace hx140_2 := (HB.out.cell (World.block_lt_of_cell? w _ hx140_2)).trans hx140_2
           replace p140 := eq_true p140
           replace q140 := eq_true q140
           go_wp2
           go_roundg k3
           case measure => have := HK1.out; have := HK2.out; have := HK3.out; omega
           case rel => exact ⟨(wrap64 (x6_3 + 1)), (x140001_3), (u140001), (by first | rfl | (simp; done) | (simp [*]; done)), H', ⟨by have := HK1.out; have := HK2.out; have := HK3.out; omega⟩, ⟨kR HO_140001.out⟩, ⟨kA BK137.out⟩, ⟨kA BK138.out⟩, ⟨kA BK139.out⟩, ⟨kB HB.out⟩⟩
         ·rw [if_neg c18] at H
          have c18b0 := decide_eq_false c18
          clear c18
          have H' := Aside0.mk H
          clear H
          have hnb36 := NB137_138.out
          have hnc36 := NB138_137.out
          have hnb37 := NB137_139.out
          have hnc37 := NB139_137.out
          have hcz38_0 : wr.cell? ⟨gb137, 0, none⟩ = some (.int .i64 a0_0) := (blk_cell BK137.out 0).trans rfl
          have hcz38_1 : wr.cell? ⟨gb137, 1, none⟩ = some (.slice A0_1 l0_1.length c0_1) := (blk_cell BK137.out 1).trans rfl
          have hfz38_0 := blk_frozen BK137.out 0
          have hfz38_1 := blk_frozen BK137.out 1
          go_wp2
          go_roundg k3
          case measure => have := HK1.out; have := HK2.out; have := HK3.out; omega
          case rel => exact ⟨(wrap64 (x5_2 + 1)), (x140001_3), (u140001), (by first | rfl | (simp; done) | (simp [*]; done)), H', ⟨by have := HK1.out; have := HK2.out; have := HK3.out; omega⟩, ⟨kR HO_140001.out⟩, ⟨kA BK137.out⟩, ⟨kA BK138.out⟩, ⟨kA BK139.out⟩, ⟨kB HB.out⟩⟩
      ·rw [if_neg c14] at H
       have c14b0 : decide (x5_2 < a0_0) = false := decide_eq_false c14
       clear c14
       have H' := Aside0.mk H
       clear H
       have hnb39 := NB137_138.out
       have hnc39 := NB138_137.out
       have hnb40 := NB137_139.out
       have hnc40 := NB139_137.out
       have hcz41_0 : wr.cell? ⟨gb137, 0, none⟩ = some (.int .i64 a0_0) := (blk_cell BK137.out 0).trans rfl
       have hcz41_1 : wr.cell? ⟨gb137, 1, none⟩ = some (.slice A0_1 l0_1.length c0_1) := (blk_cell BK137.out 1).trans rfl
       have hfz41_0 := blk_frozen BK137.out 0
       have hfz41_1 := blk_frozen BK137.out 1
       go_wp2
       go_roundg k2
       case measure => have := HK1.out; have := HK2.out; omega
       case rel => exact ⟨(wrap64 (x4_1 + 1)), (x140001_2), (u140001), (by first | rfl | (simp; done) | (simp [*]; done)), H', ⟨by have := HK1.out; have := HK2.out; omega⟩, ⟨kR HO_140001.out⟩, ⟨kA BK137.out⟩, ⟨kA BK138.out⟩, ⟨kA BK139.out⟩, ⟨kB HB.out⟩⟩
   ·rw [if_neg c10] at H
    have c10b0 := decide_eq_false c10
    clear c10
    simp only [Option.some.injEq, Prod.mk.injEq] at H
    obtain ⟨rfl, rfl⟩ := H
    have hnb42 := NB137_138.out
    have hnc42 := NB138_137.out
    have hnb43 := NB137_139.out
    have hnc43 := NB139_137.out
    have hcz44_0 : wr.cell? ⟨gb137, 0, none⟩ = some (.int .i64 a0_0) := (blk_cell BK137.out 0).trans rfl
    have hcz44_1 : wr.cell? ⟨gb137, 1, none⟩ = some (.slice A0_1 l0_1.length c0_1) := (blk_cell BK137.out 1).trans rfl
    have hfz44_0 := blk_frozen BK137.out 0
    have hfz44_1 := blk_frozen BK137.out 1
    have hnb45 := NB139_138.out
    have hnc45 := NB138_139.out
    have hcz46_0 : wr.cell? ⟨gb139, 0, none⟩ = some (.int .i64 a0_0) := (blk_cell BK139.out 0).trans rfl
    have hcz46_1 : wr.cell? ⟨gb139, 1, none⟩ = some (u140001) := (blk_cell BK139.out 1).trans rfl
    have hfz46_0 := blk_frozen BK139.out 0
    have hfz46_1 := blk_frozen BK139.out 1
    have hcz47_0 : wr.cell? ⟨gb138, 0, none⟩ = some (.int .i64 0) := (blk_cell BK138.out 0).trans rfl
    have hcz47_1 : wr.cell? ⟨gb138, 1, none⟩ = some (.slice none 0 0) := (blk_cell BK138.out 1).trans rfl
    have hfz47_0 := blk_frozen BK138.out 0
    have hfz47_1 := blk_frozen BK138.out 1
    obtain ⟨Ao48, co48, eo48⟩ := Kd.R_slice HO_140001.out
    subst eo48
    go_wp2
    refine bodyPost_ret (results_cell_row rfl _ _ gb138 24 #[.int .i64 a0_0, .slice Ao48 x140001_1.length co48] (0, 0) _ rfl (by (with_reducible repeat (first | refine blk_drewN ?_ _ | refine blk_drew ?_ | refine blk_alloc ?_ _)); refine blk_put (cs := #[.int .i64 a0_0, .slice none 0 0]) ?_ 1 _ rfl; refine blk_put (cs := #[.int .i64 0, .slice none 0 0]) ?_ 0 _ rfl; exact kA BK138.out) Try.underlying24 rfl (by kernel_rfl)) rfl ?_
    exact ⟨_, by first | rfl | (simp [errW_none, errW_some] <;> rfl) | (simp [*, errW_none, errW_some] <;> rfl), by (with_reducible repeat (first | apply Kd.R_alloc | apply Kd.R_drewN | apply Kd.R_drew)); exact Kd.R_mono (Kd.R_far (p := ⟨gb138, 1, none⟩) (Kd.R_far (p := ⟨gb138, 0, none⟩) (Kd.R_types HO_140001.out BK138.out (by decide)) (fun _ hk => hk.2) (.int .i64 a0_0)) (fun _ hk => hk.2) (.slice Ao48 x140001_1.length co48)) (fun _ hk => trivial), by exact kB HB.out⟩

/-! ### modillionref05_Out: function 31 -/
def modillionref05_Out.l0 : Nat → Int → List (S46) → Int → Int → List (S46) → Option ((List (S46)))
 | 0, _, _, _, _, _ => none
 | k + 1, x1, x5, x7, x155000, x155001 => if x7 < (x155001.length : Int) then (if 0 ≤ x7 then (if ((rd_T46 x155001 x7).f0) = x1 then (if x5.length < 5864062014805 then (modillionref05_Out.l0 k x1 (x5 ++ [(⟨(rd_T46 x155001 x7).f0, (rd_T46 x155001 x7).f1, (rd_T46 x155001 x7).f2⟩ : S46)]) (wrap64 (x7 + 1)) x155000 x155001) else (none)) else (modillionref05_Out.l0 k x1 x5 (wrap64 (x7 + 1)) x155000 x155001)) else (none)) else (some x5)
def modillionref05_Out.f (k : Nat) (a0_0 : Int) (l0_1 : List (S46)) (a1 : Int) : Option ((List (S46))) := (modillionref05_Norm.f k a0_0 l0_1).bind fun bt150 => (modillionref05_Out.l0 k a1 (([] : List (S46))) 0 bt150.1 bt150.2)
theorem modillionref05_Out.mono_l : ∀ k, (∀ y0 y1 y2 y3 y4, LeO (modillionref05_Out.l0 k y0 y1 y2 y3 y4) (modillionref05_Out.l0 (k + 1) y0 y1 y2 y3 y4))
 | 0 => fun _ _ _ _ _ r h => by simp [modillionref05_Out.l0] at h
 | k + 1 => by
  have ih0 := modillionref05_Out.mono_l k
  ·intro y0 y1 y2 y3 y4
   unfold modillionref05_Out.l0
   repeat' first
   | (with_reducible exact ih0 _ _ _ _ _)
   | (with_reducible exact modillionref05_Norm.mono _ _ _)
   | (with_reducible exact LeO.refl _)
   | (with_reducible exact LeO.none _)
   | (with_reducible refine LeO.ite ?_ ?_)
   | (with_reducible refine LeO.bind ?_ (fun _ => ?_))
   | exact ih0 _ _ _ _ _
   | exact modillionref05_Norm.mono _ _ _
   | exact LeO.none _
   | refine LeO.ite ?_ ?_
   | refine LeO.bind ?_ (fun _ => ?_)
theorem modillionref05_Out.mono : ∀ a0 a1 a2 k, LeO (modillionref05_Out.f k a0 a1 a2) (modillionref05_Out.f (k + 1) a0 a1 a2) := by
 intro a0 a1 a2 k
 have ih0 := modillionref05_Out.mono_l k
 unfold modillionref05_Out.f
 repeat' first
   | (with_reducible exact ih0 _ _ _ _ _)
   | (with_reducible exact modillionref05_Norm.mono _ _ _)
   | (with_reducible exact LeO.refl _)
   | (with_reducible exact LeO.none _)
   | (with_reducible refine LeO.ite ?_ ?_)
   | (with_reducible refine LeO.bind ?_ (fun _ => ?_))
   | exact ih0 _ _ _ _ _
   | exact modillionref05_Norm.mono _ _ _
   | exact LeO.none _
   | refine LeO.ite ?_ ?_
   | refine LeO.bind ?_ (fun _ => ?_)
set_option maxHeartbeats 8000000 in
set_option maxRecDepth 100000 in
theorem modillionref05_Out.calls (k : Nat) (a0_0 : Int) (A0_1 : Option Addr) (c0_1 : Nat) (l0_1 : List (S46)) (a1 : Int) (r : List (S46)) (w : World) (hr0_1 : Kd.C k46 w A0_1 l0_1.length l0_1) (hc0_1 : l0_1.length ≤ c0_1) (h : modillionref05_Out.f k a0_0 l0_1 a1 = some r) :
  Calls Try.prog 31 #[.agg #[.int .i64 a0_0, .slice A0_1 l0_1.length c0_1], .int .i64 a1] w fun e w' => ∃ v0_ : Value, e = .returned (v0_) ∧ Kd.R k46 46 w' w.heap.size (fun _ => True) v0_ r ∧ Below w.heap.size w w' := by
 have hu24 := Try.underlying24
 have hu46 := Try.underlying46
 have HR0_1 := Aside0.mk hr0_1
 have HC0_1 := Aside0.mk hc0_1
 clear hr0_1 hc0_1
 have HB := Aside0.mk (Below.refl w.heap.size w)
 have H : ((modillionref05_Norm.f k a0_0 l0_1).bind fun bt150 => (modillionref05_Out.l0 k a1 (([] : List (S46))) 0 bt150.1 bt150.2)) = some r := h
 clear h
 obtain ⟨y147, hy147⟩ : ∃ y_ : List (S46), y_ = (([] : List (S46))) := ⟨_, rfl⟩
 replace H : ((modillionref05_Norm.f k a0_0 l0_1).bind fun bt150 => (modillionref05_Out.l0 k a1 y147 0 bt150.1 bt150.2)) = some r := by first | (rw [hy147]; with_reducible exact H) | (have H2_ := (Option.bind_some _ _).symm.trans H; rw [hy147]; with_reducible exact H2_) | (have H2_ := (Option.bind_some _ _).symm.trans H; with_reducible exact H2_) | with_reducible exact H | (rw [hy147]; exact H) | exact H
 have Ny147 := Aside0.mk hy147
 clear hy147
 replace H := Option.bind_eq_some_iff.mp H
 obtain ⟨⟨t150, t151⟩, A30, H⟩ := H
 replace H : (modillionref05_Out.l0 k a1 y147 0 t150 t151) = some r := H
 have A3 := Aside0.mk A30
 clear A30
 have H' := Aside0.mk H
 clear H
 go_enter Try.func31, Try.ntmps31
 go_wp2_with (first | ((with_reducible refine gate_dst (N := 2) rfl ?_); refine box_event ?hg (N := 2) ?hd (cs := #[.int .i64 a0_0, .slice A0_1 l0_1.length c0_1]) (t := 24) ?hr ?_; (case hd => rfl); (case hg => rfl); (case hr => first | (go_simp; done) | (go_simp; rfl)); intro gb146 hg w4 hbox hb; have n0_ := Aside0.mk (below_step (kB HB.out) hb); have n1_ := Aside0.mk (hbox); have n2_ := Aside0.mk ((by rw [hg]; exact (below_size (kB HB.out)) : w.heap.size ≤ gb146)); have n3_ := Aside0.mk ((by rw [hg]; exact (below_size (kB HB.out)) : w.heap.size ≤ gb146)); clear HB; have HB := n0_; have BK146 := n1_; have GW146 := n2_; have GE146 := n3_; clear n0_ n1_ n2_ n3_; clear hb hbox hg) | ((with_reducible refine gate_dst (N := 8) rfl ?_); refine Kd.R_lit k46 _ 46 ?hg (N := 8) ?hd (xs := ([] : List (S46))) (inner := []) (ok := fun _ => True) (okp := fun _ => True) ?hr ?hp (fun _ hk => hk) trivial (Below.refl _ _) (Nat.le_refl _) (by simp) ?_; (case hd => rfl); (case hg => rfl); (case hr => first | (go_simp; done) | (go_simp; rfl)); (case hp => exact (Reps.none _ _)); intro v148 w5 ho6 hb hg_ hnew_; clear hg_ hnew_; (first | rw [← Ny147.out] at ho6 | (simp only [Int.reduceToNat] at ho6; rw [← Ny147.out] at ho6)); have n0_ := Aside0.mk (Kd.R_lower ho6 (below_size (kB HB.out))); have n1_ := Aside0.mk (blk_below (g := gb146) (o := .cells #[.int .i64 a0_0, .slice A0_1 l0_1.length c0_1] 24 (0, 0)) (kA BK146.out) hb); have n2_ := Aside0.mk (below_step (kB HB.out) hb); clear BK146; clear HB; have HO149 := n0_; have BK146 := n1_; have HB := n2_; clear n0_ n1_ n2_; clear hb ho6; have hcz7_0 : w5.cell? ⟨gb146, 0, none⟩ = some (.int .i64 a0_0) := (blk_cell BK146.out 0).trans rfl; have hcz7_1 : w5.cell? ⟨gb146, 1, none⟩ = some (.slice A0_1 l0_1.length c0_1) := (blk_cell BK146.out 1).trans rfl; have hfz7_0 := blk_frozen BK146.out 0; have hfz7_1 := blk_frozen BK146.out 1) | ((with_reducible refine gate_callee (f := 40) rfl ?_); refine goesL_ (some 10) rfl rfl Try.func40 (by kernel_rfl) rfl #[.agg #[.int .i64 a0_0, .slice A0_1 l0_1.length c0_1]] rfl (by (try simp only [List.map_toArray, List.map_cons, List.map_nil]); first | done | rfl | (simp only [List.length_drop, List.length_take]; rfl)) ?_; (with_reducible refine (modillionref05_Norm.calls k a0_0 _ _ l0_1 t150 t151 _ ?side1 ?side2 A3.out).mono ?_); (case side1 => repeat (first | exact (Kd.C_below HR0_1.out HB.out) | (with_reducible refine Kd.C_alloc ?_ _) | (with_reducible refine Kd.C_drewN ?_ _) | (with_reducible refine Kd.C_drew ?_))); (case side2 => exact HC0_1.out); rintro e w8 ⟨v152, rfl, ho0, hb⟩; refine ⟨_, rfl, ?_⟩; have n0_ := Aside0.mk (Kd.R_elder' (kR HO149.out) (Kd.R_base ho0) hb); have n1_ := Aside0.mk (Kd.R_lower (Kd.R_new' ho0 (Kd.R_lt (kR HO149.out))) (below_size (kB HB.out))); have n2_ := Aside0.mk (blk_below (g := gb146) (o := .cells #[.int .i64 a0_0, .slice A0_1 l0_1.length c0_1] 24 (0, 0)) (kA BK146.out) hb); have n3_ := Aside0.mk (below_step (kB HB.out) hb); clear HO149; clear BK146; clear HB; have HO149 := n0_; have HO153 := n1_; have BK146 := n2_; have HB := n3_; clear n0_ n1_ n2_ n3_; (try clear hb); (try clear hb2); (try clear hk); (try clear hi); (try clear ho0)) | ((with_reducible refine gate_dst (N := 6) rfl ?_); refine box_event ?hg (N := 6) ?hd (cs := #[.int .i64 0, .slice none 0 0]) (t := 24) ?hr ?_; (case hd => rfl); (case hg => rfl); (case hr => first | (go_simp; done) | (go_simp; rfl)); intro gb154 hg w9 hbox hb; have n0_ := Aside0.mk (Kd.R_below (kR HO149.out) hb); have n1_ := Aside0.mk (Kd.R_below (kR HO153.out) hb); have n2_ := Aside0.mk (blk_below (g := gb146) (o := .cells #[.int .i64 a0_0, .slice A0_1 l0_1.length c0_1] 24 (0, 0)) (kA BK146.out) hb); have n3_ := Aside0.mk (below_step (kB HB.out) hb); have n4_ := Aside0.mk (hbox); have n5_ := Aside0.mk ((by rw [hg]; exact (below_size (kB HB.out)) : w.heap.size ≤ gb154)); have n6_ := Aside0.mk ((by rw [hg]; exact (below_size (kB HB.out)) : w.heap.size ≤ gb154)); have n7_ := Aside0.mk ((by rw [hg]; exact Nat.ne_of_lt (blk_lt (g := gb146) (o := .cells #[.int .i64 a0_0, .slice A0_1 l0_1.length c0_1] 24 (0, 0)) (kA BK146.out)) : gb146 ≠ gb154)); have n8_ := Aside0.mk ((by rw [hg]; exact Nat.ne_of_gt (blk_lt (g := gb146) (o := .cells #[.int .i64 a0_0, .slice A0_1 l0_1.length c0_1] 24 (0, 0)) (kA BK146.out)) : gb154 ≠ gb146)); clear HO149; clear HO153; clear BK146; clear HB; have HO149 := n0_; have HO153 := n1_; have BK146 := n2_; have HB := n3_; have BK154 := n4_; have GW154 := n5_; have GE154 := n6_; have NB146_154 := n7_; have NB154_146 := n8_; clear n0_ n1_ n2_ n3_ n4_ n5_ n6_ n7_ n8_; clear hb hbox hg; have hnb10 := NB154_146.out; have hnc10 := NB146_154.out; have hcz11_0 : w9.cell? ⟨gb154, 0, none⟩ = some (.int .i64 0) := (blk_cell BK154.out 0).trans rfl; have hcz11_1 : w9.cell? ⟨gb154, 1, none⟩ = some (.slice none 0 0) := (blk_cell BK154.out 1).trans rfl; have hfz11_0 := blk_frozen BK154.out 0; have hfz11_1 := blk_frozen BK154.out 1; obtain ⟨Ao12, co12, eo12⟩ := Kd.R_slice HO153.out; subst eo12))
 go_loopg [5, 7] k (fun kq v5 v7 w' => ∃ (x5_1 : List (S46)) (x7_1 : Int), v7 = .int .i64 x7_1 ∧ Aside0 (modillionref05_Out.l0 kq a1 x5_1 x7_1 t150 t151 = some r) ∧ Aside0 (kq ≤ k) ∧ Aside0 (Kd.R k46 46 w' w.heap.size (fun k_ => some k_ ≠ ((.slice Ao12 t151.length co12) : Value).ownBlock) v5 x5_1) ∧ Aside0 (Kd.R k46 46 w' w.heap.size (fun k_ => some k_ ≠ (v5 : Value).ownBlock) (.slice Ao12 t151.length co12) t151) ∧ Aside0 (w'.heap[gb146]? = some (.cells #[.int .i64 a0_0, (.slice A0_1 l0_1.length c0_1)] 24 (0, 0))) ∧ Aside0 (w'.heap[gb154]? = some (.cells #[.int .i64 t150, (.slice Ao12 t151.length co12)] 24 (0, 0))) ∧ Aside0 (Below w.heap.size w w'))
 case atStart => exact ⟨(y147), (0), (by first | rfl | (simp; done) | (simp [*]; done)), H', ⟨Nat.le_refl _⟩, ⟨by (with_reducible repeat (first | apply Kd.R_alloc | apply Kd.R_drewN | apply Kd.R_drew)); exact Kd.R_mono (Kd.R_far (p := ⟨gb154, 1, none⟩) (Kd.R_far (p := ⟨gb154, 0, none⟩) (Kd.R_types HO149.out BK154.out (by decide)) (fun _ hk => hk.2) (.int .i64 t150)) (fun _ hk => hk.2) (.slice Ao12 t151.length co12)) (fun _ hk => hk.1.2)⟩, ⟨by (with_reducible repeat (first | apply Kd.R_alloc | apply Kd.R_drewN | apply Kd.R_drew)); exact Kd.R_mono (Kd.R_far (p := ⟨gb154, 1, none⟩) (Kd.R_far (p := ⟨gb154, 0, none⟩) (Kd.R_types HO153.out BK154.out (by decide)) (fun _ hk => hk.2) (.int .i64 t150)) (fun _ hk => hk.2) (.slice Ao12 t151.length co12)) (fun _ hk => hk.1.2)⟩, ⟨kF NB146_154.out BK146.out⟩, ⟨by (with_reducible repeat (first | refine blk_drewN ?_ _ | refine blk_drew ?_ | refine blk_alloc ?_ _)); refine blk_put (cs := #[.int .i64 t150, .slice none 0 0]) ?_ 1 _ rfl; refine blk_put (cs := #[.int .i64 0, .slice none 0 0]) ?_ 0 _ rfl; exact kA BK154.out⟩, ⟨kB HB.out⟩⟩
 case round =>
  clear H'
  try clear c1
  try clear p2
  try clear c3
  try clear c4
  try clear c10
  try clear hcz11_0
  try clear hcz11_1
  try clear hcz7_0
  try clear hcz7_1
  try clear hfz11_0
  try clear hfz11_1
  try clear hfz7_0
  try clear hfz7_1
  obtain ⟨x5_1, x7_1, rfl, HA, HK1, HO_5, HO_155001, BK146, BK154, HB⟩ := hrel
  cases gk with
  | zero => exact absurd HA.out (by simp [modillionref05_Out.l0])
  | succ k1 =>
   have H := HA.out
   clear HA
   simp only [modillionref05_Out.l0] at H
   by_cases c13 : x7_1 < (t151.length : Int)
   ·rw [if_pos c13] at H
    have c13b0 := decide_eq_true c13
    clear c13
    obtain ⟨c14, H⟩ := iteS13 H
    have c14b0 : decide (0 ≤ x7_1) = true := decide_eq_true c14
    clear c14
    by_cases c15 : ((rd_T46 t151 x7_1).f0) = a1
    ·rw [if_pos c15] at H
     have c15b0 : (((rd_T46 t151 x7_1).f0) == a1) = true := beq_iff_eq.mpr c15
     have c15b1 : (((rd_T46 t151 x7_1).f0) != a1) = false := bne_eq_false_iff_eq.mpr c15
     clear c15
     obtain ⟨c16, H⟩ := iteS13 H
     have LMc16 := Aside0.mk c16
     clear c16
     obtain ⟨y157, hy157⟩ : ∃ y_ : List (S46), y_ = (x5_1 ++ [(⟨(rd_T46 t151 x7_1).f0, (rd_T46 t151 x7_1).f1, (rd_T46 t151 x7_1).f2⟩ : S46)]) := ⟨_, rfl⟩
     replace H : (modillionref05_Out.l0 k1 a1 y157 (wrap64 (x7_1 + 1)) t150 t151) = some r := by first | (rw [hy157]; with_reducible exact H) | (have H2_ := (Option.bind_some _ _).symm.trans H; rw [hy157]; with_reducible exact H2_) | (have H2_ := (Option.bind_some _ _).symm.trans H; with_reducible exact H2_) | with_reducible exact H | (rw [hy157]; exact H) | exact H
     have Ny157 := Aside0.mk hy157
     clear hy157
     have H' := Aside0.mk H
     clear H
     have hnb17 := NB154_146.out
     have hnc17 := NB146_154.out
     have hcz18_0 : wr.cell? ⟨gb154, 0, none⟩ = some (.int .i64 t150) := (blk_cell BK154.out 0).trans rfl
     have hcz18_1 : wr.cell? ⟨gb154, 1, none⟩ = some (.slice Ao12 t151.length co12) := (blk_cell BK154.out 1).trans rfl
     have hfz18_0 := blk_frozen BK154.out 0
     have hfz18_1 := blk_frozen BK154.out 1
     have p155 : 0 ≤ (x7_1 : Int) := of_decide_eq_true (by first | (with_reducible assumption) | assumption)
     have q155 : x7_1 < (t151.length : Int) := of_decide_eq_true (by first | (with_reducible assumption) | assumption)
     obtain ⟨ad155, e155, hx155_0, hx155_1, hx155_2⟩ := at_T46 (Kd.R_reads' HO_155001.out).2.2 x7_1 p155 q155
     cases e155
     replace p155 := eq_true p155
     replace q155 := eq_true q155
     have p156 : 0 ≤ (x7_1 : Int) := of_decide_eq_true (by first | (with_reducible assumption) | assumption)
     have q156 : x7_1 < (t151.length : Int) := of_decide_eq_true (by first | (with_reducible assumption) | assumption)
     obtain ⟨ad156, e156, hx156_0, hx156_1, hx156_2⟩ := at_T46 (Kd.R_reads' HO_155001.out).2.2 x7_1 p156 q156
     obtain rfl : ad155 = ad156 := (by injection e156)
     replace p156 := eq_true p156
     replace q156 := eq_true q156
     go_wp2_with (first | ((with_reducible refine gate_builtin (b := .append) (xs := #[.tmp 26, .tmp 32]) rfl ?_); at_builtin; refine Kd.R_append k46 (w0 := w) w.heap.size rfl (.tmp 26) (.tmp 32) 22 46 (.agg #[(.int .i64 0), (.int .i64 0), (.int .i64 0)]) 24 rfl Try.underlying22 info46 rfl (by decide) (by omega) u5 x5_1 (⟨(rd_T46 t151 x7_1).f0, (rd_T46 t151 x7_1).f1, (rd_T46 t151 x7_1).f2⟩ : S46) [.int .i64 ((rd_T46 t151 x7_1).f0), .int .i64 ((rd_T46 t151 x7_1).f1), .int .i64 ((rd_T46 t151 x7_1).f2)] (fun k_ => some k_ ≠ (.slice (some ad155) t151.length co12 : Value).ownBlock) (fun _ => False) rfl rfl ?aP (fun _ hk => hk.elim) ?aF ?aO ?aB ?aS ?aL ?_; (case aP => exact k46_mkM _ _ _ (⟨(rd_T46 t151 x7_1).f0, (rd_T46 t151 x7_1).f1, (rd_T46 t151 x7_1).f2⟩ : S46)); (case aB => exact (kB HB.out)); (case aF => exact (fun k_ hk => Kd.fresh' (Kd.R_lt (kR HO_155001.out)) k_ hk)); (case aO => exact (kR HO_5.out)); (case aS => exact (below_size (kB HB.out))); (case aL => have := LMc16.out; omega); intro v158 w19 ho hb hg hat; rw [← Ny157.out] at ho; have n0_ := Aside0.mk (Kd.R_after (ok := (fun _ => True)) (by (with_reducible repeat (first | apply Kd.R_alloc | apply Kd.R_drewN | apply Kd.R_drew)); exact Kd.R_mono HO_155001.out (fun _ hk => ⟨trivial, hk⟩)) hg hat); have n1_ := Aside0.mk (blk_grown (g := gb146) (o := .cells #[.int .i64 a0_0, .slice A0_1 l0_1.length c0_1] 24 (0, 0)) (kA BK146.out) hg (Kd.R_ne HO_5.out BK146.out (by decide))); have n2_ := Aside0.mk (blk_grown (g := gb154) (o := .cells #[.int .i64 t150, .slice (some ad155) t151.length co12] 24 (0, 0)) (kA BK154.out) hg (Kd.R_ne HO_5.out BK154.out (by decide))); have n3_ := Aside0.mk (hb); have n4_ := Aside0.mk (ho); clear HO_155001; clear BK146; clear BK154; clear HB; clear HO_5; have HO_155001 := n0_; have BK146 := n1_; have BK154 := n2_; have HB := n3_; have HO159 := n4_; clear n0_ n1_ n2_ n3_ n4_; clear ho hb hg hat))
     go_roundg k1
     case measure => have := HK1.out; omega
     case rel => exact ⟨(y157), (wrap64 (x7_1 + 1)), (by first | rfl | (simp; done) | (simp [*]; done)), H', ⟨by have := HK1.out; omega⟩, ⟨kR HO159.out⟩, ⟨by (with_reducible repeat (first | apply Kd.R_alloc | apply Kd.R_drewN | apply Kd.R_drew)); exact Kd.R_mono HO_155001.out (fun _ hk => hk.2)⟩, ⟨kA BK146.out⟩, ⟨kA BK154.out⟩, ⟨kB HB.out⟩⟩
    ·rw [if_neg c15] at H
     have c15b0 : (((rd_T46 t151 x7_1).f0) == a1) = false := beq_eq_false_iff_ne.mpr c15
     have c15b1 : (((rd_T46 t151 x7_1).f0) != a1) = true := bne_iff_ne.mpr c15
     have H' := Aside0.mk H
     clear H
     have hnb20 := NB154_146.out
     have hnc20 := NB146_154.out
     have hcz21_0 : wr.cell? ⟨gb154, 0, none⟩ = some (.int .i64 t150) := (blk_cell BK154.out 0).trans rfl
     have hcz21_1 : wr.cell? ⟨gb154, 1, none⟩ = some (.slice Ao12 t151.length co12) := (blk_cell BK154.out 1).trans rfl
     have hfz21_0 := blk_frozen BK154.out 0
     have hfz21_1 := blk_frozen BK154.out 1
     have p155 : 0 ≤ (x7_1 : Int) := of_decide_eq_true (by first | (with_reducible assumption) | assumption)
     have q155 : x7_1 < (t151.length : Int) := of_decide_eq_true (by first | (with_reducible assumption) | assumption)
     obtain ⟨ad155, e155, hx155_0, hx155_1, hx155_2⟩ := at_T46 (Kd.R_reads' HO_155001.out).2.2 x7_1 p155 q155
     cases e155
     replace p155 := eq_true p155
     replace q155 := eq_true q155
     go_wp2
     go_roundg k1
     case measure => have := HK1.out; omega
     case rel => exact ⟨(x5_1), (wrap64 (x7_1 + 1)), (by first | rfl | (simp; done) | (simp [*]; done)), H', ⟨by have := HK1.out; omega⟩, ⟨kR HO_5.out⟩, ⟨kR HO_155001.out⟩, ⟨kA BK146.out⟩, ⟨kA BK154.out⟩, ⟨kB HB.out⟩⟩
   ·rw [if_neg c13] at H
    have c13b0 := decide_eq_false c13
    clear c13
    obtain rfl := Option.some.inj H
    have hnb22 := NB154_146.out
    have hnc22 := NB146_154.out
    have hcz23_0 : wr.cell? ⟨gb154, 0, none⟩ = some (.int .i64 t150) := (blk_cell BK154.out 0).trans rfl
    have hcz23_1 : wr.cell? ⟨gb154, 1, none⟩ = some (.slice Ao12 t151.length co12) := (blk_cell BK154.out 1).trans rfl
    have hfz23_0 := blk_frozen BK154.out 0
    have hfz23_1 := blk_frozen BK154.out 1
    go_wp2
    go_ret
    exact ⟨_, by first | rfl | (simp [errW_none, errW_some] <;> rfl) | (simp [*, errW_none, errW_some] <;> rfl), by (with_reducible repeat (first | apply Kd.R_alloc | apply Kd.R_drewN | apply Kd.R_drew)); exact Kd.R_mono HO_5.out (fun _ hk => trivial), by exact kB HB.out⟩

end Go.Proofs.Ytdmihkffjbapjaa.P
