/- What these Go functions compute, as Lean functions, and that they do. No condition. -/
import Derived.Test.YtdmihkffjbapjaaPx0
namespace Go.Proofs.Ytdmihkffjbapjaa.P
open Go.RowKit Go.Proofs.YtdmihkffjbapjaaW.PrintWords Go.Proofs.YtdmihkffjbapjaaW.PrintLast Go.Proofs.YtdmihkffjbapjaaW.PrintMore
attribute [local go_sem] max2_int min2_int max_two min_two max_three min_three max_four min_four   -- for this text's walks alone
set_option linter.unusedVariables false
set_option linter.unusedSimpArgs false
set_option linter.unnecessarySimpa false
theorem iteS10 {α : Type} {c : Prop} [Decidable c] {a : Option α} {r : α} (h : (if c then a else none) = some r) : c ∧ a = some r := by
 by_cases hc : c
 ·rw [if_pos hc] at h; exact ⟨hc, h⟩
 ·rw [if_neg hc] at h; cases h

/-! ### modillionref05_Check: function 23 -/
mutual
def modillionref05_Check.j0 : Nat → Bool → Int → List (S46) → Option (Int)
 | 0, _, _, _ => none
 | k + 1, x20, x121000, x121001 => if x20 = true then (some 50) else (modillionref05_Check.l0 k false 0 x121000 x121001)
def modillionref05_Check.l0 : Nat → Bool → Int → Int → List (S46) → Option (Int)
 | 0, _, _, _, _ => none
 | k + 1, x3, x4, x121000, x121001 => if x4 < (x121001.length : Int) then (if 0 ≤ x4 then (if ((rd_T46 x121001 x4).f0) < 0 then (modillionref05_Check.j2 k x3 x4 true x121000 x121001 ((rd_T46 x121001 x4).f0) ((rd_T46 x121001 x4).f1) ((rd_T46 x121001 x4).f2)) else (if ((rd_T46 x121001 x4).f0) ≥ x121000 then (modillionref05_Check.j2 k x3 x4 true x121000 x121001 ((rd_T46 x121001 x4).f0) ((rd_T46 x121001 x4).f1) ((rd_T46 x121001 x4).f2)) else (if ((rd_T46 x121001 x4).f1) < 0 then (modillionref05_Check.j2 k x3 x4 true x121000 x121001 ((rd_T46 x121001 x4).f0) ((rd_T46 x121001 x4).f1) ((rd_T46 x121001 x4).f2)) else (if ((rd_T46 x121001 x4).f1) ≥ x121000 then (modillionref05_Check.j2 k x3 x4 true x121000 x121001 ((rd_T46 x121001 x4).f0) ((rd_T46 x121001 x4).f1) ((rd_T46 x121001 x4).f2)) else (if ((rd_T46 x121001 x4).f2) < 0 then (modillionref05_Check.j2 k x3 x4 true x121000 x121001 ((rd_T46 x121001 x4).f0) ((rd_T46 x121001 x4).f1) ((rd_T46 x121001 x4).f2)) else (modillionref05_Check.j2 k x3 x4 (decide (((rd_T46 x121001 x4).f2) > 1048576)) x121000 x121001 ((rd_T46 x121001 x4).f0) ((rd_T46 x121001 x4).f1) ((rd_T46 x121001 x4).f2))))))) else (none)) else (if x3 = true then (some 51) else (some 0))
def modillionref05_Check.j2 : Nat → Bool → Int → Bool → Int → List (S46) → Int → Int → Int → Option (Int)
 | 0, _, _, _, _, _, _, _, _ => none
 | k + 1, x3, x4, x64, x121000, x121001, x123000, x123001, x123002 => if x64 = true then (some 50) else (modillionref05_Check.l1 k x3 x4 0 x121000 x121001 x123000 x123001 x123002)
def modillionref05_Check.l1 : Nat → Bool → Int → Int → Int → List (S46) → Int → Int → Int → Option (Int)
 | 0, _, _, _, _, _, _, _, _ => none
 | k + 1, x3, x4, x6, x121000, x121001, x123000, x123001, x123002 => if x6 < x4 then (if x3 = true then (modillionref05_Check.l1 k true x4 (wrap64 (x6 + 1)) x121000 x121001 x123000 x123001 x123002) else (if 0 ≤ x6 then (if x6 < (x121001.length : Int) then (if ((rd_T46 x121001 x6).f0) = x123000 then (modillionref05_Check.l1 k (((rd_T46 x121001 x6).f1) == x123001) x4 (wrap64 (x6 + 1)) x121000 x121001 x123000 x123001 x123002) else (modillionref05_Check.l1 k false x4 (wrap64 (x6 + 1)) x121000 x121001 x123000 x123001 x123002)) else (none)) else (none))) else (modillionref05_Check.l0 k x3 (wrap64 (x4 + 1)) x121000 x121001)
end
def modillionref05_Check.f (k : Nat) (a0_0 : Int) (l0_1 : List (S46)) : Option (Int) := if a0_0 < 1 then (modillionref05_Check.j0 k true a0_0 l0_1) else (if a0_0 > 64 then (modillionref05_Check.j0 k true a0_0 l0_1) else (modillionref05_Check.j0 k (decide ((l0_1.length : Int) > 512)) a0_0 l0_1))
theorem modillionref05_Check.mono_l : ∀ k, (∀ y0 y1 y2, LeO (modillionref05_Check.j0 k y0 y1 y2) (modillionref05_Check.j0 (k + 1) y0 y1 y2)) ∧ (∀ y0 y1 y2 y3, LeO (modillionref05_Check.l0 k y0 y1 y2 y3) (modillionref05_Check.l0 (k + 1) y0 y1 y2 y3)) ∧ (∀ y0 y1 y2 y3 y4 y5 y6 y7, LeO (modillionref05_Check.j2 k y0 y1 y2 y3 y4 y5 y6 y7) (modillionref05_Check.j2 (k + 1) y0 y1 y2 y3 y4 y5 y6 y7)) ∧ (∀ y0 y1 y2 y3 y4 y5 y6 y7, LeO (modillionref05_Check.l1 k y0 y1 y2 y3 y4 y5 y6 y7) (modillionref05_Check.l1 (k + 1) y0 y1 y2 y3 y4 y5 y6 y7))
 | 0 => ⟨fun _ _ _ r h => by simp [modillionref05_Check.j0] at h, fun _ _ _ _ r h => by simp [modillionref05_Check.l0] at h, fun _ _ _ _ _ _ _ _ r h => by simp [modillionref05_Check.j2] at h, fun _ _ _ _ _ _ _ _ r h => by simp [modillionref05_Check.l1] at h⟩
 | k + 1 => by
  obtain ⟨ih0, ih1, ih2, ih3⟩ := modillionref05_Check.mono_l k
  refine ⟨?_, ?_, ?_, ?_⟩
  ·intro y0 y1 y2
   unfold modillionref05_Check.j0
   repeat' first
   | (with_reducible exact ih0 _ _ _)
   | (with_reducible exact ih1 _ _ _ _)
   | (with_reducible exact ih2 _ _ _ _ _ _ _ _)
   | (with_reducible exact ih3 _ _ _ _ _ _ _ _)
   | (with_reducible exact LeO.refl _)
   | (with_reducible exact LeO.none _)
   | (with_reducible refine LeO.ite ?_ ?_)
   | (with_reducible refine LeO.bind ?_ (fun _ => ?_))
   | exact ih0 _ _ _
   | exact ih1 _ _ _ _
   | exact ih2 _ _ _ _ _ _ _ _
   | exact ih3 _ _ _ _ _ _ _ _
   | exact LeO.none _
   | refine LeO.ite ?_ ?_
   | refine LeO.bind ?_ (fun _ => ?_)
  ·intro y0 y1 y2 y3
   unfold modillionref05_Check.l0
   repeat' first
   | (with_reducible exact ih0 _ _ _)
   | (with_reducible exact ih1 _ _ _ _)
   | (with_reducible exact ih2 _ _ _ _ _ _ _ _)
   | (with_reducible exact ih3 _ _ _ _ _ _ _ _)
   | (with_reducible exact LeO.refl _)
   | (with_reducible exact LeO.none _)
   | (with_reducible refine LeO.ite ?_ ?_)
   | (with_reducible refine LeO.bind ?_ (fun _ => ?_))
   | exact ih0 _ _ _
   | exact ih1 _ _ _ _
   | exact ih2 _ _ _ _ _ _ _ _
   | exact ih3 _ _ _ _ _ _ _ _
   | exact LeO.none _
   | refine LeO.ite ?_ ?_
   | refine LeO.bind ?_ (fun _ => ?_)
  ·intro y0 y1 y2 y3 y4 y5 y6 y7
   unfold modillionref05_Check.j2
   repeat' first
   | (with_reducible exact ih0 _ _ _)
   | (with_reducible exact ih1 _ _ _ _)
   | (with_reducible exact ih2 _ _ _ _ _ _ _ _)
   | (with_reducible exact ih3 _ _ _ _ _ _ _ _)
   | (with_reducible exact LeO.refl _)
   | (with_reducible exact LeO.none _)
   | (with_reducible refine LeO.ite ?_ ?_)
   | (with_reducible refine LeO.bind ?_ (fun _ => ?_))
   | exact ih0 _ _ _
   | exact ih1 _ _ _ _
   | exact ih2 _ _ _ _ _ _ _ _
   | exact ih3 _ _ _ _ _ _ _ _
   | exact LeO.none _
   | refine LeO.ite ?_ ?_
   | refine LeO.bind ?_ (fun _ => ?_)
  ·intro y0 y1 y2 y3 y4 y5 y6 y7
   unfold modillionref05_Check.l1
   repeat' first
   | (with_reducible exact ih0 _ _ _)
   | (with_reducible exact ih1 _ _ _ _)
   | (with_reducible exact ih2 _ _ _ _ _ _ _ _)
   | (with_reducible exact ih3 _ _ _ _ _ _ _ _)
   | (with_reducible exact LeO.refl _)
   | (with_reducible exact LeO.none _)
   | (with_reducible refine LeO.ite ?_ ?_)
   | (with_reducible refine LeO.bind ?_ (fun _ => ?_))
   | exact ih0 _ _ _
   | exact ih1 _ _ _ _
   | exact ih2 _ _ _ _ _ _ _ _
   | exact ih3 _ _ _ _ _ _ _ _
   | exact LeO.none _
   | refine LeO.ite ?_ ?_
   | refine LeO.bind ?_ (fun _ => ?_)
theorem modillionref05_Check.mono : ∀ a0 a1 k, LeO (modillionref05_Check.f k a0 a1) (modillionref05_Check.f (k + 1) a0 a1) := by
 intro a0 a1 k
 obtain ⟨ih0, ih1, ih2, ih3⟩ := modillionref05_Check.mono_l k
 unfold modillionref05_Check.f
 repeat' first
   | (with_reducible exact ih0 _ _ _)
   | (with_reducible exact ih1 _ _ _ _)
   | (with_reducible exact ih2 _ _ _ _ _ _ _ _)
   | (with_reducible exact ih3 _ _ _ _ _ _ _ _)
   | (with_reducible exact LeO.refl _)
   | (with_reducible exact LeO.none _)
   | (with_reducible refine LeO.ite ?_ ?_)
   | (with_reducible refine LeO.bind ?_ (fun _ => ?_))
   | exact ih0 _ _ _
   | exact ih1 _ _ _ _
   | exact ih2 _ _ _ _ _ _ _ _
   | exact ih3 _ _ _ _ _ _ _ _
   | exact LeO.none _
   | refine LeO.ite ?_ ?_
   | refine LeO.bind ?_ (fun _ => ?_)
set_option maxHeartbeats 8000000 in
set_option maxRecDepth 100000 in
theorem modillionref05_Check.calls (k : Nat) (a0_0 : Int) (A0_1 : Option Addr) (c0_1 : Nat) (l0_1 : List (S46)) (r : Int) (w : World) (hr0_1 : Kd.C k46 w A0_1 l0_1.length l0_1) (hc0_1 : l0_1.length ≤ c0_1) (h : modillionref05_Check.f k a0_0 l0_1 = some r) :
  Calls Try.prog 23 #[.agg #[.int .i64 a0_0, .slice A0_1 l0_1.length c0_1]] w fun e w' => e = .returned (.int .i64 r) ∧ Below w.heap.size w w' := by
 have hu24 := Try.underlying24
 have hu46 := Try.underlying46
 have HR0_1 := Aside0.mk hr0_1
 have HC0_1 := Aside0.mk hc0_1
 clear hr0_1 hc0_1
 have HB := Aside0.mk (Below.refl w.heap.size w)
 have H : (if a0_0 < 1 then (modillionref05_Check.j0 k true a0_0 l0_1) else (if a0_0 > 64 then (modillionref05_Check.j0 k true a0_0 l0_1) else (modillionref05_Check.j0 k (decide ((l0_1.length : Int) > 512)) a0_0 l0_1))) = some r := h
 clear h
 have HC2 := Aside0.mk H
 clear H
 go_enter Try.func23, Try.ntmps23
 go_upto_region 1 with (first | ((with_reducible refine gate_dst (N := 1) rfl ?_); (try (refine gate_guard (by rfl) ?_; dsimp only)); refine box_event ?hg (N := 1) ?hd (cs := #[.int .i64 a0_0, .slice A0_1 l0_1.length c0_1]) (t := 24) ?hr ?_; (case hd => rfl); (case hg => rfl); (case hr => first | (go_simp; done) | (go_simp; rfl)); intro gb120 hg w3 hbox hb; have n0_ := Aside0.mk (below_step (kB HB.out) hb); have n1_ := Aside0.mk (hbox); have n2_ := Aside0.mk ((by rw [hg]; exact (below_size (kB HB.out)) : w.heap.size ≤ gb120)); have n3_ := Aside0.mk ((by rw [hg]; exact (below_size (kB HB.out)) : w.heap.size ≤ gb120)); clear HB; have HB := n0_; have BK120 := n1_; have GW120 := n2_; have GE120 := n3_; clear n0_ n1_ n2_ n3_; clear hb hbox hg))
 repeat (go_quiet (first | ((with_reducible refine gate_dst (N := 1) rfl ?_); (try (refine gate_guard (by rfl) ?_; dsimp only)); refine box_event ?hg (N := 1) ?hd (cs := #[.int .i64 a0_0, .slice A0_1 l0_1.length c0_1]) (t := 24) ?hr ?_; (case hd => rfl); (case hg => rfl); (case hr => first | (go_simp; done) | (go_simp; rfl)); intro gb120 hg w3 hbox hb; have n0_ := Aside0.mk (below_step (kB HB.out) hb); have n1_ := Aside0.mk (hbox); have n2_ := Aside0.mk ((by rw [hg]; exact (below_size (kB HB.out)) : w.heap.size ≤ gb120)); have n3_ := Aside0.mk ((by rw [hg]; exact (below_size (kB HB.out)) : w.heap.size ≤ gb120)); clear HB; have HB := n0_; have BK120 := n1_; have GW120 := n2_; have GE120 := n3_; clear n0_ n1_ n2_ n3_; clear hb hbox hg)); go_upto_region 1 with (first | ((with_reducible refine gate_dst (N := 1) rfl ?_); (try (refine gate_guard (by rfl) ?_; dsimp only)); refine box_event ?hg (N := 1) ?hd (cs := #[.int .i64 a0_0, .slice A0_1 l0_1.length c0_1]) (t := 24) ?hr ?_; (case hd => rfl); (case hg => rfl); (case hr => first | (go_simp; done) | (go_simp; rfl)); intro gb120 hg w3 hbox hb; have n0_ := Aside0.mk (below_step (kB HB.out) hb); have n1_ := Aside0.mk (hbox); have n2_ := Aside0.mk ((by rw [hg]; exact (below_size (kB HB.out)) : w.heap.size ≤ gb120)); have n3_ := Aside0.mk ((by rw [hg]; exact (below_size (kB HB.out)) : w.heap.size ≤ gb120)); clear HB; have HB := n0_; have BK120 := n1_; have GW120 := n2_; have GE120 := n3_; clear n0_ n1_ n2_ n3_; clear hb hbox hg)))
 (try simp only [Act.put, List.setIfInBounds_toArray, List.set_cons_zero, List.set_cons_succ])
 go_cut [20] (fun v20 wc => ∃ (kq : Nat) (x20_1 : Bool), v20 = .bool x20_1 ∧ Aside0 (modillionref05_Check.j0 kq x20_1 a0_0 l0_1 = some r) ∧ Aside0 (kq ≤ k) ∧ Aside0 (wc.heap[gb120]? = some (.cells #[.int .i64 a0_0, (.slice A0_1 l0_1.length c0_1)] 24 (0, 0))) ∧ Aside0 (Below w.heap.size w wc))
 case first =>
  have H := HC2.out
  clear HC2
  by_cases c4 : a0_0 < 1
  ·rw [if_pos c4] at H
   have c4b0 := decide_eq_true c4
   clear c4
   (first | rw [c4b0] | (simp only [i64_w, i32_w]; rw [c4b0]) | skip)
   have H' := Aside0.mk H
   clear H
   have hcz5_0 : w3.cell? ⟨gb120, 0, none⟩ = some (.int .i64 a0_0) := (blk_cell BK120.out 0).trans rfl
   have hcz5_1 : w3.cell? ⟨gb120, 1, none⟩ = some (.slice A0_1 l0_1.length c0_1) := (blk_cell BK120.out 1).trans rfl
   have hfz5_0 := blk_frozen BK120.out 0
   have hfz5_1 := blk_frozen BK120.out 1
   go_wp2
   repeat (go_quiet (fail); try go_wp2)
   go_meet
   case rel => exact ⟨_, (true), (by first | rfl | (simp; done) | (simp [*]; done)), H', ⟨by first | omega | exact Nat.le_refl _⟩, ⟨kA BK120.out⟩, ⟨kB HB.out⟩⟩
  ·rw [if_neg c4] at H
   have c4b0 := decide_eq_false c4
   clear c4
   (first | rw [c4b0] | (simp only [i64_w, i32_w]; rw [c4b0]) | skip)
   by_cases c6 : a0_0 > 64
   ·rw [if_pos c6] at H
    have c6b0 : decide (64 < a0_0) = true := decide_eq_true c6
    clear c6
    have H' := Aside0.mk H
    clear H
    have hcz7_0 : w3.cell? ⟨gb120, 0, none⟩ = some (.int .i64 a0_0) := (blk_cell BK120.out 0).trans rfl
    have hcz7_1 : w3.cell? ⟨gb120, 1, none⟩ = some (.slice A0_1 l0_1.length c0_1) := (blk_cell BK120.out 1).trans rfl
    have hfz7_0 := blk_frozen BK120.out 0
    have hfz7_1 := blk_frozen BK120.out 1
    go_wp2
    repeat (go_quiet (fail); try go_wp2)
    go_meet
    case rel => exact ⟨_, (true), (by first | rfl | (simp; done) | (simp [*]; done)), H', ⟨by first | omega | exact Nat.le_refl _⟩, ⟨kA BK120.out⟩, ⟨kB HB.out⟩⟩
   ·rw [if_neg c6] at H
    have c6b0 : decide (64 < a0_0) = false := decide_eq_false c6
    clear c6
    have H' := Aside0.mk H
    clear H
    have hcz8_0 : w3.cell? ⟨gb120, 0, none⟩ = some (.int .i64 a0_0) := (blk_cell BK120.out 0).trans rfl
    have hcz8_1 : w3.cell? ⟨gb120, 1, none⟩ = some (.slice A0_1 l0_1.length c0_1) := (blk_cell BK120.out 1).trans rfl
    have hfz8_0 := blk_frozen BK120.out 0
    have hfz8_1 := blk_frozen BK120.out 1
    go_wp2
    repeat (go_quiet (fail); try go_wp2)
    go_meet
    case rel => exact ⟨_, (decide ((l0_1.length : Int) > 512)), (by first | rfl | (simp; done) | (simp [*]; done)), H', ⟨by first | omega | exact Nat.le_refl _⟩, ⟨kA BK120.out⟩, ⟨kB HB.out⟩⟩
 case rest =>
  clear HC2
  try clear c2
  try clear p2
  try clear c4
  try clear c4b0
  try clear c6
  try clear c6b0
  try clear hcz5_0
  try clear hcz5_1
  try clear hcz7_0
  try clear hcz7_1
  try clear hcz8_0
  try clear hcz8_1
  try clear hfz5_0
  try clear hfz5_1
  try clear hfz7_0
  try clear hfz7_1
  try clear hfz8_0
  try clear hfz8_1
  obtain ⟨kq, x20_1, rfl, HA, HJ1, BK120, HB⟩ := hcut
  cases kq with
  | zero => exact absurd HA.out (by simp [modillionref05_Check.j0])
  | succ kj1 =>
   have H := HA.out
   clear HA
   simp only [modillionref05_Check.j0] at H
   by_cases c9 : x20_1 = true
   ·subst c9
    have H1 : (some 50) = some r := by rw [if_pos rfl] at H; exact H
    clear H
    have H := H1
    clear H1
    obtain rfl := Option.some.inj H
    go_wp2
    repeat (go_quiet (fail); try go_wp2)
    go_ret
    exact ⟨by first | rfl | (simp [errW_none, errW_some] <;> rfl) | (simp [*, errW_none, errW_some] <;> rfl), by exact kB HB.out⟩
   ·replace c9 := Bool.eq_false_iff.mpr c9
    subst c9
    have H1 : (modillionref05_Check.l0 kj1 false 0 a0_0 l0_1) = some r := by rw [if_neg (show ¬ (false = true) by decide)] at H; exact H
    clear H
    have H := H1
    clear H1
    have H' := Aside0.mk H
    clear H
    go_wp2
    repeat (go_quiet (fail); try go_wp2)
    go_loopg [3, 4] kj1 (fun kq v3 v4 w' => ∃ (x3_2 : Bool) (x4_2 : Int), v3 = .bool x3_2 ∧ v4 = .int .i64 x4_2 ∧ Aside0 (modillionref05_Check.l0 kq x3_2 x4_2 a0_0 l0_1 = some r) ∧ Aside0 (kq ≤ kj1) ∧ Aside0 (w'.heap[gb120]? = some (.cells #[.int .i64 a0_0, (.slice A0_1 l0_1.length c0_1)] 24 (0, 0))) ∧ Aside0 (Below w.heap.size w w'))
    case atStart => exact ⟨(false), (0), (by first | rfl | (simp; done) | (simp [*]; done)), (by first | rfl | (simp; done) | (simp [*]; done)), H', ⟨Nat.le_refl _⟩, ⟨kA BK120.out⟩, ⟨kB HB.out⟩⟩
    case round =>
     clear H'
     try clear c2
     try clear p2
     try clear c4
     try clear c4b0
     try clear c6
     try clear c6b0
     try clear c9
     try clear hcz5_0
     try clear hcz5_1
     try clear hcz7_0
     try clear hcz7_1
     try clear hcz8_0
     try clear hcz8_1
     try clear hfz5_0
     try clear hfz5_1
     try clear hfz7_0
     try clear hfz7_1
     try clear hfz8_0
     try clear hfz8_1
     try clear p2
     obtain ⟨x3_2, x4_2, rfl, rfl, HA, HK2, BK120, HB⟩ := hrel
     cases gk with
     | zero => exact absurd HA.out (by simp [modillionref05_Check.l0])
     | succ k2 =>
      have H := HA.out
      clear HA
      simp only [modillionref05_Check.l0] at H
      by_cases c10 : x4_2 < (l0_1.length : Int)
      ·rw [if_pos c10] at H
       have c10b0 := decide_eq_true c10
       clear c10
       obtain ⟨c11, H⟩ := iteS10 H
       have c11b0 := decide_eq_true c11
       clear c11
       have HC12 := Aside0.mk H
       clear H
       have hcz13_0 : wr.cell? ⟨gb120, 0, none⟩ = some (.int .i64 a0_0) := (blk_cell BK120.out 0).trans rfl
       have hcz13_1 : wr.cell? ⟨gb120, 1, none⟩ = some (.slice A0_1 l0_1.length c0_1) := (blk_cell BK120.out 1).trans rfl
       have hfz13_0 := blk_frozen BK120.out 0
       have hfz13_1 := blk_frozen BK120.out 1
       have p121 : 0 ≤ (x4_2 : Int) := of_decide_eq_true (by first | (with_reducible assumption) | assumption)
       have q121 : x4_2 < (l0_1.length : Int) := of_decide_eq_true (by first | (with_reducible assumption) | assumption)
       obtain ⟨ad121, e121, hx121_0, hx121_1, hx121_2⟩ := at_T46 HR0_1.out x4_2 p121 q121
       cases e121
       replace hx121_0 := (HB.out.cell (World.block_lt_of_cell? w _ hx121_0)).trans hx121_0
       replace hx121_1 := (HB.out.cell (World.block_lt_of_cell? w _ hx121_1)).trans hx121_1
       replace hx121_2 := (HB.out.cell (World.block_lt_of_cell? w _ hx121_2)).trans hx121_2
       replace p121 := eq_true p121
       replace q121 := eq_true q121
       go_upto_region 8 with (first | ((with_reducible refine gate_dst (N := 5) rfl ?_); (try (refine gate_guard (by rfl) ?_; dsimp only)); refine box_event ?hg (N := 5) ?hd (cs := #[.int .i64 0, .int .i64 0, .int .i64 0]) (t := 46) ?hr ?_; (case hd => rfl); (case hg => rfl); (case hr => first | (go_simp; done) | (go_simp; rfl)); intro gb122 hg w14 hbox hb; have n0_ := Aside0.mk (blk_below (g := gb120) (o := .cells #[.int .i64 a0_0, .slice (some ad121) l0_1.length c0_1] 24 (0, 0)) (kA BK120.out) hb); have n1_ := Aside0.mk (below_step (kB HB.out) hb); have n2_ := Aside0.mk (hbox); have n3_ := Aside0.mk ((by rw [hg]; exact (below_size (kB HB.out)) : w.heap.size ≤ gb122)); have n4_ := Aside0.mk ((by rw [hg]; exact (below_size (kB HB.out)) : w.heap.size ≤ gb122)); have n5_ := Aside0.mk ((by rw [hg]; exact Nat.ne_of_lt (blk_lt (g := gb120) (o := .cells #[.int .i64 a0_0, .slice (some ad121) l0_1.length c0_1] 24 (0, 0)) (kA BK120.out)) : gb120 ≠ gb122)); have n6_ := Aside0.mk ((by rw [hg]; exact Nat.ne_of_gt (blk_lt (g := gb120) (o := .cells #[.int .i64 a0_0, .slice (some ad121) l0_1.length c0_1] 24 (0, 0)) (kA BK120.out)) : gb122 ≠ gb120)); clear BK120; clear HB; have BK120 := n0_; have HB := n1_; have BK122 := n2_; have GW122 := n3_; have GE122 := n4_; have NB120_122 := n5_; have NB122_120 := n6_; clear n0_ n1_ n2_ n3_ n4_ n5_ n6_; clear hb hbox hg; have hnb15 := NB122_120.out; have hnc15 := NB120_122.out; have hcz16_0 : w14.cell? ⟨gb122, 0, none⟩ = some (.int .i64 0) := (blk_cell BK122.out 0).trans rfl; have hcz16_1 : w14.cell? ⟨gb122, 1, none⟩ = some (.int .i64 0) := (blk_cell BK122.out 1).trans rfl; have hcz16_2 : w14.cell? ⟨gb122, 2, none⟩ = some (.int .i64 0) := (blk_cell BK122.out 2).trans rfl; have hfz16_0 := blk_frozen BK122.out 0; have hfz16_1 := blk_frozen BK122.out 1; have hfz16_2 := blk_frozen BK122.out 2))
       repeat (go_quiet (first | ((with_reducible refine gate_dst (N := 5) rfl ?_); (try (refine gate_guard (by rfl) ?_; dsimp only)); refine box_event ?hg (N := 5) ?hd (cs := #[.int .i64 0, .int .i64 0, .int .i64 0]) (t := 46) ?hr ?_; (case hd => rfl); (case hg => rfl); (case hr => first | (go_simp; done) | (go_simp; rfl)); intro gb122 hg w14 hbox hb; have n0_ := Aside0.mk (blk_below (g := gb120) (o := .cells #[.int .i64 a0_0, .slice (some ad121) l0_1.length c0_1] 24 (0, 0)) (kA BK120.out) hb); have n1_ := Aside0.mk (below_step (kB HB.out) hb); have n2_ := Aside0.mk (hbox); have n3_ := Aside0.mk ((by rw [hg]; exact (below_size (kB HB.out)) : w.heap.size ≤ gb122)); have n4_ := Aside0.mk ((by rw [hg]; exact (below_size (kB HB.out)) : w.heap.size ≤ gb122)); have n5_ := Aside0.mk ((by rw [hg]; exact Nat.ne_of_lt (blk_lt (g := gb120) (o := .cells #[.int .i64 a0_0, .slice (some ad121) l0_1.length c0_1] 24 (0, 0)) (kA BK120.out)) : gb120 ≠ gb122)); have n6_ := Aside0.mk ((by rw [hg]; exact Nat.ne_of_gt (blk_lt (g := gb120) (o := .cells #[.int .i64 a0_0, .slice (some ad121) l0_1.length c0_1] 24 (0, 0)) (kA BK120.out)) : gb122 ≠ gb120)); clear BK120; clear HB; have BK120 := n0_; have HB := n1_; have BK122 := n2_; have GW122 := n3_; have GE122 := n4_; have NB120_122 := n5_; have NB122_120 := n6_; clear n0_ n1_ n2_ n3_ n4_ n5_ n6_; clear hb hbox hg; have hnb15 := NB122_120.out; have hnc15 := NB120_122.out; have hcz16_0 : w14.cell? ⟨gb122, 0, none⟩ = some (.int .i64 0) := (blk_cell BK122.out 0).trans rfl; have hcz16_1 : w14.cell? ⟨gb122, 1, none⟩ = some (.int .i64 0) := (blk_cell BK122.out 1).trans rfl; have hcz16_2 : w14.cell? ⟨gb122, 2, none⟩ = some (.int .i64 0) := (blk_cell BK122.out 2).trans rfl; have hfz16_0 := blk_frozen BK122.out 0; have hfz16_1 := blk_frozen BK122.out 1; have hfz16_2 := blk_frozen BK122.out 2)); go_upto_region 8 with (first | ((with_reducible refine gate_dst (N := 5) rfl ?_); (try (refine gate_guard (by rfl) ?_; dsimp only)); refine box_event ?hg (N := 5) ?hd (cs := #[.int .i64 0, .int .i64 0, .int .i64 0]) (t := 46) ?hr ?_; (case hd => rfl); (case hg => rfl); (case hr => first | (go_simp; done) | (go_simp; rfl)); intro gb122 hg w14 hbox hb; have n0_ := Aside0.mk (blk_below (g := gb120) (o := .cells #[.int .i64 a0_0, .slice (some ad121) l0_1.length c0_1] 24 (0, 0)) (kA BK120.out) hb); have n1_ := Aside0.mk (below_step (kB HB.out) hb); have n2_ := Aside0.mk (hbox); have n3_ := Aside0.mk ((by rw [hg]; exact (below_size (kB HB.out)) : w.heap.size ≤ gb122)); have n4_ := Aside0.mk ((by rw [hg]; exact (below_size (kB HB.out)) : w.heap.size ≤ gb122)); have n5_ := Aside0.mk ((by rw [hg]; exact Nat.ne_of_lt (blk_lt (g := gb120) (o := .cells #[.int .i64 a0_0, .slice (some ad121) l0_1.length c0_1] 24 (0, 0)) (kA BK120.out)) : gb120 ≠ gb122)); have n6_ := Aside0.mk ((by rw [hg]; exact Nat.ne_of_gt (blk_lt (g := gb120) (o := .cells #[.int .i64 a0_0, .slice (some ad121) l0_1.length c0_1] 24 (0, 0)) (kA BK120.out)) : gb122 ≠ gb120)); clear BK120; clear HB; have BK120 := n0_; have HB := n1_; have BK122 := n2_; have GW122 := n3_; have GE122 := n4_; have NB120_122 := n5_; have NB122_120 := n6_; clear n0_ n1_ n2_ n3_ n4_ n5_ n6_; clear hb hbox hg; have hnb15 := NB122_120.out; have hnc15 := NB120_122.out; have hcz16_0 : w14.cell? ⟨gb122, 0, none⟩ = some (.int .i64 0) := (blk_cell BK122.out 0).trans rfl; have hcz16_1 : w14.cell? ⟨gb122, 1, none⟩ = some (.int .i64 0) := (blk_cell BK122.out 1).trans rfl; have hcz16_2 : w14.cell? ⟨gb122, 2, none⟩ = some (.int .i64 0) := (blk_cell BK122.out 2).trans rfl; have hfz16_0 := blk_frozen BK122.out 0; have hfz16_1 := blk_frozen BK122.out 1; have hfz16_2 := blk_frozen BK122.out 2)))
       (try simp only [Act.put, List.setIfInBounds_toArray, List.set_cons_zero, List.set_cons_succ])
       go_cut [64] (fun v64 wc => ∃ (kq : Nat) (x64_11 : Bool), v64 = .bool x64_11 ∧ Aside0 (modillionref05_Check.j2 kq x3_2 x4_2 x64_11 a0_0 l0_1 ((rd_T46 l0_1 x4_2).f0) ((rd_T46 l0_1 x4_2).f1) ((rd_T46 l0_1 x4_2).f2) = some r) ∧ Aside0 (kq ≤ k2) ∧ Aside0 (wc.heap[gb120]? = some (.cells #[.int .i64 a0_0, (.slice (some ad121) l0_1.length c0_1)] 24 (0, 0))) ∧ Aside0 (wc.heap[gb122]? = some (.cells #[.int .i64 ((rd_T46 l0_1 x4_2).f0), .int .i64 ((rd_T46 l0_1 x4_2).f1), .int .i64 ((rd_T46 l0_1 x4_2).f2)] 46 (0, 0))) ∧ Aside0 (Below w.heap.size w wc))
       case first =>
        have H := HC12.out
        clear HC12
        by_cases c17 : ((rd_T46 l0_1 x4_2).f0) < 0
        ·rw [if_pos c17] at H
         have c17b0 := decide_eq_true c17
         clear c17
         (first | rw [c17b0] | (simp only [i64_w, i32_w]; rw [c17b0]) | skip)
         have H' := Aside0.mk H
         clear H
         have hnb18 := NB122_120.out
         have hnc18 := NB120_122.out
         have hcz19_0 : w14.cell? ⟨gb122, 0, none⟩ = some (.int .i64 0) := (blk_cell BK122.out 0).trans rfl
         have hcz19_1 : w14.cell? ⟨gb122, 1, none⟩ = some (.int .i64 0) := (blk_cell BK122.out 1).trans rfl
         have hcz19_2 : w14.cell? ⟨gb122, 2, none⟩ = some (.int .i64 0) := (blk_cell BK122.out 2).trans rfl
         have hfz19_0 := blk_frozen BK122.out 0
         have hfz19_1 := blk_frozen BK122.out 1
         have hfz19_2 := blk_frozen BK122.out 2
         go_wp2
         repeat (go_quiet (fail); try go_wp2)
         go_meet
         case rel => exact ⟨_, (true), (by first | rfl | (simp; done) | (simp [*]; done)), H', ⟨by have := HJ1.out; have := HK2.out; first | omega | exact Nat.le_refl _⟩, ⟨kF NB120_122.out BK120.out⟩, ⟨by (with_reducible repeat (first | refine blk_drewN ?_ _ | refine blk_drew ?_ | refine blk_alloc ?_ _)); refine blk_put (cs := #[.int .i64 ((rd_T46 l0_1 x4_2).f0), .int .i64 ((rd_T46 l0_1 x4_2).f1), .int .i64 0]) ?_ 2 _ rfl; refine blk_put (cs := #[.int .i64 ((rd_T46 l0_1 x4_2).f0), .int .i64 0, .int .i64 0]) ?_ 1 _ rfl; refine blk_put (cs := #[.int .i64 0, .int .i64 0, .int .i64 0]) ?_ 0 _ rfl; exact kA BK122.out⟩, ⟨kB HB.out⟩⟩
        ·rw [if_neg c17] at H
         have c17b0 := decide_eq_false c17
         clear c17
         (first | rw [c17b0] | (simp only [i64_w, i32_w]; rw [c17b0]) | skip)
         by_cases c20 : ((rd_T46 l0_1 x4_2).f0) ≥ a0_0
         ·rw [if_pos c20] at H
          have c20b0 : decide (a0_0 ≤ ((rd_T46 l0_1 x4_2).f0)) = true := decide_eq_true c20
          clear c20
          have H' := Aside0.mk H
          clear H
          have hnb21 := NB122_120.out
          have hnc21 := NB120_122.out
          have hcz22_0 : w14.cell? ⟨gb122, 0, none⟩ = some (.int .i64 0) := (blk_cell BK122.out 0).trans rfl
          have hcz22_1 : w14.cell? ⟨gb122, 1, none⟩ = some (.int .i64 0) := (blk_cell BK122.out 1).trans rfl
          have hcz22_2 : w14.cell? ⟨gb122, 2, none⟩ = some (.int .i64 0) := (blk_cell BK122.out 2).trans rfl
          have hfz22_0 := blk_frozen BK122.out 0
          have hfz22_1 := blk_frozen BK122.out 1
          have hfz22_2 := blk_frozen BK122.out 2
          have hcz23_0 : w14.cell? ⟨gb120, 0, none⟩ = some (.int .i64 a0_0) := (blk_cell BK120.out 0).trans rfl
          have hcz23_1 : w14.cell? ⟨gb120, 1, none⟩ = some (.slice (some ad121) l0_1.length c0_1) := (blk_cell BK120.out 1).trans rfl
          have hfz23_0 := blk_frozen BK120.out 0
          have hfz23_1 := blk_frozen BK120.out 1
          go_wp2
          repeat (go_quiet (fail); try go_wp2)
          go_meet
          case rel => exact ⟨_, (true), (by first | rfl | (simp; done) | (simp [*]; done)), H', ⟨by have := HJ1.out; have := HK2.out; first | omega | exact Nat.le_refl _⟩, ⟨kF NB120_122.out BK120.out⟩, ⟨by (with_reducible repeat (first | refine blk_drewN ?_ _ | refine blk_drew ?_ | refine blk_alloc ?_ _)); refine blk_put (cs := #[.int .i64 ((rd_T46 l0_1 x4_2).f0), .int .i64 ((rd_T46 l0_1 x4_2).f1), .int .i64 0]) ?_ 2 _ rfl; refine blk_put (cs := #[.int .i64 ((rd_T46 l0_1 x4_2).f0), .int .i64 0, .int .i64 0]) ?_ 1 _ rfl; refine blk_put (cs := #[.int .i64 0, .int .i64 0, .int .i64 0]) ?_ 0 _ rfl; exact kA BK122.out⟩, ⟨kB HB.out⟩⟩
         ·rw [if_neg c20] at H
          have c20b0 : decide (a0_0 ≤ ((rd_T46 l0_1 x4_2).f0)) = false := decide_eq_false c20
          clear c20
          by_cases c24 : ((rd_T46 l0_1 x4_2).f1) < 0
          ·rw [if_pos c24] at H
           have c24b0 := decide_eq_true c24
           clear c24
           have H' := Aside0.mk H
           clear H
           have hnb25 := NB122_120.out
           have hnc25 := NB120_122.out
           have hcz26_0 : w14.cell? ⟨gb122, 0, none⟩ = some (.int .i64 0) := (blk_cell BK122.out 0).trans rfl
           have hcz26_1 : w14.cell? ⟨gb122, 1, none⟩ = some (.int .i64 0) := (blk_cell BK122.out 1).trans rfl
           have hcz26_2 : w14.cell? ⟨gb122, 2, none⟩ = some (.int .i64 0) := (blk_cell BK122.out 2).trans rfl
           have hfz26_0 := blk_frozen BK122.out 0
           have hfz26_1 := blk_frozen BK122.out 1
           have hfz26_2 := blk_frozen BK122.out 2
           have hcz27_0 : w14.cell? ⟨gb120, 0, none⟩ = some (.int .i64 a0_0) := (blk_cell BK120.out 0).trans rfl
           have hcz27_1 : w14.cell? ⟨gb120, 1, none⟩ = some (.slice (some ad121) l0_1.length c0_1) := (blk_cell BK120.out 1).trans rfl
           have hfz27_0 := blk_frozen BK120.out 0
           have hfz27_1 := blk_frozen BK120.out 1
           go_wp2
           repeat (go_quiet (fail); try go_wp2)
           go_meet
           case rel => exact ⟨_, (true), (by first | rfl | (simp; done) | (simp [*]; done)), H', ⟨by have := HJ1.out; have := HK2.out; first | omega | exact Nat.le_refl _⟩, ⟨kF NB120_122.out BK120.out⟩, ⟨by (with_reducible repeat (first | refine blk_drewN ?_ _ | refine blk_drew ?_ | refine blk_alloc ?_ _)); refine blk_put (cs := #[.int .i64 ((rd_T46 l0_1 x4_2).f0), .int .i64 ((rd_T46 l0_1 x4_2).f1), .int .i64 0]) ?_ 2 _ rfl; refine blk_put (cs := #[.int .i64 ((rd_T46 l0_1 x4_2).f0), .int .i64 0, .int .i64 0]) ?_ 1 _ rfl; refine blk_put (cs := #[.int .i64 0, .int .i64 0, .int .i64 0]) ?_ 0 _ rfl; exact kA BK122.out⟩, ⟨kB HB.out⟩⟩
          ·rw [if_neg c24] at H
           have c24b0 := decide_eq_false c24
           clear c24
           by_cases c28 : ((rd_T46 l0_1 x4_2).f1) ≥ a0_0
           ·rw [if_pos c28] at H
            have c28b0 : decide (a0_0 ≤ ((rd_T46 l0_1 x4_2).f1)) = true := decide_eq_true c28
            clear c28
            have H' := Aside0.mk H
            clear H
            have hnb29 := NB122_120.out
            have hnc29 := NB120_122.out
            have hcz30_0 : w14.cell? ⟨gb122, 0, none⟩ = some (.int .i64 0) := (blk_cell BK122.out 0).trans rfl
            have hcz30_1 : w14.cell? ⟨gb122, 1, none⟩ = some (.int .i64 0) := (blk_cell BK122.out 1).trans rfl
            have hcz30_2 : w14.cell? ⟨gb122, 2, none⟩ = some (.int .i64 0) := (blk_cell BK122.out 2).trans rfl
            have hfz30_0 := blk_frozen BK122.out 0
            have hfz30_1 := blk_frozen BK122.out 1
            have hfz30_2 := blk_frozen BK122.out 2
            have hcz31_0 : w14.cell? ⟨gb120, 0, none⟩ = some (.int .i64 a0_0) := (blk_cell BK120.out 0).trans rfl
            have hcz31_1 : w14.cell? ⟨gb120, 1, none⟩ = some (.slice (some ad121) l0_1.length c0_1) := (blk_cell BK120.out 1).trans rfl
            have hfz31_0 := blk_frozen BK120.out 0
            have hfz31_1 := blk_frozen BK120.out 1
            go_wp2
            repeat (go_quiet (fail); try go_wp2)
            go_meet
            case rel => exact ⟨_, (true), (by first | rfl | (simp; done) | (simp [*]; done)), H', ⟨by have := HJ1.out; have := HK2.out; first | omega | exact Nat.le_refl _⟩, ⟨kF NB120_122.out BK120.out⟩, ⟨by (with_reducible repeat (first | refine blk_drewN ?_ _ | refine blk_drew ?_ | refine blk_alloc ?_ _)); refine blk_put (cs := #[.int .i64 ((rd_T46 l0_1 x4_2).f0), .int .i64 ((rd_T46 l0_1 x4_2).f1), .int .i64 0]) ?_ 2 _ rfl; refine blk_put (cs := #[.int .i64 ((rd_T46 l0_1 x4_2).f0), .int .i64 0, .int .i64 0]) ?_ 1 _ rfl; refine blk_put (cs := #[.int .i64 0, .int .i64 0, .int .i64 0]) ?_ 0 _ rfl; exact kA BK122.out⟩, ⟨kB HB.out⟩⟩
           ·rw [if_neg c28] at H
            have c28b0 : decide (a0_0 ≤ ((rd_T46 l0_1 x4_2).f1)) = false := decide_eq_false c28
            clear c28
            by_cases c32 : ((rd_T46 l0_1 x4_2).f2) < 0
            ·rw [if_pos c32] at H
             have c32b0 := decide_eq_true c32
             clear c32
             have H' := Aside0.mk H
             clear H
             have hnb33 := NB122_120.out
             have hnc33 := NB120_122.out
             have hcz34_0 : w14.cell? ⟨gb122, 0, none⟩ = some (.int .i64 0) := (blk_cell BK122.out 0).trans rfl
             have hcz34_1 : w14.cell? ⟨gb122, 1, none⟩ = some (.int .i64 0) := (blk_cell BK122.out 1).trans rfl
             have hcz34_2 : w14.cell? ⟨gb122, 2, none⟩ = some (.int .i64 0) := (blk_cell BK122.out 2).trans rfl
             have hfz34_0 := blk_frozen BK122.out 0
             have hfz34_1 := blk_frozen BK122.out 1
             have hfz34_2 := blk_frozen BK122.out 2
             have hcz35_0 : w14.cell? ⟨gb120, 0, none⟩ = some (.int .i64 a0_0) := (blk_cell BK120.out 0).trans rfl
             have hcz35_1 : w14.cell? ⟨gb120, 1, none⟩ = some (.slice (some ad121) l0_1.length c0_1) := (blk_cell BK120.out 1).trans rfl
             have hfz35_0 := blk_frozen BK120.out 0
             have hfz35_1 := blk_frozen BK120.out 1
             go_wp2
             repeat (go_quiet (fail); try go_wp2)
             go_meet
             case rel => exact ⟨_, (true), (by first | rfl | (simp; done) | (simp [*]; done)), H', ⟨by have := HJ1.out; have := HK2.out; first | omega | exact Nat.le_refl _⟩, ⟨kF NB120_122.out BK120.out⟩, ⟨by (with_reducible repeat (first | refine blk_drewN ?_ _ | refine blk_drew ?_ | refine blk_alloc ?_ _)); refine blk_put (cs := #[.int .i64 ((rd_T46 l0_1 x4_2).f0), .int .i64 ((rd_T46 l0_1 x4_2).f1), .int .i64 0]) ?_ 2 _ rfl; refine blk_put (cs := #[.int .i64 ((rd_T46 l0_1 x4_2).f0), .int .i64 0, .int .i64 0]) ?_ 1 _ rfl; refine blk_put (cs := #[.int .i64 0, .int .i64 0, .int .i64 0]) ?_ 0 _ rfl; exact kA BK122.out⟩, ⟨kB HB.out⟩⟩
            ·rw [if_neg c32] at H
             have c32b0 := decide_eq_false c32
             clear c32
             have H' := Aside0.mk H
             clear H
             have hnb36 := NB122_120.out
             have hnc36 := NB120_122.out
             have hcz37_0 : w14.cell? ⟨gb122, 0, none⟩ = some (.int .i64 0) := (blk_cell BK122.out 0).trans rfl
             have hcz37_1 : w14.cell? ⟨gb122, 1, none⟩ = some (.int .i64 0) := (blk_cell BK122.out 1).trans rfl
             have hcz37_2 : w14.cell? ⟨gb122, 2, none⟩ = some (.int .i64 0) := (blk_cell BK122.out 2).trans rfl
             have hfz37_0 := blk_frozen BK122.out 0
             have hfz37_1 := blk_frozen BK122.out 1
             have hfz37_2 := blk_frozen BK122.out 2
             have hcz38_0 : w14.cell? ⟨gb120, 0, none⟩ = some (.int .i64 a0_0) := (blk_cell BK120.out 0).trans rfl
             have hcz38_1 : w14.cell? ⟨gb120, 1, none⟩ = some (.slice (some ad121) l0_1.length c0_1) := (blk_cell BK120.out 1).trans rfl
             have hfz38_0 := blk_frozen BK120.out 0
             have hfz38_1 := blk_frozen BK120.out 1
             go_wp2
             repeat (go_quiet (fail); try go_wp2)
             go_meet
             case rel => exact ⟨_, (decide (((rd_T46 l0_1 x4_2).f2) > 1048576)), (by first | rfl | (simp; done) | (simp [*]; done)), H', ⟨by have := HJ1.out; have := HK2.out; first | omega | exact Nat.le_refl _⟩, ⟨kF NB120_122.out BK120.out⟩, ⟨by (with_reducible repeat (first | refine blk_drewN ?_ _ | refine blk_drew ?_ | refine blk_alloc ?_ _)); refine blk_put (cs := #[.int .i64 ((rd_T46 l0_1 x4_2).f0), .int .i64 ((rd_T46 l0_1 x4_2).f1), .int .i64 0]) ?_ 2 _ rfl; refine blk_put (cs := #[.int .i64 ((rd_T46 l0_1 x4_2).f0), .int .i64 0, .int .i64 0]) ?_ 1 _ rfl; refine blk_put (cs := #[.int .i64 0, .int .i64 0, .int .i64 0]) ?_ 0 _ rfl; exact kA BK122.out⟩, ⟨kB HB.out⟩⟩
       case rest =>
        clear HC12
        try clear c1
        try clear p1
        try clear q1
        try clear hx1
        try clear c2
        try clear p2
        try clear c3
        try clear c4
        try clear c4b0
        try clear c6
        try clear c6b0
        try clear c9
        try clear c10
        try clear c10b0
        try clear c11
        try clear c11b0
        try clear p12
        try clear q12
        try clear hx12
        try clear c15
        try clear c17
        try clear c17b0
        try clear c18
        try clear c20
        try clear c20b0
        try clear c21
        try clear c23
        try clear c24
        try clear c24b0
        try clear c25
        try clear c28
        try clear c28b0
        try clear c29
        try clear c32
        try clear c32b0
        try clear c33
        try clear c36
        try clear hcz13_0
        try clear hcz13_1
        try clear hcz16_0
        try clear hcz16_1
        try clear hcz16_2
        try clear hcz19_0
        try clear hcz19_1
        try clear hcz19_2
        try clear hcz22_0
        try clear hcz22_1
        try clear hcz22_2
        try clear hcz23_0
        try clear hcz23_1
        try clear hcz26_0
        try clear hcz26_1
        try clear hcz26_2
        try clear hcz27_0
        try clear hcz27_1
        try clear hcz30_0
        try clear hcz30_1
        try clear hcz30_2
        try clear hcz31_0
        try clear hcz31_1
        try clear hcz34_0
        try clear hcz34_1
        try clear hcz34_2
        try clear hcz35_0
        try clear hcz35_1
        try clear hcz37_0
        try clear hcz37_1
        try clear hcz37_2
        try clear hcz38_0
        try clear hcz38_1
        try clear hcz5_0
        try clear hcz5_1
        try clear hcz7_0
        try clear hcz7_1
        try clear hcz8_0
        try clear hcz8_1
        try clear hfz13_0
        try clear hfz13_1
        try clear hfz16_0
        try clear hfz16_1
        try clear hfz16_2
        try clear hfz19_0
        try clear hfz19_1
        try clear hfz19_2
        try clear hfz22_0
        try clear hfz22_1
        try clear hfz22_2
        try clear hfz23_0
        try clear hfz23_1
        try clear hfz26_0
        try clear hfz26_1
        try clear hfz26_2
        try clear hfz27_0
        try clear hfz27_1
        try clear hfz30_0
        try clear hfz30_1
        try clear hfz30_2
        try clear hfz31_0
        try clear hfz31_1
        try clear hfz34_0
        try clear hfz34_1
        try clear hfz34_2
        try clear hfz35_0
        try clear hfz35_1
        try clear hfz37_0
        try clear hfz37_1
        try clear hfz37_2
        try clear hfz38_0
        try clear hfz38_1
        try clear hfz5_0
        try clear hfz5_1
        try clear hfz7_0
        try clear hfz7_1
        try clear hfz8_0
        try clear hfz8_1
        try clear hx121_0
        try clear hx121_1
        try clear hx121_2
        try clear p121
        try clear p2
        try clear q121
        obtain ⟨kq, x64_11, rfl, HA, HJ11, BK120, BK122, HB⟩ := hcut
        cases kq with
        | zero => exact absurd HA.out (by simp [modillionref05_Check.j2])
        | succ kj11 =>
         have H := HA.out
         clear HA
         simp only [modillionref05_Check.j2] at H
         by_cases c39 : x64_11 = true
         ·subst c39
          have H1 : (some 50) = some r := by rw [if_pos rfl] at H; exact H
          clear H
          have H := H1
          clear H1
          obtain rfl := Option.some.inj H
          go_wp2
          repeat (go_quiet (fail); try go_wp2)
          go_ret
          exact ⟨by first | rfl | (simp [errW_none, errW_some] <;> rfl) | (simp [*, errW_none, errW_some] <;> rfl), by exact kB HB.out⟩
         ·replace c39 := Bool.eq_false_iff.mpr c39
          subst c39
          have H1 : (modillionref05_Check.l1 kj11 x3_2 x4_2 0 a0_0 l0_1 ((rd_T46 l0_1 x4_2).f0) ((rd_T46 l0_1 x4_2).f1) ((rd_T46 l0_1 x4_2).f2)) = some r := by rw [if_neg (show ¬ (false = true) by decide)] at H; exact H
          clear H
          have H := H1
          clear H1
          have H' := Aside0.mk H
          clear H
          go_wp2
          repeat (go_quiet (fail); try go_wp2)
          go_loopg [3, 6] kj11 (fun kq v3 v6 w' => ∃ (x3_4 : Bool) (x6_4 : Int), v3 = .bool x3_4 ∧ v6 = .int .i64 x6_4 ∧ Aside0 (modillionref05_Check.l1 kq x3_4 x4_2 x6_4 a0_0 l0_1 ((rd_T46 l0_1 x4_2).f0) ((rd_T46 l0_1 x4_2).f1) ((rd_T46 l0_1 x4_2).f2) = some r) ∧ Aside0 (kq ≤ kj11) ∧ Aside0 (w'.heap[gb120]? = some (.cells #[.int .i64 a0_0, (.slice (some ad121) l0_1.length c0_1)] 24 (0, 0))) ∧ Aside0 (w'.heap[gb122]? = some (.cells #[.int .i64 ((rd_T46 l0_1 x4_2).f0), .int .i64 ((rd_T46 l0_1 x4_2).f1), .int .i64 ((rd_T46 l0_1 x4_2).f2)] 46 (0, 0))) ∧ Aside0 (Below w.heap.size w w'))
          case atStart => exact ⟨(x3_2), (0), (by first | rfl | (simp; done) | (simp [*]; done)), (by first | rfl | (simp; done) | (simp [*]; done)), H', ⟨Nat.le_refl _⟩, ⟨kA BK120.out⟩, ⟨kA BK122.out⟩, ⟨kB HB.out⟩⟩
          case round =>
           clear H'
           try clear c1
           try clear p1
           try clear q1
           try clear hx1
           try clear c2
           try clear p2
           try clear c3
           try clear c4
           try clear c4b0
           try clear c6
           try clear c6b0
           try clear c9
           try clear c10
           try clear c10b0
           try clear c11
           try clear c11b0
           try clear p12
           try clear q12
           try clear hx12
           try clear c15
           try clear c17
           try clear c17b0
           try clear c18
           try clear c20
           try clear c20b0
           try clear c21
           try clear c23
           try clear c24
           try clear c24b0
           try clear c25
           try clear c28
           try clear c28b0
           try clear c29
           try clear c32
           try clear c32b0
           try clear c33
           try clear c36
           try clear c39
           try clear hcz13_0
           try clear hcz13_1
           try clear hcz16_0
           try clear hcz16_1
           try clear hcz16_2
           try clear hcz19_0
           try clear hcz19_1
           try clear hcz19_2
           try clear hcz22_0
           try clear hcz22_1
           try clear hcz22_2
           try clear hcz23_0
           try clear hcz23_1
           try clear hcz26_0
           try clear hcz26_1
           try clear hcz26_2
           try clear hcz27_0
           try clear hcz27_1
           try clear hcz30_0
           try clear hcz30_1
           try clear hcz30_2
           try clear hcz31_0
           try clear hcz31_1
           try clear hcz34_0
           try clear hcz34_1
           try clear hcz34_2
           try clear hcz35_0
           try clear hcz35_1
           try clear hcz37_0
           try clear hcz37_1
           try clear hcz37_2
           try clear hcz38_0
           try clear hcz38_1
           try clear hcz5_0
           try clear hcz5_1
           try clear hcz7_0
           try clear hcz7_1
           try clear hcz8_0
           try clear hcz8_1
           try clear hfz13_0
           try clear hfz13_1
           try clear hfz16_0
           try clear hfz16_1
           try clear hfz16_2
           try clear hfz19_0
           try clear hfz19_1
           try clear hfz19_2
           try clear hfz22_0
           try clear hfz22_1
           try clear hfz22_2
           try clear hfz23_0
           try clear hfz23_1
           try clear hfz26_0
           try clear hfz26_1
           try clear hfz26_2
           try clear hfz27_0
           try clear hfz27_1
           try clear hfz30_0
           try clear hfz30_1
           try clear hfz30_2
           try clear hfz31_0
           try clear hfz31_1
           try clear hfz34_0
           try clear hfz34_1
           try clear hfz34_2
           try clear hfz35_0
           try clear hfz35_1
           try clear hfz37_0
           try clear hfz37_1
           try clear hfz37_2
           try clear hfz38_0
           try clear hfz38_1
           try clear hfz5_0
           try clear hfz5_1
           try clear hfz7_0
           try clear hfz7_1
           try clear hfz8_0
           try clear hfz8_1
           try clear hx121_0
           try clear hx121_1
           try clear hx121_2
           try clear p1
           try clear p12
           try clear p121
           try clear p2
           try clear q1
           try clear q12
           try clear q121
           obtain ⟨x3_4, x6_4, rfl, rfl, HA, HK4, BK120, BK122, HB⟩ := hrel
           cases gk with
           | zero => exact absurd HA.out (by simp [modillionref05_Check.l1])
           | succ k4 =>
            have H := HA.out
            clear HA
            simp only [modillionref05_Check.l1] at H
            by_cases c40 : x6_4 < x4_2
            ·rw [if_pos c40] at H
             have c40b0 := decide_eq_true c40
             clear c40
             by_cases c41 : x3_4 = true
             ·subst c41
              have H1 : (modillionref05_Check.l1 k4 true x4_2 (wrap64 (x6_4 + 1)) a0_0 l0_1 ((rd_T46 l0_1 x4_2).f0) ((rd_T46 l0_1 x4_2).f1) ((rd_T46 l0_1 x4_2).f2)) = some r := by rw [if_pos rfl] at H; exact H
              clear H
              have H := H1
              clear H1
              have H' := Aside0.mk H
              clear H
              go_wp2
              repeat (go_quiet (fail); try go_wp2)
              go_roundg k4
              case measure => have := HJ1.out; have := HK2.out; have := HJ11.out; have := HK4.out; omega
              case rel => exact ⟨(true), (wrap64 (x6_4 + 1)), (by first | rfl | (simp; done) | (simp [*]; done)), (by first | rfl | (simp; done) | (simp [*]; done)), H', ⟨by have := HJ1.out; have := HK2.out; have := HJ11.out; have := HK4.out; omega⟩, ⟨kA BK120.out⟩, ⟨kA BK122.out⟩, ⟨kB HB.out⟩⟩
             ·replace c41 := Bool.eq_false_iff.mpr c41
              subst c41
              have H1 : (if 0 ≤ x6_4 then (if x6_4 < (l0_1.length : Int) then (if ((rd_T46 l0_1 x6_4).f0) = ((rd_T46 l0_1 x4_2).f0) then (modillionref05_Check.l1 k4 (((rd_T46 l0_1 x6_4).f1) == ((rd_T46 l0_1 x4_2).f1)) x4_2 (wrap64 (x6_4 + 1)) a0_0 l0_1 ((rd_T46 l0_1 x4_2).f0) ((rd_T46 l0_1 x4_2).f1) ((rd_T46 l0_1 x4_2).f2)) else (modillionref05_Check.l1 k4 false x4_2 (wrap64 (x6_4 + 1)) a0_0 l0_1 ((rd_T46 l0_1 x4_2).f0) ((rd_T46 l0_1 x4_2).f1) ((rd_T46 l0_1 x4_2).f2))) else (none)) else (none)) = some r := by rw [if_neg (show ¬ (false = true) by decide)] at H; exact H
              clear H
              have H := H1
              clear H1
              obtain ⟨c42, H⟩ := iteS10 H
              have c42b0 := decide_eq_true c42
              clear c42
              obtain ⟨c43, H⟩ := iteS10 H
              have c43b0 := decide_eq_true c43
              clear c43
              by_cases c44 : ((rd_T46 l0_1 x6_4).f0) = ((rd_T46 l0_1 x4_2).f0)
              ·rw [if_pos c44] at H
               have c44b0 : (((rd_T46 l0_1 x6_4).f0) == ((rd_T46 l0_1 x4_2).f0)) = true := beq_iff_eq.mpr c44
               have c44b1 : (((rd_T46 l0_1 x6_4).f0) != ((rd_T46 l0_1 x4_2).f0)) = false := bne_eq_false_iff_eq.mpr c44
               clear c44
               have H' := Aside0.mk H
               clear H
               have hnb45 := NB120_122.out
               have hnc45 := NB122_120.out
               have hcz46_0 : wr.cell? ⟨gb120, 0, none⟩ = some (.int .i64 a0_0) := (blk_cell BK120.out 0).trans rfl
               have hcz46_1 : wr.cell? ⟨gb120, 1, none⟩ = some (.slice (some ad121) l0_1.length c0_1) := (blk_cell BK120.out 1).trans rfl
               have hfz46_0 := blk_frozen BK120.out 0
               have hfz46_1 := blk_frozen BK120.out 1
               have p123 : 0 ≤ (x6_4 : Int) := of_decide_eq_true (by first | (with_reducible assumption) | assumption)
               have q123 : x6_4 < (l0_1.length : Int) := of_decide_eq_true (by first | (with_reducible assumption) | assumption)
               obtain ⟨ad123, e123, hx123_0, hx123_1, hx123_2⟩ := at_T46 HR0_1.out x6_4 p123 q123
               obtain rfl : ad121 = ad123 := (by injection e123)
               replace hx123_0 := (HB.out.cell (World.block_lt_of_cell? w _ hx123_0)).trans hx123_0
               replace hx123_1 := (HB.out.cell (World.block_lt_of_cell? w _ hx123_1)).trans hx123_1
               replace hx123_2 := (HB.out.cell (World.block_lt_of_cell? w _ hx123_2)).trans hx123_2
               replace p123 := eq_true p123
               replace q123 := eq_true q123
               have hcz47_0 : wr.cell? ⟨gb122, 0, none⟩ = some (.int .i64 ((rd_T46 l0_1 x4_2).f0)) := (blk_cell BK122.out 0).trans rfl
               have hcz47_1 : wr.cell? ⟨gb122, 1, none⟩ = some (.int .i64 ((rd_T46 l0_1 x4_2).f1)) := (blk_cell BK122.out 1).trans rfl
               have hcz47_2 : wr.cell? ⟨gb122, 2, none⟩ = some (.int .i64 ((rd_T46 l0_1 x4_2).f2)) := (blk_cell BK122.out 2).trans rfl
               have hfz47_0 := blk_frozen BK122.out 0
               have hfz47_1 := blk_frozen BK122.out 1
               have hfz47_2 := blk_frozen BK122.out 2
               have p124 : 0 ≤ (x6_4 : Int) := of_decide_eq_true (by first | (with_reducible assumption) | assumption)
               have q124 : x6_4 < (l0_1.length : Int) := of_decide_eq_true (by first | (with_reducible assumption) | assumption)
               obtain ⟨ad124, e124, hx124_0, hx124_1, hx124_2⟩ := at_T46 HR0_1.out x6_4 p124 q124
               obtain rfl : ad121 = ad124 := (by injection e124)
               replace hx124_0 := (HB.out.cell (World.block_lt_of_cell? w _ hx124_0)).trans hx124_0
               replace hx124_1 := (HB.out.cell (World.block_lt_of_cell? w _ hx124_1)).trans hx124_1
               replace hx124_2 := (HB.out.cell (World.block_lt_of_cell? w _ hx124_2)).trans hx124_2
               replace p124 := eq_true p124
               replace q124 := eq_true q124
               go_wp2
               repeat (go_quiet (fail); try go_wp2)
               go_roundg k4
               case measure => have := HJ1.out; have := HK2.out; have := HJ11.out; have := HK4.out; omega
               case rel => exact ⟨((((rd_T46 l0_1 x6_4).f1) == ((rd_T46 l0_1 x4_2).f1))), (wrap64 (x6_4 + 1)), (by first | rfl | (simp; done) | (simp [*]; done)), (by first | rfl | (simp; done) | (simp [*]; done)), H', ⟨by have := HJ1.out; have := HK2.out; have := HJ11.out; have := HK4.out; omega⟩, ⟨kA BK120.out⟩, ⟨kA BK122.out⟩, ⟨kB HB.out⟩⟩
              ·rw [if_neg c44] at H
               have c44b0 : (((rd_T46 l0_1 x6_4).f0) == ((rd_T46 l0_1 x4_2).f0)) = false := beq_eq_false_iff_ne.mpr c44
               have c44b1 : (((rd_T46 l0_1 x6_4).f0) != ((rd_T46 l0_1 x4_2).f0)) = true := bne_iff_ne.mpr c44
               have H' := Aside0.mk H
               clear H
               have hnb48 := NB120_122.out
               have hnc48 := NB122_120.out
               have hcz49_0 : wr.cell? ⟨gb120, 0, none⟩ = some (.int .i64 a0_0) := (blk_cell BK120.out 0).trans rfl
               have hcz49_1 : wr.cell? ⟨gb120, 1, none⟩ = some (.slice (some ad121) l0_1.length c0_1) := (blk_cell BK120.out 1).trans rfl
               have hfz49_0 := blk_frozen BK120.out 0
               have hfz49_1 := blk_frozen BK120.out 1
               have p123 : 0 ≤ (x6_4 : Int) := of_decide_eq_true (by first | (with_reducible assumption) | assumption)
               have q123 : x6_4 < (l0_1.length : Int) := of_decide_eq_true (by first | (with_reducible assumption) | assumption)
               obtain ⟨ad123, e123, hx123_0, hx123_1, hx123_2⟩ := at_T46 HR0_1.out x6_4 p123 q123
               obtain rfl : ad121 = ad123 := (by injection e123)
               replace hx123_0 := (HB.out.cell (World.block_lt_of_cell? w _ hx123_0)).trans hx123_0
               replace hx123_1 := (HB.out.cell (World.block_lt_of_cell? w _ hx123_1)).trans hx123_1
               replace hx123_2 := (HB.out.cell (World.block_lt_of_cell? w _ hx123_2)).trans hx123_2
               replace p123 := eq_true p123
               replace q123 := eq_true q123
               have hcz50_0 : wr.cell? ⟨gb122, 0, none⟩ = some (.int .i64 ((rd_T46 l0_1 x4_2).f0)) := (blk_cell BK122.out 0).trans rfl
               have hcz50_1 : wr.cell? ⟨gb122, 1, none⟩ = some (.int .i64 ((rd_T46 l0_1 x4_2).f1)) := (blk_cell BK122.out 1).trans rfl
               have hcz50_2 : wr.cell? ⟨gb122, 2, none⟩ = some (.int .i64 ((rd_T46 l0_1 x4_2).f2)) := (blk_cell BK122.out 2).trans rfl
               have hfz50_0 := blk_frozen BK122.out 0
               have hfz50_1 := blk_frozen BK122.out 1
               have hfz50_2 := blk_frozen BK122.out 2
               go_wp2
               repeat (go_quiet (fail); try go_wp2)
               go_roundg k4
               case measure => have := HJ1.out; have := HK2.out; have := HJ11.out; have := HK4.out; omega
               case rel => exact ⟨(false), (wrap64 (x6_4 + 1)), (by first | rfl | (simp; done) | (simp [*]; done)), (by first | rfl | (simp; done) | (simp [*]; done)), H', ⟨by have := HJ1.out; have := HK2.out; have := HJ11.out; have := HK4.out; omega⟩, ⟨kA BK120.out⟩, ⟨kA BK122.out⟩, ⟨kB HB.out⟩⟩
            ·rw [if_neg c40] at H
             have c40b0 := decide_eq_false c40
             clear c40
             have H' := Aside0.mk H
             clear H
             go_wp2
             repeat (go_quiet (fail); try go_wp2)
             go_roundg k4
             case measure => have := HJ1.out; have := HK2.out; have := HJ11.out; have := HK4.out; omega
             case rel => exact ⟨(x3_4), (wrap64 (x4_2 + 1)), (by first | rfl | (simp; done) | (simp [*]; done)), (by first | rfl | (simp; done) | (simp [*]; done)), H', ⟨by have := HJ1.out; have := HK2.out; have := HJ11.out; have := HK4.out; omega⟩, ⟨kA BK120.out⟩, ⟨kB HB.out⟩⟩
      ·rw [if_neg c10] at H
       have c10b0 := decide_eq_false c10
       clear c10
       by_cases c51 : x3_2 = true
       ·subst c51
        have H1 : (some 51) = some r := by rw [if_pos rfl] at H; exact H
        clear H
        have H := H1
        clear H1
        obtain rfl := Option.some.inj H
        have hcz52_0 : wr.cell? ⟨gb120, 0, none⟩ = some (.int .i64 a0_0) := (blk_cell BK120.out 0).trans rfl
        have hcz52_1 : wr.cell? ⟨gb120, 1, none⟩ = some (.slice A0_1 l0_1.length c0_1) := (blk_cell BK120.out 1).trans rfl
        have hfz52_0 := blk_frozen BK120.out 0
        have hfz52_1 := blk_frozen BK120.out 1
        go_wp2
        repeat (go_quiet (fail); try go_wp2)
        go_ret
        exact ⟨by first | rfl | (simp [errW_none, errW_some] <;> rfl) | (simp [*, errW_none, errW_some] <;> rfl), by exact kB HB.out⟩
       ·replace c51 := Bool.eq_false_iff.mpr c51
        subst c51
        have H1 : (some 0) = some r := by rw [if_neg (show ¬ (false = true) by decide)] at H; exact H
        clear H
        have H := H1
        clear H1
        obtain rfl := Option.some.inj H
        have hcz53_0 : wr.cell? ⟨gb120, 0, none⟩ = some (.int .i64 a0_0) := (blk_cell BK120.out 0).trans rfl
        have hcz53_1 : wr.cell? ⟨gb120, 1, none⟩ = some (.slice A0_1 l0_1.length c0_1) := (blk_cell BK120.out 1).trans rfl
        have hfz53_0 := blk_frozen BK120.out 0
        have hfz53_1 := blk_frozen BK120.out 1
        go_wp2
        repeat (go_quiet (fail); try go_wp2)
        go_ret
        exact ⟨by first | rfl | (simp [errW_none, errW_some] <;> rfl) | (simp [*, errW_none, errW_some] <;> rfl), by exact kB HB.out⟩

end Go.Proofs.Ytdmihkffjbapjaa.P
