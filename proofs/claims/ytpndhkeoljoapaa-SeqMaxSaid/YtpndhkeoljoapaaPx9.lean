/- What these Go functions compute, as Lean functions, and that they do. No condition. -/
import Derived.Test.YtpndhkeoljoapaaPx0
import Derived.Test.YtpndhkeoljoapaaPx2
import Derived.Test.YtpndhkeoljoapaaPx3
import Derived.Test.YtpndhkeoljoapaaPx8
namespace Go.Proofs.Ytpndhkeoljoapaa.P
open Go.RowKit Go.Proofs.YtpndhkeoljoapaaW.PrintWords Go.Proofs.YtpndhkeoljoapaaW.PrintLast Go.Proofs.YtpndhkeoljoapaaW.PrintMore
attribute [local go_sem] max2_int min2_int max_two min_two max_three min_three max_four min_four   -- for this text's walks alone
set_option linter.unusedVariables false
set_option linter.unusedSimpArgs false
set_option linter.unnecessarySimpa false
theorem iteS9 {α : Type} {c : Prop} [Decidable c] {a : Option α} {r : α} (h : (if c then a else none) = some r) : c ∧ a = some r := by
 by_cases hc : c
 ·rw [if_pos hc] at h; exact ⟨hc, h⟩
 ·rw [if_neg hc] at h; cases h

/-! ### seq_Values: function 18 -/
def seq_Values.l0 : Nat → List Int → List (S50) → Int → Int → Option (List Int)
 | 0, _, _, _, _ => none
 | k + 1, x3, x9, x10, x11 => if x11 < x10 then (if 0 ≤ x11 then (if x11 < (x9.length : Int) then (if x11 < (x3.length : Int) then (seq_Values.l0 k (x3.set (x11 : Int).toNat ((rd_T50 x9 x11).f1)) x9 x10 (wrap64 (x11 + 1))) else (none)) else (none)) else (none)) else (some x3)
def seq_Values.f (k : Nat) (l0 : List (S50)) : Option (List Int) := if 0 ≤ (l0.length : Int) then (if ((l0.length : Int) : Int).toNat ≤ 35184372088832 then (seq_Values.l0 k (List.replicate ((l0.length : Int) : Int).toNat 0) l0 (l0.length : Int) 0) else (none)) else (none)
theorem seq_Values.mono_l : ∀ k, (∀ y0 y1 y2 y3, LeO (seq_Values.l0 k y0 y1 y2 y3) (seq_Values.l0 (k + 1) y0 y1 y2 y3))
 | 0 => fun _ _ _ _ r h => by simp [seq_Values.l0] at h
 | k + 1 => by
  have ih0 := seq_Values.mono_l k
  ·intro y0 y1 y2 y3
   unfold seq_Values.l0
   repeat' first
   | (with_reducible exact ih0 _ _ _ _)
   | (with_reducible exact LeO.refl _)
   | (with_reducible exact LeO.none _)
   | (with_reducible refine LeO.ite ?_ ?_)
   | (with_reducible refine LeO.bind ?_ (fun _ => ?_))
   | exact ih0 _ _ _ _
   | exact LeO.none _
   | refine LeO.ite ?_ ?_
   | refine LeO.bind ?_ (fun _ => ?_)
theorem seq_Values.mono : ∀ a0 k, LeO (seq_Values.f k a0) (seq_Values.f (k + 1) a0) := by
 intro a0 k
 have ih0 := seq_Values.mono_l k
 unfold seq_Values.f
 repeat' first
   | (with_reducible exact ih0 _ _ _ _)
   | (with_reducible exact LeO.refl _)
   | (with_reducible exact LeO.none _)
   | (with_reducible refine LeO.ite ?_ ?_)
   | (with_reducible refine LeO.bind ?_ (fun _ => ?_))
   | exact ih0 _ _ _ _
   | exact LeO.none _
   | refine LeO.ite ?_ ?_
   | refine LeO.bind ?_ (fun _ => ?_)
set_option maxHeartbeats 8000000 in
set_option maxRecDepth 100000 in
theorem seq_Values.calls (k : Nat) (A0 : Option Addr) (c0 : Nat) (l0 : List (S50)) (r : List Int) (w : World) (hr0 : Kd.C k50 w A0 l0.length l0) (hc0 : l0.length ≤ c0) (h : seq_Values.f k l0 = some r) :
  Calls Try.prog 18 #[.slice A0 l0.length c0] w fun e w' => ∃ v0_ : Value, e = .returned (v0_) ∧ Kd.R (Kd.int .i64) 2 w' w.heap.size (fun _ => True) v0_ r ∧ Below w.heap.size w w' := by
 have hu50 := Try.underlying50
 have HR0 := Aside0.mk hr0
 have HC0 := Aside0.mk hc0
 clear hr0 hc0
 have HB := Aside0.mk (Below.refl w.heap.size w)
 have H : (if 0 ≤ (l0.length : Int) then (if ((l0.length : Int) : Int).toNat ≤ 35184372088832 then (seq_Values.l0 k (List.replicate ((l0.length : Int) : Int).toNat 0) l0 (l0.length : Int) 0) else (none)) else (none)) = some r := h
 clear h
 obtain ⟨c2, H⟩ := iteS9 H
 have c2b0 := eq_true c2
 have c2b1 := decide_eq_true c2
 clear c2
 obtain ⟨c3, H⟩ := iteS9 H
 have c3b0 := eq_true c3
 have c3b1 : decide (((l0.length : Int) : Int).toNat ≤ 35184372088832) = true := decide_eq_true c3
 clear c3
 obtain ⟨y135, hy135⟩ : ∃ y_ : List Int, y_ = (List.replicate ((l0.length : Int) : Int).toNat 0) := ⟨_, rfl⟩
 replace H : (seq_Values.l0 k y135 l0 (l0.length : Int) 0) = some r := by first | (rw [hy135]; with_reducible exact H) | (have H2_ := (Option.bind_some _ _).symm.trans H; rw [hy135]; with_reducible exact H2_) | (have H2_ := (Option.bind_some _ _).symm.trans H; with_reducible exact H2_) | with_reducible exact H | (rw [hy135]; exact H) | exact H
 have Ny135 := Aside0.mk hy135
 clear hy135
 have H' := Aside0.mk H
 clear H
 go_enter Try.func18, Try.ntmps18
 go_wp2_with (first | ((with_reducible refine gate_dst (N := 8) rfl ?_); refine Kd.R_make (Kd.int .i64) _ 2 rfl (N := 8) rfl 33 _ _ rfl (l0.length : Int) rfl rfl Try.underlying33 (.int .i64 0) 8 info2 rfl (by decide) (by omega) 0 (ok := fun _ => True) (okp := fun _ => True) rfl (fun _ hk => hk) trivial (of_decide_eq_true (by first | (with_reducible assumption) | assumption)) (Nat.le_trans (Nat.mul_le_mul_right _ (of_decide_eq_true (by first | (with_reducible assumption) | assumption) : (l0.length : Int).toNat ≤ 35184372088832)) (by omega)) (Below.refl _ _) (Nat.le_refl _) ?_; intro v136 w4 ho5 hb hg_ hnew_; clear hg_ hnew_; (first | rw [← Ny135.out] at ho5 | (simp only [Int.reduceToNat] at ho5; rw [← Ny135.out] at ho5)); have n0_ := Aside0.mk (Kd.R_lower ho5 (below_size (kB HB.out))); have n1_ := Aside0.mk (below_step (kB HB.out) hb); clear HB; have HO137 := n0_; have HB := n1_; clear n0_ n1_; clear hb ho5))
 go_loopg [11] k (fun kq v11 w' => ∃ (x3_1 : List Int) (x11_1 : Int), v11 = .int .i64 x11_1 ∧ Aside0 (seq_Values.l0 kq x3_1 l0 (l0.length : Int) x11_1 = some r) ∧ Aside0 (kq ≤ k) ∧ Aside0 (Kd.R (Kd.int .i64) 2 w' w.heap.size (fun _ => True) v136 x3_1) ∧ Aside0 (Below w.heap.size w w'))
 case atStart => exact ⟨(y135), (0), (by first | rfl | (simp; done) | (simp [*]; done)), H', ⟨Nat.le_refl _⟩, ⟨kR HO137.out⟩, ⟨kB HB.out⟩⟩
 case round =>
  clear H'
  try clear c1
  try clear c2
  try clear c2b0
  try clear c2b1
  try clear p2
  try clear c3
  try clear c3b0
  try clear c3b1
  obtain ⟨x3_1, x11_1, rfl, HA, HK1, HO_3, HB⟩ := hrel
  cases gk with
  | zero => exact absurd HA.out (by simp [seq_Values.l0])
  | succ k1 =>
   have H := HA.out
   clear HA
   simp only [seq_Values.l0] at H
   by_cases c6 : x11_1 < (l0.length : Int)
   ·rw [if_pos c6] at H
    have c6b0 : decide (x11_1 < (l0.length : Int)) = true := decide_eq_true c6
    clear c6
    obtain ⟨c7, H⟩ := iteS9 H
    have c7b0 : decide (0 ≤ x11_1) = true := decide_eq_true c7
    clear c7
    obtain ⟨c8, H⟩ := iteS9 H
    have c8b0 : decide (x11_1 < (l0.length : Int)) = true := decide_eq_true c8
    clear c8
    obtain ⟨c9, H⟩ := iteS9 H
    have c9b0 : decide (x11_1 < (x3_1.length : Int)) = true := decide_eq_true c9
    clear c9
    obtain ⟨y140, hy140⟩ : ∃ y_ : List Int, y_ = (x3_1.set (x11_1 : Int).toNat ((rd_T50 l0 x11_1).f1)) := ⟨_, rfl⟩
    replace H : (seq_Values.l0 k1 y140 l0 (l0.length : Int) (wrap64 (x11_1 + 1))) = some r := by first | (rw [hy140]; with_reducible exact H) | (have H2_ := (Option.bind_some _ _).symm.trans H; rw [hy140]; with_reducible exact H2_) | (have H2_ := (Option.bind_some _ _).symm.trans H; with_reducible exact H2_) | with_reducible exact H | (rw [hy140]; exact H) | exact H
    have Ny140 := Aside0.mk hy140
    clear hy140
    have H' := Aside0.mk H
    clear H
    have p138 : 0 ≤ (x11_1 : Int) := of_decide_eq_true (by first | (with_reducible assumption) | assumption)
    have q138 : x11_1 < (l0.length : Int) := of_decide_eq_true (by first | (with_reducible assumption) | assumption)
    obtain ⟨ad138, e138, hx138_0, hx138_1, hx138_2, hx138_3, hx138_4⟩ := at_T50 HR0.out x11_1 p138 q138
    cases e138
    replace hx138_0 := (HB.out.cell (World.block_lt_of_cell? w _ hx138_0)).trans hx138_0
    replace hx138_1 := (HB.out.cell (World.block_lt_of_cell? w _ hx138_1)).trans hx138_1
    replace hx138_2 := (HB.out.cell (World.block_lt_of_cell? w _ hx138_2)).trans hx138_2
    replace hx138_3 := (HB.out.cell (World.block_lt_of_cell? w _ hx138_3)).trans hx138_3
    replace hx138_4 := (HB.out.cell (World.block_lt_of_cell? w _ hx138_4)).trans hx138_4
    replace p138 := eq_true p138
    replace q138 := eq_true q138
    go_wp2_with (first | ((with_reducible refine gate_dst (N := 5) rfl ?_); refine box_event ?hg (N := 5) ?hd (cs := #[.int .i64 0, .int .i64 0, .bool false, .bool false, .int .i64 0]) (t := 50) ?hr ?_; (case hd => rfl); (case hg => rfl); (case hr => first | (go_simp; done) | (go_simp; rfl)); intro gb139 hg w11 hbox hb; have n0_ := Aside0.mk (Kd.R_below (kR HO_3.out) hb); have n1_ := Aside0.mk (below_step (kB HB.out) hb); have n2_ := Aside0.mk (hbox); have n3_ := Aside0.mk ((by rw [hg]; exact (below_size (kB HB.out)) : w.heap.size ≤ gb139)); have n4_ := Aside0.mk ((by rw [hg]; exact (below_size (kB HB.out)) : w.heap.size ≤ gb139)); clear HO_3; clear HB; have HO_3 := n0_; have HB := n1_; have BK139 := n2_; have GW139 := n3_; have GE139 := n4_; clear n0_ n1_ n2_ n3_ n4_; clear hb hbox hg; have hcz12_0 : w11.cell? ⟨gb139, 0, none⟩ = some (.int .i64 0) := (blk_cell BK139.out 0).trans rfl; have hcz12_1 : w11.cell? ⟨gb139, 1, none⟩ = some (.int .i64 0) := (blk_cell BK139.out 1).trans rfl; have hcz12_2 : w11.cell? ⟨gb139, 2, none⟩ = some (.bool false) := (blk_cell BK139.out 2).trans rfl; have hcz12_3 : w11.cell? ⟨gb139, 3, none⟩ = some (.bool false) := (blk_cell BK139.out 3).trans rfl; have hcz12_4 : w11.cell? ⟨gb139, 4, none⟩ = some (.int .i64 0) := (blk_cell BK139.out 4).trans rfl; have hfz12_0 := blk_frozen BK139.out 0; have hfz12_1 := blk_frozen BK139.out 1; have hfz12_2 := blk_frozen BK139.out 2; have hfz12_3 := blk_frozen BK139.out 3; have hfz12_4 := blk_frozen BK139.out 4) | ((with_reducible refine gate_store (t := 50) (p := 5) rfl ?_); refine store_event (t := 50) (p := 5) (v := ?vo_w13) (w1 := (((((w11.setCell ⟨gb139, 0, none⟩ (.int .i64 ((rd_T50 l0 x11_1).f0))).setCell ⟨gb139, 1, none⟩ (.int .i64 ((rd_T50 l0 x11_1).f1))).setCell ⟨gb139, 2, none⟩ (.bool ((rd_T50 l0 x11_1).f2))).setCell ⟨gb139, 3, none⟩ (.bool ((rd_T50 l0 x11_1).f3))).setCell ⟨gb139, 4, none⟩ (.int .i64 ((rd_T50 l0 x11_1).f4)))) ?hg ?ho ?hn ?hr ?_; (case ho => rfl); (case hg => rfl); (case hn => rfl); (case hr => first | (go_simp; done) | (go_simp; rfl)); intro w13 hw; have n0_ : Aside0 (Kd.R (Kd.int .i64) 2 w13 w.heap.size (fun _ => True) v136 x3_1) := ⟨(by rw [hw]; exact (by (with_reducible repeat (first | apply Kd.R_alloc | apply Kd.R_drewN | apply Kd.R_drew)); exact Kd.R_mono (Kd.R_far (p := ⟨gb139, 4, none⟩) (Kd.R_far (p := ⟨gb139, 3, none⟩) (Kd.R_far (p := ⟨gb139, 2, none⟩) (Kd.R_far (p := ⟨gb139, 1, none⟩) (Kd.R_far (p := ⟨gb139, 0, none⟩) (Kd.R_types HO_3.out BK139.out (by decide)) (fun _ hk => hk.2) (.int .i64 ((rd_T50 l0 x11_1).f0))) (fun _ hk => hk.2) (.int .i64 ((rd_T50 l0 x11_1).f1))) (fun _ hk => hk.2) (.bool ((rd_T50 l0 x11_1).f2))) (fun _ hk => hk.2) (.bool ((rd_T50 l0 x11_1).f3))) (fun _ hk => hk.2) (.int .i64 ((rd_T50 l0 x11_1).f4))) (fun _ hk => trivial)))⟩; have n1_ : Aside0 (w13.heap[gb139]? = some (.cells #[.int .i64 ((rd_T50 l0 x11_1).f0), .int .i64 ((rd_T50 l0 x11_1).f1), .bool ((rd_T50 l0 x11_1).f2), .bool ((rd_T50 l0 x11_1).f3), .int .i64 ((rd_T50 l0 x11_1).f4)] 50 (0, 0))) := ⟨(by rw [hw]; exact (by (with_reducible repeat (first | refine blk_drewN ?_ _ | refine blk_drew ?_ | refine blk_alloc ?_ _)); refine blk_put (cs := #[.int .i64 ((rd_T50 l0 x11_1).f0), .int .i64 ((rd_T50 l0 x11_1).f1), .bool ((rd_T50 l0 x11_1).f2), .bool ((rd_T50 l0 x11_1).f3), .int .i64 0]) ?_ 4 _ rfl; refine blk_put (cs := #[.int .i64 ((rd_T50 l0 x11_1).f0), .int .i64 ((rd_T50 l0 x11_1).f1), .bool ((rd_T50 l0 x11_1).f2), .bool false, .int .i64 0]) ?_ 3 _ rfl; refine blk_put (cs := #[.int .i64 ((rd_T50 l0 x11_1).f0), .int .i64 ((rd_T50 l0 x11_1).f1), .bool false, .bool false, .int .i64 0]) ?_ 2 _ rfl; refine blk_put (cs := #[.int .i64 ((rd_T50 l0 x11_1).f0), .int .i64 0, .bool false, .bool false, .int .i64 0]) ?_ 1 _ rfl; refine blk_put (cs := #[.int .i64 0, .int .i64 0, .bool false, .bool false, .int .i64 0]) ?_ 0 _ rfl; exact kA BK139.out))⟩; have n2_ : Aside0 (Below w.heap.size w w13) := ⟨(by rw [hw]; exact (kB HB.out))⟩; clear hw; clear HO_3; clear BK139; clear HB; have HO_3 := n0_; have BK139 := n1_; have HB := n2_; clear n0_ n1_ n2_; have hcz14_0 : w13.cell? ⟨gb139, 0, none⟩ = some (.int .i64 ((rd_T50 l0 x11_1).f0)) := (blk_cell BK139.out 0).trans rfl; have hcz14_1 : w13.cell? ⟨gb139, 1, none⟩ = some (.int .i64 ((rd_T50 l0 x11_1).f1)) := (blk_cell BK139.out 1).trans rfl; have hcz14_2 : w13.cell? ⟨gb139, 2, none⟩ = some (.bool ((rd_T50 l0 x11_1).f2)) := (blk_cell BK139.out 2).trans rfl; have hcz14_3 : w13.cell? ⟨gb139, 3, none⟩ = some (.bool ((rd_T50 l0 x11_1).f3)) := (blk_cell BK139.out 3).trans rfl; have hcz14_4 : w13.cell? ⟨gb139, 4, none⟩ = some (.int .i64 ((rd_T50 l0 x11_1).f4)) := (blk_cell BK139.out 4).trans rfl; have hfz14_0 := blk_frozen BK139.out 0; have hfz14_1 := blk_frozen BK139.out 1; have hfz14_2 := blk_frozen BK139.out 2; have hfz14_3 := blk_frozen BK139.out 3; have hfz14_4 := blk_frozen BK139.out 4; have p10 : 0 ≤ (x11_1 : Int) := of_decide_eq_true (by first | (with_reducible assumption) | assumption); have q10 : (x11_1 : Int) < ((x3_1.length : Int) : Int) := of_decide_eq_true (by first | (with_reducible assumption) | assumption); obtain ⟨go10, co10, eo10, gb10, gl10, cl10, HG10⟩ := Kd.R_form HO_3.out (by omega); (first | cases eo10 | (injection eo10 with ea_ en_ ec_; (first | subst ea_ | (injection ea_ with ea_; subst ea_)); subst ec_; clear en_)); have GB10 := Aside0.mk gb10; have GG10 := Aside0.mk HG10; clear gb10 gl10 HG10; obtain ⟨hx10_0, hf10_0⟩ := Kd.R_celln 0 HO_3.out (x11_1 : Int) p10 q10; replace p10 := eq_true p10; replace q10 := eq_true q10; obtain ⟨hy15_, hz15_⟩ := Kd.R_celln 0 HO_3.out (x11_1 : Int) (of_decide_eq_true (by first | (with_reducible assumption) | assumption)) (of_decide_eq_true (by first | (with_reducible assumption) | assumption)); have HP15 := Kd.R_putg HO_3.out (x11_1 : Int) ((rd_T50 l0 x11_1).f1)) | ((with_reducible refine gate_store (t := 2) (p := 20) rfl ?_); refine store_event (t := 2) (p := 20) (v := ?vo_w16) (w1 := (w13.setCell ⟨go10, (x11_1 : Int).toNat, none⟩ (.int .i64 ((rd_T50 l0 x11_1).f1)))) ?hg ?ho ?hn ?hr ?_; (case ho => rfl); (case hg => rfl); (case hn => rfl); (case hr => first | (go_simp; done) | (go_simp; rfl)); intro w16 hw; have hg : w13.grownBy w16 (some go10) := (by rw [hw]; exact HP15.2); have hp_ : Kd.R (Kd.int .i64) 2 w16 w.heap.size (fun _ => True) (.slice (some ⟨go10, 0, none⟩) x3_1.length co10) y140 := (by rw [hw, Ny140.out]; exact HP15.1); clear HP15; have n0_ := Aside0.mk (hp_); have n1_ := Aside0.mk (blk_grown (g := gb139) (o := .cells #[.int .i64 ((rd_T50 l0 x11_1).f0), .int .i64 ((rd_T50 l0 x11_1).f1), .bool ((rd_T50 l0 x11_1).f2), .bool ((rd_T50 l0 x11_1).f3), .int .i64 ((rd_T50 l0 x11_1).f4)] 50 (0, 0)) (kA BK139.out) hg (Kd.R_ne HO_3.out BK139.out (by decide))); have n2_ := Aside0.mk ((by rw [hw]; exact below_set (HB.out) GB10.out : Below w.heap.size w w16)); clear HO_3; clear BK139; clear HB; have HO_3 := n0_; have BK139 := n1_; have HB := n2_; clear n0_ n1_ n2_; clear hg hw hp_))
    go_roundg k1
    case measure => have := HK1.out; omega
    case rel => exact ⟨(y140), (wrap64 (x11_1 + 1)), (by first | rfl | (simp; done) | (simp [*]; done)), H', ⟨by have := HK1.out; omega⟩, ⟨kR HO_3.out⟩, ⟨kB HB.out⟩⟩
   ·rw [if_neg c6] at H
    have c6b0 : decide (x11_1 < (l0.length : Int)) = false := decide_eq_false c6
    clear c6
    obtain rfl := Option.some.inj H
    go_wp2
    go_ret
    exact ⟨_, by first | rfl | (simp [errW_none, errW_some] <;> rfl) | (simp [*, errW_none, errW_some] <;> rfl), by exact kR HO_3.out, by exact kB HB.out⟩

/-! ### seq_Run: function 14 -/
mutual
def seq_Run.l0 : Nat → List (S50) → Int → Int → List (S45) → ByteArray → Int → Int → Option (List Int × Int × Int)
 | 0, _, _, _, _, _, _, _ => none
 | k + 1, x7, x9, x142000, x142001, x143000, x143001, x143002 => if x9 < x143002 then ((seq_Quiet.f x7).bind fun t147 => (seq_Run.j1 k x7 x9 (!t147) x142000 x142001 x143000 x143001 x143002)) else (seq_Run.j1 k x7 x9 false x142000 x142001 x143000 x143001 x143002)
def seq_Run.j1 : Nat → List (S50) → Int → Bool → Int → List (S45) → ByteArray → Int → Int → Option (List Int × Int × Int)
 | 0, _, _, _, _, _, _, _, _ => none
 | k + 1, x7, x9, x27, x142000, x142001, x143000, x143001, x143002 => if x27 = true then ((seq_Next.f x142000 x142001 x143000 x143001 x143002 x9 x7).bind fun bt148 => (if bt148.2.2 = 0 then (seq_Run.l0 k bt148.1 (wrap64 (x9 + 1)) x142000 x142001 x143000 x143001 x143002) else (some (([] : List Int), x9, bt148.2.2)))) else ((seq_Values.f k x7).bind fun t155 => (some (t155, x9, 0)))
end
def seq_Run.f (k : Nat) (a0_0 : Int) (l0_1 : List (S45)) (a1_0 : ByteArray) (a1_1 : Int) (a1_2 : Int) : Option (List Int × Int × Int) := (seq_Start.f k a0_0 l0_1 a1_0 a1_1 a1_2).bind fun bt143 => (if bt143.2 = 0 then (seq_Run.l0 k bt143.1 0 a0_0 l0_1 a1_0 a1_1 a1_2) else (some (([] : List Int), 0, bt143.2)))
theorem seq_Run.mono_l : ∀ k, (∀ y0 y1 y2 y3 y4 y5 y6, LeO (seq_Run.l0 k y0 y1 y2 y3 y4 y5 y6) (seq_Run.l0 (k + 1) y0 y1 y2 y3 y4 y5 y6)) ∧ (∀ y0 y1 y2 y3 y4 y5 y6 y7, LeO (seq_Run.j1 k y0 y1 y2 y3 y4 y5 y6 y7) (seq_Run.j1 (k + 1) y0 y1 y2 y3 y4 y5 y6 y7))
 | 0 => ⟨fun _ _ _ _ _ _ _ r h => by simp [seq_Run.l0] at h, fun _ _ _ _ _ _ _ _ r h => by simp [seq_Run.j1] at h⟩
 | k + 1 => by
  obtain ⟨ih0, ih1⟩ := seq_Run.mono_l k
  refine ⟨?_, ?_⟩
  ·intro y0 y1 y2 y3 y4 y5 y6
   unfold seq_Run.l0
   repeat' first
   | (with_reducible exact ih0 _ _ _ _ _ _ _)
   | (with_reducible exact ih1 _ _ _ _ _ _ _ _)
   | (with_reducible exact seq_Start.mono _ _ _ _ _ _)
   | (with_reducible exact seq_Values.mono _ _)
   | (with_reducible exact LeO.refl _)
   | (with_reducible exact LeO.none _)
   | (with_reducible refine LeO.ite ?_ ?_)
   | (with_reducible refine LeO.bind ?_ (fun _ => ?_))
   | exact ih0 _ _ _ _ _ _ _
   | exact ih1 _ _ _ _ _ _ _ _
   | exact seq_Start.mono _ _ _ _ _ _
   | exact seq_Values.mono _ _
   | exact LeO.none _
   | refine LeO.ite ?_ ?_
   | refine LeO.bind ?_ (fun _ => ?_)
  ·intro y0 y1 y2 y3 y4 y5 y6 y7
   unfold seq_Run.j1
   repeat' first
   | (with_reducible exact ih0 _ _ _ _ _ _ _)
   | (with_reducible exact ih1 _ _ _ _ _ _ _ _)
   | (with_reducible exact seq_Start.mono _ _ _ _ _ _)
   | (with_reducible exact seq_Values.mono _ _)
   | (with_reducible exact LeO.refl _)
   | (with_reducible exact LeO.none _)
   | (with_reducible refine LeO.ite ?_ ?_)
   | (with_reducible refine LeO.bind ?_ (fun _ => ?_))
   | exact ih0 _ _ _ _ _ _ _
   | exact ih1 _ _ _ _ _ _ _ _
   | exact seq_Start.mono _ _ _ _ _ _
   | exact seq_Values.mono _ _
   | exact LeO.none _
   | refine LeO.ite ?_ ?_
   | refine LeO.bind ?_ (fun _ => ?_)
theorem seq_Run.mono : ∀ a0 a1 a2 a3 a4 k, LeO (seq_Run.f k a0 a1 a2 a3 a4) (seq_Run.f (k + 1) a0 a1 a2 a3 a4) := by
 intro a0 a1 a2 a3 a4 k
 obtain ⟨ih0, ih1⟩ := seq_Run.mono_l k
 unfold seq_Run.f
 repeat' first
   | (with_reducible exact ih0 _ _ _ _ _ _ _)
   | (with_reducible exact ih1 _ _ _ _ _ _ _ _)
   | (with_reducible exact seq_Start.mono _ _ _ _ _ _)
   | (with_reducible exact seq_Values.mono _ _)
   | (with_reducible exact LeO.refl _)
   | (with_reducible exact LeO.none _)
   | (with_reducible refine LeO.ite ?_ ?_)
   | (with_reducible refine LeO.bind ?_ (fun _ => ?_))
   | exact ih0 _ _ _ _ _ _ _
   | exact ih1 _ _ _ _ _ _ _ _
   | exact seq_Start.mono _ _ _ _ _ _
   | exact seq_Values.mono _ _
   | exact LeO.none _
   | refine LeO.ite ?_ ?_
   | refine LeO.bind ?_ (fun _ => ?_)
set_option maxHeartbeats 8000000 in
set_option maxRecDepth 100000 in
theorem seq_Run.calls (k : Nat) (a0_0 : Int) (A0_1 : Option Addr) (c0_1 : Nat) (l0_1 : List (S45)) (a1_0 : ByteArray) (a1_1 : Int) (a1_2 : Int) (r1 : List Int) (r2 : Int) (r3 : Int) (w : World) (hr0_1 : Kd.C k45 w A0_1 l0_1.length l0_1) (hc0_1 : l0_1.length ≤ c0_1) (h : seq_Run.f k a0_0 l0_1 a1_0 a1_1 a1_2 = some (r1, r2, r3)) :
  Calls Try.prog 14 #[.agg #[.int .i64 a0_0, .slice A0_1 l0_1.length c0_1], .agg #[.string a1_0, .int .i64 a1_1, .int .i64 a1_2]] w fun e w' => ∃ v0_ : Value, e = .returned (.tuple #[v0_, .int .i64 r2, .int .i64 r3]) ∧ Kd.R (Kd.int .i64) 2 w' w.heap.size (fun _ => True) v0_ r1 ∧ Below w.heap.size w w' := by
 have hu24 := Try.underlying24
 have hu26 := Try.underlying26
 have HR0_1 := Aside0.mk hr0_1
 have HC0_1 := Aside0.mk hc0_1
 clear hr0_1 hc0_1
 have HB := Aside0.mk (Below.refl w.heap.size w)
 have H : ((seq_Start.f k a0_0 l0_1 a1_0 a1_1 a1_2).bind fun bt143 => (if bt143.2 = 0 then (seq_Run.l0 k bt143.1 0 a0_0 l0_1 a1_0 a1_1 a1_2) else (some (([] : List Int), 0, bt143.2)))) = some (r1, r2, r3) := h
 clear h
 replace H := Option.bind_eq_some_iff.mp H
 obtain ⟨⟨t143, t146⟩, A30, H⟩ := H
 replace H : (if t146 = 0 then (seq_Run.l0 k t143 0 a0_0 l0_1 a1_0 a1_1 a1_2) else (some (([] : List Int), 0, t146))) = some (r1, r2, r3) := H
 have A3 := Aside0.mk A30
 clear A30
 by_cases c4 : t146 = 0
 ·rw [if_pos c4] at H
  have c4b0 : (t146 == 0) = true := beq_iff_eq.mpr c4
  have c4b1 : (t146 != 0) = false := bne_eq_false_iff_eq.mpr c4
  clear c4
  have H' := Aside0.mk H
  clear H
  go_enter Try.func14, Try.ntmps14
  go_wp2_with (first | ((with_reducible refine gate_dst (N := 2) rfl ?_); refine box_event ?hg (N := 2) ?hd (cs := #[.int .i64 a0_0, .slice A0_1 l0_1.length c0_1]) (t := 24) ?hr ?_; (case hd => rfl); (case hg => rfl); (case hr => first | (go_simp; done) | (go_simp; rfl)); intro gb141 hg w5 hbox hb; have n0_ := Aside0.mk (below_step (kB HB.out) hb); have n1_ := Aside0.mk (hbox); have n2_ := Aside0.mk ((by rw [hg]; exact (below_size (kB HB.out)) : w.heap.size ≤ gb141)); have n3_ := Aside0.mk ((by rw [hg]; exact (below_size (kB HB.out)) : w.heap.size ≤ gb141)); clear HB; have HB := n0_; have BK141 := n1_; have GW141 := n2_; have GE141 := n3_; clear n0_ n1_ n2_ n3_; clear hb hbox hg) | ((with_reducible refine gate_dst (N := 3) rfl ?_); refine box_event ?hg (N := 3) ?hd (cs := #[.string a1_0, .int .i64 a1_1, .int .i64 a1_2]) (t := 26) ?hr ?_; (case hd => rfl); (case hg => rfl); (case hr => first | (go_simp; done) | (go_simp; rfl)); intro gb142 hg w6 hbox hb; have n0_ := Aside0.mk (blk_below (g := gb141) (o := .cells #[.int .i64 a0_0, .slice A0_1 l0_1.length c0_1] 24 (0, 0)) (kA BK141.out) hb); have n1_ := Aside0.mk (below_step (kB HB.out) hb); have n2_ := Aside0.mk (hbox); have n3_ := Aside0.mk ((by rw [hg]; exact (below_size (kB HB.out)) : w.heap.size ≤ gb142)); have n4_ := Aside0.mk ((by rw [hg]; exact (below_size (kB HB.out)) : w.heap.size ≤ gb142)); have n5_ := Aside0.mk ((by rw [hg]; exact Nat.ne_of_lt (blk_lt (g := gb141) (o := .cells #[.int .i64 a0_0, .slice A0_1 l0_1.length c0_1] 24 (0, 0)) (kA BK141.out)) : gb141 ≠ gb142)); have n6_ := Aside0.mk ((by rw [hg]; exact Nat.ne_of_gt (blk_lt (g := gb141) (o := .cells #[.int .i64 a0_0, .slice A0_1 l0_1.length c0_1] 24 (0, 0)) (kA BK141.out)) : gb142 ≠ gb141)); clear BK141; clear HB; have BK141 := n0_; have HB := n1_; have BK142 := n2_; have GW142 := n3_; have GE142 := n4_; have NB141_142 := n5_; have NB142_141 := n6_; clear n0_ n1_ n2_ n3_ n4_ n5_ n6_; clear hb hbox hg; have hnb7 := NB141_142.out; have hnc7 := NB142_141.out; have hcz8_0 : w6.cell? ⟨gb141, 0, none⟩ = some (.int .i64 a0_0) := (blk_cell BK141.out 0).trans rfl; have hcz8_1 : w6.cell? ⟨gb141, 1, none⟩ = some (.slice A0_1 l0_1.length c0_1) := (blk_cell BK141.out 1).trans rfl; have hfz8_0 := blk_frozen BK141.out 0; have hfz8_1 := blk_frozen BK141.out 1; have hcz9_0 : w6.cell? ⟨gb142, 0, none⟩ = some (.string a1_0) := (blk_cell BK142.out 0).trans rfl; have hcz9_1 : w6.cell? ⟨gb142, 1, none⟩ = some (.int .i64 a1_1) := (blk_cell BK142.out 1).trans rfl; have hcz9_2 : w6.cell? ⟨gb142, 2, none⟩ = some (.int .i64 a1_2) := (blk_cell BK142.out 2).trans rfl; have hfz9_0 := blk_frozen BK142.out 0; have hfz9_1 := blk_frozen BK142.out 1; have hfz9_2 := blk_frozen BK142.out 2) | ((with_reducible refine gate_callee (f := 12) rfl ?_); refine goesL_ (some 13) rfl rfl Try.func12 (by kernel_rfl) rfl #[.agg #[.int .i64 a0_0, .slice A0_1 l0_1.length c0_1], .agg #[.string a1_0, .int .i64 a1_1, .int .i64 a1_2]] rfl (by (try simp only [List.map_toArray, List.map_cons, List.map_nil]); first | done | rfl | (simp only [List.length_drop, List.length_take]; rfl)) ?_; (with_reducible refine (seq_Start.calls k a0_0 _ _ l0_1 a1_0 a1_1 a1_2 t143 t146 _ ?side1 ?side2 A3.out).mono ?_); (case side1 => repeat (first | exact (Kd.C_below HR0_1.out HB.out) | (with_reducible refine Kd.C_alloc ?_ _) | (with_reducible refine Kd.C_drewN ?_ _) | (with_reducible refine Kd.C_drew ?_))); (case side2 => exact HC0_1.out); rintro e w10 ⟨v144, rfl, ho0, hb⟩; refine ⟨_, rfl, ?_⟩; have n0_ := Aside0.mk (Kd.R_lower ho0 (below_size (kB HB.out))); have n1_ := Aside0.mk (blk_below (g := gb141) (o := .cells #[.int .i64 a0_0, .slice A0_1 l0_1.length c0_1] 24 (0, 0)) (kA BK141.out) hb); have n2_ := Aside0.mk (blk_below (g := gb142) (o := .cells #[.string a1_0, .int .i64 a1_1, .int .i64 a1_2] 26 (0, 0)) (kA BK142.out) hb); have n3_ := Aside0.mk (below_step (kB HB.out) hb); clear BK141; clear BK142; clear HB; have HO145 := n0_; have BK141 := n1_; have BK142 := n2_; have HB := n3_; clear n0_ n1_ n2_ n3_; (try clear hb); (try clear hb2); (try clear hk); (try clear hi); (try clear ho0)))
  go_loopg [7, 9] k (fun kq v7 v9 w' => ∃ (x7_1 : List (S50)) (x9_1 : Int), v9 = .int .i64 x9_1 ∧ Aside0 (seq_Run.l0 kq x7_1 x9_1 a0_0 l0_1 a1_0 a1_1 a1_2 = some (r1, r2, r3)) ∧ Aside0 (kq ≤ k) ∧ Aside0 (Kd.R k50 50 w' w.heap.size (fun _ => True) v7 x7_1) ∧ Aside0 (w'.heap[gb141]? = some (.cells #[.int .i64 a0_0, (.slice A0_1 l0_1.length c0_1)] 24 (0, 0))) ∧ Aside0 (w'.heap[gb142]? = some (.cells #[.string a1_0, .int .i64 a1_1, .int .i64 a1_2] 26 (0, 0))) ∧ Aside0 (Below w.heap.size w w'))
  case atStart => exact ⟨(t143), (0), (by first | rfl | (simp; done) | (simp [*]; done)), H', ⟨Nat.le_refl _⟩, ⟨kR HO145.out⟩, ⟨kA BK141.out⟩, ⟨kA BK142.out⟩, ⟨kB HB.out⟩⟩
  case round =>
   clear H'
   try clear c1
   try clear p2
   try clear c4
   try clear c4b0
   try clear c4b1
   try clear c7
   try clear hcz8_0
   try clear hcz8_1
   try clear hcz9_0
   try clear hcz9_1
   try clear hcz9_2
   try clear hfz8_0
   try clear hfz8_1
   try clear hfz9_0
   try clear hfz9_1
   try clear hfz9_2
   obtain ⟨x7_1, x9_1, rfl, HA, HK1, HO_7, BK141, BK142, HB⟩ := hrel
   cases gk with
   | zero => exact absurd HA.out (by simp [seq_Run.l0])
   | succ k1 =>
    have H := HA.out
    clear HA
    simp only [seq_Run.l0] at H
    have HC11 := Aside0.mk H
    clear H
    go_upto_region 5 with (fail)
    go_cut [27] (fun v27 wc => ∃ (kq : Nat) (x27_10 : Bool), v27 = .bool x27_10 ∧ Aside0 (seq_Run.j1 kq x7_1 x9_1 x27_10 a0_0 l0_1 a1_0 a1_1 a1_2 = some (r1, r2, r3)) ∧ Aside0 (kq ≤ k1) ∧ Aside0 (Kd.R k50 50 wc w.heap.size (fun _ => True) u7 x7_1) ∧ Aside0 (wc.heap[gb141]? = some (.cells #[.int .i64 a0_0, (.slice A0_1 l0_1.length c0_1)] 24 (0, 0))) ∧ Aside0 (wc.heap[gb142]? = some (.cells #[.string a1_0, .int .i64 a1_1, .int .i64 a1_2] 26 (0, 0))) ∧ Aside0 (Below w.heap.size w wc))
    case first =>
     have H := HC11.out
     clear HC11
     by_cases c12 : x9_1 < a1_2
     ·rw [if_pos c12] at H
      have c12b0 := decide_eq_true c12
      clear c12
      (first | rw [c12b0] | (simp only [i64_w, i32_w]; rw [c12b0]) | skip)
      replace H := Option.bind_eq_some_iff.mp H
      obtain ⟨t147, A130, H⟩ := H
      replace H : (seq_Run.j1 k1 x7_1 x9_1 (!t147) a0_0 l0_1 a1_0 a1_1 a1_2) = some (r1, r2, r3) := H
      have A13 := Aside0.mk A130
      clear A130
      have H' := Aside0.mk H
      clear H
      have hnb14 := NB142_141.out
      have hnc14 := NB141_142.out
      have hcz15_0 : wr.cell? ⟨gb142, 0, none⟩ = some (.string a1_0) := (blk_cell BK142.out 0).trans rfl
      have hcz15_1 : wr.cell? ⟨gb142, 1, none⟩ = some (.int .i64 a1_1) := (blk_cell BK142.out 1).trans rfl
      have hcz15_2 : wr.cell? ⟨gb142, 2, none⟩ = some (.int .i64 a1_2) := (blk_cell BK142.out 2).trans rfl
      have hfz15_0 := blk_frozen BK142.out 0
      have hfz15_1 := blk_frozen BK142.out 1
      have hfz15_2 := blk_frozen BK142.out 2
      obtain ⟨Ao16, co16, eo16⟩ := Kd.R_slice HO_7.out
      subst eo16
      go_wp2_with (first | (go_at_call 15; (with_reducible refine (seq_Quiet.calls _ _ x7_1 t147 _ ?side1 ?side2 A13.out).mono ?_); (case side1 => repeat (first | exact (Kd.R_reads' HO_7.out).2.2 | (with_reducible refine Kd.C_alloc ?_ _) | (with_reducible refine Kd.C_drewN ?_ _) | (with_reducible refine Kd.C_drew ?_))); (case side2 => exact (Kd.R_reads' HO_7.out).2.1); rintro e w17 ⟨rfl, hb⟩; have n0_ := Aside0.mk (Kd.R_below (kR HO_7.out) hb); have n1_ := Aside0.mk (blk_below (g := gb141) (o := .cells #[.int .i64 a0_0, .slice A0_1 l0_1.length c0_1] 24 (0, 0)) (kA BK141.out) hb); have n2_ := Aside0.mk (blk_below (g := gb142) (o := .cells #[.string a1_0, .int .i64 a1_1, .int .i64 a1_2] 26 (0, 0)) (kA BK142.out) hb); have n3_ := Aside0.mk (below_step (kB HB.out) hb); clear HO_7; clear BK141; clear BK142; clear HB; have HO_7 := n0_; have BK141 := n1_; have BK142 := n2_; have HB := n3_; clear n0_ n1_ n2_ n3_; (try clear hb); (try clear hb2); (try clear hk); (try clear hi)))
      go_meet
      case rel => exact ⟨_, (!t147), (by first | rfl | (simp; done) | (simp [*]; done)), H', ⟨by have := HK1.out; first | omega | exact Nat.le_refl _⟩, ⟨kR HO_7.out⟩, ⟨kA BK141.out⟩, ⟨kA BK142.out⟩, ⟨kB HB.out⟩⟩
     ·rw [if_neg c12] at H
      have c12b0 := decide_eq_false c12
      clear c12
      (first | rw [c12b0] | (simp only [i64_w, i32_w]; rw [c12b0]) | skip)
      have H' := Aside0.mk H
      clear H
      have hnb18 := NB142_141.out
      have hnc18 := NB141_142.out
      have hcz19_0 : wr.cell? ⟨gb142, 0, none⟩ = some (.string a1_0) := (blk_cell BK142.out 0).trans rfl
      have hcz19_1 : wr.cell? ⟨gb142, 1, none⟩ = some (.int .i64 a1_1) := (blk_cell BK142.out 1).trans rfl
      have hcz19_2 : wr.cell? ⟨gb142, 2, none⟩ = some (.int .i64 a1_2) := (blk_cell BK142.out 2).trans rfl
      have hfz19_0 := blk_frozen BK142.out 0
      have hfz19_1 := blk_frozen BK142.out 1
      have hfz19_2 := blk_frozen BK142.out 2
      go_wp2
      go_meet
      case rel => exact ⟨_, (false), (by first | rfl | (simp; done) | (simp [*]; done)), H', ⟨by have := HK1.out; first | omega | exact Nat.le_refl _⟩, ⟨kR HO_7.out⟩, ⟨kA BK141.out⟩, ⟨kA BK142.out⟩, ⟨kB HB.out⟩⟩
    case rest =>
     clear HC11
     try clear c1
     try clear p2
     try clear c4
     try clear c4b0
     try clear c4b1
     try clear c7
     try clear c12
     try clear c12b0
     try clear c14
     try clear c18
     try clear hcz15_0
     try clear hcz15_1
     try clear hcz15_2
     try clear hcz19_0
     try clear hcz19_1
     try clear hcz19_2
     try clear hcz8_0
     try clear hcz8_1
     try clear hcz9_0
     try clear hcz9_1
     try clear hcz9_2
     try clear hfz15_0
     try clear hfz15_1
     try clear hfz15_2
     try clear hfz19_0
     try clear hfz19_1
     try clear hfz19_2
     try clear hfz8_0
     try clear hfz8_1
     try clear hfz9_0
     try clear hfz9_1
     try clear hfz9_2
     try clear p2
     obtain ⟨kq, x27_10, rfl, HA, HJ10, HO_7, BK141, BK142, HB⟩ := hcut
     cases kq with
     | zero => exact absurd HA.out (by simp [seq_Run.j1])
     | succ kj10 =>
      have H := HA.out
      clear HA
      simp only [seq_Run.j1] at H
      by_cases c20 : x27_10 = true
      ·subst c20
       have H1 : ((seq_Next.f a0_0 l0_1 a1_0 a1_1 a1_2 x9_1 x7_1).bind fun bt148 => (if bt148.2.2 = 0 then (seq_Run.l0 kj10 bt148.1 (wrap64 (x9_1 + 1)) a0_0 l0_1 a1_0 a1_1 a1_2) else (some (([] : List Int), x9_1, bt148.2.2)))) = some (r1, r2, r3) := by rw [if_pos rfl] at H; exact H
       clear H
       have H := H1
       clear H1
       replace H := Option.bind_eq_some_iff.mp H
       obtain ⟨⟨t148, t151, t154⟩, A210, H⟩ := H
       replace H : (if t154 = 0 then (seq_Run.l0 kj10 t148 (wrap64 (x9_1 + 1)) a0_0 l0_1 a1_0 a1_1 a1_2) else (some (([] : List Int), x9_1, t154))) = some (r1, r2, r3) := H
       have A21 := Aside0.mk A210
       clear A210
       by_cases c22 : t154 = 0
       ·rw [if_pos c22] at H
        have c22b0 : (t154 == 0) = true := beq_iff_eq.mpr c22
        have c22b1 : (t154 != 0) = false := bne_eq_false_iff_eq.mpr c22
        clear c22
        have H' := Aside0.mk H
        clear H
        have hnb23 := NB141_142.out
        have hnc23 := NB142_141.out
        have hcz24_0 : wc.cell? ⟨gb141, 0, none⟩ = some (.int .i64 a0_0) := (blk_cell BK141.out 0).trans rfl
        have hcz24_1 : wc.cell? ⟨gb141, 1, none⟩ = some (.slice A0_1 l0_1.length c0_1) := (blk_cell BK141.out 1).trans rfl
        have hfz24_0 := blk_frozen BK141.out 0
        have hfz24_1 := blk_frozen BK141.out 1
        have hcz25_0 : wc.cell? ⟨gb142, 0, none⟩ = some (.string a1_0) := (blk_cell BK142.out 0).trans rfl
        have hcz25_1 : wc.cell? ⟨gb142, 1, none⟩ = some (.int .i64 a1_1) := (blk_cell BK142.out 1).trans rfl
        have hcz25_2 : wc.cell? ⟨gb142, 2, none⟩ = some (.int .i64 a1_2) := (blk_cell BK142.out 2).trans rfl
        have hfz25_0 := blk_frozen BK142.out 0
        have hfz25_1 := blk_frozen BK142.out 1
        have hfz25_2 := blk_frozen BK142.out 2
        obtain ⟨Ao26, co26, eo26⟩ := Kd.R_slice HO_7.out
        subst eo26
        go_wp2_with (first | ((with_reducible refine gate_callee (f := 16) rfl ?_); refine goesL_ (some 33) rfl rfl Try.func16 (by kernel_rfl) rfl #[.agg #[.int .i64 a0_0, .slice A0_1 l0_1.length c0_1], .agg #[.string a1_0, .int .i64 a1_1, .int .i64 a1_2], .int .i64 x9_1, .slice Ao26 x7_1.length co26] rfl (by (try simp only [List.map_toArray, List.map_cons, List.map_nil]); first | done | rfl | (simp only [List.length_drop, List.length_take]; rfl)) ?_; (with_reducible refine (seq_Next.calls a0_0 _ _ l0_1 a1_0 a1_1 a1_2 x9_1 _ _ x7_1 t148 t151 t154 _ ?side1 ?side2 ?side3 ?side4 A21.out).mono ?_); (case side1 => repeat (first | exact (Kd.C_below HR0_1.out HB.out) | (with_reducible refine Kd.C_alloc ?_ _) | (with_reducible refine Kd.C_drewN ?_ _) | (with_reducible refine Kd.C_drew ?_))); (case side2 => exact HC0_1.out); (case side3 => repeat (first | exact (Kd.R_reads' HO_7.out).2.2 | (with_reducible refine Kd.C_alloc ?_ _) | (with_reducible refine Kd.C_drewN ?_ _) | (with_reducible refine Kd.C_drew ?_))); (case side4 => exact (Kd.R_reads' HO_7.out).2.1); rintro e w27 ⟨v149, v152, rfl, ho0, ho1, hb⟩; refine ⟨_, rfl, ?_⟩; have n0_ := Aside0.mk (Kd.R_elder' (kR HO_7.out) (Kd.R_base ho0) hb); have n1_ := Aside0.mk (Kd.R_lower (Kd.R_new' ho0 (Kd.R_lt (kR HO_7.out))) (below_size (kB HB.out))); have n2_ := Aside0.mk (Kd.R_lower ho1 (below_size (kB HB.out))); have n3_ := Aside0.mk (blk_below (g := gb141) (o := .cells #[.int .i64 a0_0, .slice A0_1 l0_1.length c0_1] 24 (0, 0)) (kA BK141.out) hb); have n4_ := Aside0.mk (blk_below (g := gb142) (o := .cells #[.string a1_0, .int .i64 a1_1, .int .i64 a1_2] 26 (0, 0)) (kA BK142.out) hb); have n5_ := Aside0.mk (below_step (kB HB.out) hb); clear HO_7; clear BK141; clear BK142; clear HB; have HO_7 := n0_; have HO150 := n1_; have HO153 := n2_; have BK141 := n3_; have BK142 := n4_; have HB := n5_; clear n0_ n1_ n2_ n3_ n4_ n5_; (try clear hb); (try clear hb2); (try clear hk); (try clear hi); (try clear ho0); (try clear ho1)))
        go_roundg kj10
        case measure => have := HK1.out; have := HJ10.out; omega
        case rel => exact ⟨(t148), (wrap64 (x9_1 + 1)), (by first | rfl | (simp; done) | (simp [*]; done)), H', ⟨by have := HK1.out; have := HJ10.out; omega⟩, ⟨by (with_reducible repeat (first | apply Kd.R_alloc | apply Kd.R_drewN | apply Kd.R_drew)); exact Kd.R_mono HO150.out (fun _ hk => trivial)⟩, ⟨kA BK141.out⟩, ⟨kA BK142.out⟩, ⟨kB HB.out⟩⟩
       ·rw [if_neg c22] at H
        have c22b0 : (t154 == 0) = false := beq_eq_false_iff_ne.mpr c22
        have c22b1 : (t154 != 0) = true := bne_iff_ne.mpr c22
        simp only [Option.some.injEq, Prod.mk.injEq] at H
        obtain ⟨rfl, rfl, rfl⟩ := H
        have hnb28 := NB141_142.out
        have hnc28 := NB142_141.out
        have hcz29_0 : wc.cell? ⟨gb141, 0, none⟩ = some (.int .i64 a0_0) := (blk_cell BK141.out 0).trans rfl
        have hcz29_1 : wc.cell? ⟨gb141, 1, none⟩ = some (.slice A0_1 l0_1.length c0_1) := (blk_cell BK141.out 1).trans rfl
        have hfz29_0 := blk_frozen BK141.out 0
        have hfz29_1 := blk_frozen BK141.out 1
        have hcz30_0 : wc.cell? ⟨gb142, 0, none⟩ = some (.string a1_0) := (blk_cell BK142.out 0).trans rfl
        have hcz30_1 : wc.cell? ⟨gb142, 1, none⟩ = some (.int .i64 a1_1) := (blk_cell BK142.out 1).trans rfl
        have hcz30_2 : wc.cell? ⟨gb142, 2, none⟩ = some (.int .i64 a1_2) := (blk_cell BK142.out 2).trans rfl
        have hfz30_0 := blk_frozen BK142.out 0
        have hfz30_1 := blk_frozen BK142.out 1
        have hfz30_2 := blk_frozen BK142.out 2
        obtain ⟨Ao31, co31, eo31⟩ := Kd.R_slice HO_7.out
        subst eo31
        go_wp2_with (first | ((with_reducible refine gate_callee (f := 16) rfl ?_); refine goesL_ (some 33) rfl rfl Try.func16 (by kernel_rfl) rfl #[.agg #[.int .i64 a0_0, .slice A0_1 l0_1.length c0_1], .agg #[.string a1_0, .int .i64 a1_1, .int .i64 a1_2], .int .i64 x9_1, .slice Ao31 x7_1.length co31] rfl (by (try simp only [List.map_toArray, List.map_cons, List.map_nil]); first | done | rfl | (simp only [List.length_drop, List.length_take]; rfl)) ?_; (with_reducible refine (seq_Next.calls a0_0 _ _ l0_1 a1_0 a1_1 a1_2 x9_1 _ _ x7_1 t148 t151 t154 _ ?side1 ?side2 ?side3 ?side4 A21.out).mono ?_); (case side1 => repeat (first | exact (Kd.C_below HR0_1.out HB.out) | (with_reducible refine Kd.C_alloc ?_ _) | (with_reducible refine Kd.C_drewN ?_ _) | (with_reducible refine Kd.C_drew ?_))); (case side2 => exact HC0_1.out); (case side3 => repeat (first | exact (Kd.R_reads' HO_7.out).2.2 | (with_reducible refine Kd.C_alloc ?_ _) | (with_reducible refine Kd.C_drewN ?_ _) | (with_reducible refine Kd.C_drew ?_))); (case side4 => exact (Kd.R_reads' HO_7.out).2.1); rintro e w32 ⟨v149, v152, rfl, ho0, ho1, hb⟩; refine ⟨_, rfl, ?_⟩; have n0_ := Aside0.mk (Kd.R_elder' (kR HO_7.out) (Kd.R_base ho0) hb); have n1_ := Aside0.mk (Kd.R_lower (Kd.R_new' ho0 (Kd.R_lt (kR HO_7.out))) (below_size (kB HB.out))); have n2_ := Aside0.mk (Kd.R_lower ho1 (below_size (kB HB.out))); have n3_ := Aside0.mk (blk_below (g := gb141) (o := .cells #[.int .i64 a0_0, .slice A0_1 l0_1.length c0_1] 24 (0, 0)) (kA BK141.out) hb); have n4_ := Aside0.mk (blk_below (g := gb142) (o := .cells #[.string a1_0, .int .i64 a1_1, .int .i64 a1_2] 26 (0, 0)) (kA BK142.out) hb); have n5_ := Aside0.mk (below_step (kB HB.out) hb); clear HO_7; clear BK141; clear BK142; clear HB; have HO_7 := n0_; have HO150 := n1_; have HO153 := n2_; have BK141 := n3_; have BK142 := n4_; have HB := n5_; clear n0_ n1_ n2_ n3_ n4_ n5_; (try clear hb); (try clear hb2); (try clear hk); (try clear hi); (try clear ho0); (try clear ho1)))
        go_ret3
        exact ⟨_, by first | rfl | (simp [errW_none, errW_some] <;> rfl) | (simp [*, errW_none, errW_some] <;> rfl), by first | exact Kd.R_nil _ _ _ _ _ | exact Kd.N_nil _ _ _ _ _ | exact Kd.V_nil _ _ _ _ _ | exact Kd.Q_nil _ _ _ _ _ | exact Kd.S_nil _ _ _ _ _, by exact kB HB.out⟩
      ·replace c20 := Bool.eq_false_iff.mpr c20
       subst c20
       have H1 : ((seq_Values.f kj10 x7_1).bind fun t155 => (some (t155, x9_1, 0))) = some (r1, r2, r3) := by rw [if_neg (show ¬ (false = true) by decide)] at H; exact H
       clear H
       have H := H1
       clear H1
       replace H := Option.bind_eq_some_iff.mp H
       obtain ⟨t155, A330, H⟩ := H
       replace H : (some (t155, x9_1, 0)) = some (r1, r2, r3) := H
       have A33 := Aside0.mk A330
       clear A330
       simp only [Option.some.injEq, Prod.mk.injEq] at H
       obtain ⟨rfl, rfl, rfl⟩ := H
       obtain ⟨Ao34, co34, eo34⟩ := Kd.R_slice HO_7.out
       subst eo34
       go_wp2_with (first | ((with_reducible refine gate_callee (f := 18) rfl ?_); refine goesL_ (some 44) rfl rfl Try.func18 (by kernel_rfl) rfl #[.slice Ao34 x7_1.length co34] rfl (by (try simp only [List.map_toArray, List.map_cons, List.map_nil]); first | done | rfl | (simp only [List.length_drop, List.length_take]; rfl)) ?_; (with_reducible refine (seq_Values.calls kj10 _ _ x7_1 t155 _ ?side1 ?side2 A33.out).mono ?_); (case side1 => repeat (first | exact (Kd.R_reads' HO_7.out).2.2 | (with_reducible refine Kd.C_alloc ?_ _) | (with_reducible refine Kd.C_drewN ?_ _) | (with_reducible refine Kd.C_drew ?_))); (case side2 => exact (Kd.R_reads' HO_7.out).2.1); rintro e w35 ⟨v156, rfl, ho0, hb⟩; refine ⟨_, rfl, ?_⟩; have n0_ := Aside0.mk (Kd.R_below (kR HO_7.out) hb); have n1_ := Aside0.mk (Kd.R_lower ho0 (below_size (kB HB.out))); have n2_ := Aside0.mk (blk_below (g := gb141) (o := .cells #[.int .i64 a0_0, .slice A0_1 l0_1.length c0_1] 24 (0, 0)) (kA BK141.out) hb); have n3_ := Aside0.mk (blk_below (g := gb142) (o := .cells #[.string a1_0, .int .i64 a1_1, .int .i64 a1_2] 26 (0, 0)) (kA BK142.out) hb); have n4_ := Aside0.mk (below_step (kB HB.out) hb); clear HO_7; clear BK141; clear BK142; clear HB; have HO_7 := n0_; have HO157 := n1_; have BK141 := n2_; have BK142 := n3_; have HB := n4_; clear n0_ n1_ n2_ n3_ n4_; (try clear hb); (try clear hb2); (try clear hk); (try clear hi); (try clear ho0)))
       go_ret3
       exact ⟨_, by first | rfl | (simp [errW_none, errW_some] <;> rfl) | (simp [*, errW_none, errW_some] <;> rfl), by exact kR HO157.out, by exact kB HB.out⟩
 ·rw [if_neg c4] at H
  have c4b0 : (t146 == 0) = false := beq_eq_false_iff_ne.mpr c4
  have c4b1 : (t146 != 0) = true := bne_iff_ne.mpr c4
  simp only [Option.some.injEq, Prod.mk.injEq] at H
  obtain ⟨rfl, rfl, rfl⟩ := H
  go_enter Try.func14, Try.ntmps14
  go_wp2_with (first | ((with_reducible refine gate_dst (N := 2) rfl ?_); refine box_event ?hg (N := 2) ?hd (cs := #[.int .i64 a0_0, .slice A0_1 l0_1.length c0_1]) (t := 24) ?hr ?_; (case hd => rfl); (case hg => rfl); (case hr => first | (go_simp; done) | (go_simp; rfl)); intro gb141 hg w36 hbox hb; have n0_ := Aside0.mk (below_step (kB HB.out) hb); have n1_ := Aside0.mk (hbox); have n2_ := Aside0.mk ((by rw [hg]; exact (below_size (kB HB.out)) : w.heap.size ≤ gb141)); have n3_ := Aside0.mk ((by rw [hg]; exact (below_size (kB HB.out)) : w.heap.size ≤ gb141)); clear HB; have HB := n0_; have BK141 := n1_; have GW141 := n2_; have GE141 := n3_; clear n0_ n1_ n2_ n3_; clear hb hbox hg) | ((with_reducible refine gate_dst (N := 3) rfl ?_); refine box_event ?hg (N := 3) ?hd (cs := #[.string a1_0, .int .i64 a1_1, .int .i64 a1_2]) (t := 26) ?hr ?_; (case hd => rfl); (case hg => rfl); (case hr => first | (go_simp; done) | (go_simp; rfl)); intro gb142 hg w37 hbox hb; have n0_ := Aside0.mk (blk_below (g := gb141) (o := .cells #[.int .i64 a0_0, .slice A0_1 l0_1.length c0_1] 24 (0, 0)) (kA BK141.out) hb); have n1_ := Aside0.mk (below_step (kB HB.out) hb); have n2_ := Aside0.mk (hbox); have n3_ := Aside0.mk ((by rw [hg]; exact (below_size (kB HB.out)) : w.heap.size ≤ gb142)); have n4_ := Aside0.mk ((by rw [hg]; exact (below_size (kB HB.out)) : w.heap.size ≤ gb142)); have n5_ := Aside0.mk ((by rw [hg]; exact Nat.ne_of_lt (blk_lt (g := gb141) (o := .cells #[.int .i64 a0_0, .slice A0_1 l0_1.length c0_1] 24 (0, 0)) (kA BK141.out)) : gb141 ≠ gb142)); have n6_ := Aside0.mk ((by rw [hg]; exact Nat.ne_of_gt (blk_lt (g := gb141) (o := .cells #[.int .i64 a0_0, .slice A0_1 l0_1.length c0_1] 24 (0, 0)) (kA BK141.out)) : gb142 ≠ gb141)); clear BK141; clear HB; have BK141 := n0_; have HB := n1_; have BK142 := n2_; have GW142 := n3_; have GE142 := n4_; have NB141_142 := n5_; have NB142_141 := n6_; clear n0_ n1_ n2_ n3_ n4_ n5_ n6_; clear hb hbox hg; have hnb38 := NB141_142.out; have hnc38 := NB142_141.out; have hcz39_0 : w37.cell? ⟨gb141, 0, none⟩ = some (.int .i64 a0_0) := (blk_cell BK141.out 0).trans rfl; have hcz39_1 : w37.cell? ⟨gb141, 1, none⟩ = some (.slice A0_1 l0_1.length c0_1) := (blk_cell BK141.out 1).trans rfl; have hfz39_0 := blk_frozen BK141.out 0; have hfz39_1 := blk_frozen BK141.out 1; have hcz40_0 : w37.cell? ⟨gb142, 0, none⟩ = some (.string a1_0) := (blk_cell BK142.out 0).trans rfl; have hcz40_1 : w37.cell? ⟨gb142, 1, none⟩ = some (.int .i64 a1_1) := (blk_cell BK142.out 1).trans rfl; have hcz40_2 : w37.cell? ⟨gb142, 2, none⟩ = some (.int .i64 a1_2) := (blk_cell BK142.out 2).trans rfl; have hfz40_0 := blk_frozen BK142.out 0; have hfz40_1 := blk_frozen BK142.out 1; have hfz40_2 := blk_frozen BK142.out 2) | ((with_reducible refine gate_callee (f := 12) rfl ?_); refine goesL_ (some 13) rfl rfl Try.func12 (by kernel_rfl) rfl #[.agg #[.int .i64 a0_0, .slice A0_1 l0_1.length c0_1], .agg #[.string a1_0, .int .i64 a1_1, .int .i64 a1_2]] rfl (by (try simp only [List.map_toArray, List.map_cons, List.map_nil]); first | done | rfl | (simp only [List.length_drop, List.length_take]; rfl)) ?_; (with_reducible refine (seq_Start.calls k a0_0 _ _ l0_1 a1_0 a1_1 a1_2 t143 t146 _ ?side1 ?side2 A3.out).mono ?_); (case side1 => repeat (first | exact (Kd.C_below HR0_1.out HB.out) | (with_reducible refine Kd.C_alloc ?_ _) | (with_reducible refine Kd.C_drewN ?_ _) | (with_reducible refine Kd.C_drew ?_))); (case side2 => exact HC0_1.out); rintro e w41 ⟨v144, rfl, ho0, hb⟩; refine ⟨_, rfl, ?_⟩; have n0_ := Aside0.mk (Kd.R_lower ho0 (below_size (kB HB.out))); have n1_ := Aside0.mk (blk_below (g := gb141) (o := .cells #[.int .i64 a0_0, .slice A0_1 l0_1.length c0_1] 24 (0, 0)) (kA BK141.out) hb); have n2_ := Aside0.mk (blk_below (g := gb142) (o := .cells #[.string a1_0, .int .i64 a1_1, .int .i64 a1_2] 26 (0, 0)) (kA BK142.out) hb); have n3_ := Aside0.mk (below_step (kB HB.out) hb); clear BK141; clear BK142; clear HB; have HO145 := n0_; have BK141 := n1_; have BK142 := n2_; have HB := n3_; clear n0_ n1_ n2_ n3_; (try clear hb); (try clear hb2); (try clear hk); (try clear hi); (try clear ho0)))
  go_ret3
  exact ⟨_, by first | rfl | (simp [errW_none, errW_some] <;> rfl) | (simp [*, errW_none, errW_some] <;> rfl), by first | exact Kd.R_nil _ _ _ _ _ | exact Kd.N_nil _ _ _ _ _ | exact Kd.V_nil _ _ _ _ _ | exact Kd.Q_nil _ _ _ _ _ | exact Kd.S_nil _ _ _ _ _, by exact kB HB.out⟩

/-! ### modillionref09_Row: function 17 -/
def modillionref09_Row.l0 : Nat → List Int → List Int → Int → Option (Bool)
 | 0, _, _, _ => none
 | k + 1, x0, x1, x5 => if x5 < (x0.length : Int) then (if 0 ≤ x5 then (if x5 < (x1.length : Int) then (if (rd x0 x5) = (rd x1 x5) then (modillionref09_Row.l0 k x0 x1 (wrap64 (x5 + 1))) else (some false)) else (none)) else (none)) else (some true)
def modillionref09_Row.f (k : Nat) (l0 : List Int) (l1 : List Int) : Option (Bool) := if (l0.length : Int) = (l1.length : Int) then (modillionref09_Row.l0 k l0 l1 0) else (some false)
theorem modillionref09_Row.mono_l : ∀ k, (∀ y0 y1 y2, LeO (modillionref09_Row.l0 k y0 y1 y2) (modillionref09_Row.l0 (k + 1) y0 y1 y2))
 | 0 => fun _ _ _ r h => by simp [modillionref09_Row.l0] at h
 | k + 1 => by
  have ih0 := modillionref09_Row.mono_l k
  ·intro y0 y1 y2
   unfold modillionref09_Row.l0
   repeat' first
   | (with_reducible exact ih0 _ _ _)
   | (with_reducible exact LeO.refl _)
   | (with_reducible exact LeO.none _)
   | (with_reducible refine LeO.ite ?_ ?_)
   | (with_reducible refine LeO.bind ?_ (fun _ => ?_))
   | exact ih0 _ _ _
   | exact LeO.none _
   | refine LeO.ite ?_ ?_
   | refine LeO.bind ?_ (fun _ => ?_)
theorem modillionref09_Row.mono : ∀ a0 a1 k, LeO (modillionref09_Row.f k a0 a1) (modillionref09_Row.f (k + 1) a0 a1) := by
 intro a0 a1 k
 have ih0 := modillionref09_Row.mono_l k
 unfold modillionref09_Row.f
 repeat' first
   | (with_reducible exact ih0 _ _ _)
   | (with_reducible exact LeO.refl _)
   | (with_reducible exact LeO.none _)
   | (with_reducible refine LeO.ite ?_ ?_)
   | (with_reducible refine LeO.bind ?_ (fun _ => ?_))
   | exact ih0 _ _ _
   | exact LeO.none _
   | refine LeO.ite ?_ ?_
   | refine LeO.bind ?_ (fun _ => ?_)
set_option maxHeartbeats 8000000 in
set_option maxRecDepth 100000 in
theorem modillionref09_Row.calls (k : Nat) (A0 : Option Addr) (c0 : Nat) (l0 : List Int) (A1 : Option Addr) (c1 : Nat) (l1 : List Int) (r : Bool) (w : World) (hr0 : Kd.C (Kd.int .i64) w A0 l0.length l0) (hc0 : l0.length ≤ c0) (hr1 : Kd.C (Kd.int .i64) w A1 l1.length l1) (hc1 : l1.length ≤ c1) (h : modillionref09_Row.f k l0 l1 = some r) :
  Calls Try.prog 17 #[.slice A0 l0.length c0, .slice A1 l1.length c1] w fun e w' => e = .returned (.bool r) ∧ Drawn0 w w' := by
 have HR0 := Aside0.mk hr0
 have HC0 := Aside0.mk hc0
 clear hr0 hc0
 have HR1 := Aside0.mk hr1
 have HC1 := Aside0.mk hc1
 clear hr1 hc1
 have H : (if (l0.length : Int) = (l1.length : Int) then (modillionref09_Row.l0 k l0 l1 0) else (some false)) = some r := h
 clear h
 by_cases c3 : (l0.length : Int) = (l1.length : Int)
 ·rw [if_pos c3] at H
  have c3b0 : ((l0.length : Int) == (l1.length : Int)) = true := beq_iff_eq.mpr c3
  have c3b1 : ((l0.length : Int) != (l1.length : Int)) = false := bne_eq_false_iff_eq.mpr c3
  have c3b2 : (l0.length == l1.length) = true := by first | simpa using c3 | (simp at c3 ⊢; omega)
  clear c3
  have H' := Aside0.mk H
  clear H
  go_enter Try.func17, Try.ntmps17
  go_wp2
  repeat (go_quiet (fail); try go_wp2)
  go_loopg [5] k (fun kq v5 w' => ∃ (x5_1 : Int), v5 = .int .i64 x5_1 ∧ Aside0 (modillionref09_Row.l0 kq l0 l1 x5_1 = some r) ∧ Aside0 (kq ≤ k) ∧ Drawn0 w w')
  case atStart => exact ⟨(0), (by first | rfl | (simp; done) | (simp [*]; done)), H', ⟨Nat.le_refl _⟩, by repeat (first | exact Drawn0.refl _ | apply Drawn0.step)⟩
  case round =>
   clear H'
   try clear c1
   try clear p2
   try clear c3
   try clear c3b0
   try clear c3b1
   try clear c3b2
   obtain ⟨x5_1, rfl, HA, HK1, ⟨m1, rfl⟩⟩ := hrel
   cases gk with
   | zero => exact absurd HA.out (by simp [modillionref09_Row.l0])
   | succ k1 =>
    have H := HA.out
    clear HA
    simp only [modillionref09_Row.l0] at H
    by_cases c4 : x5_1 < (l0.length : Int)
    ·rw [if_pos c4] at H
     have c4b0 : decide (x5_1 < (l0.length : Int)) = true := decide_eq_true c4
     clear c4
     obtain ⟨c5, H⟩ := iteS9 H
     have c5b0 : decide (0 ≤ x5_1) = true := decide_eq_true c5
     clear c5
     obtain ⟨c6, H⟩ := iteS9 H
     have c6b0 : decide (x5_1 < (l1.length : Int)) = true := decide_eq_true c6
     clear c6
     by_cases c7 : (rd l0 x5_1) = (rd l1 x5_1)
     ·rw [if_pos c7] at H
      have c7b0 : ((rd l0 x5_1) == (rd l1 x5_1)) = true := beq_iff_eq.mpr c7
      have c7b1 : ((rd l0 x5_1) != (rd l1 x5_1)) = false := bne_eq_false_iff_eq.mpr c7
      clear c7
      have H' := Aside0.mk H
      clear H
      have p158 : 0 ≤ (x5_1 : Int) := of_decide_eq_true (by first | (with_reducible assumption) | assumption)
      have q158 : x5_1 < (l0.length : Int) := of_decide_eq_true (by first | (with_reducible assumption) | assumption)
      obtain ⟨ad158, e158, hx158_0⟩ := Kd.at_int HR0.out x5_1 p158 q158
      cases e158
      replace p158 := eq_true p158
      replace q158 := eq_true q158
      have p159 : 0 ≤ (x5_1 : Int) := of_decide_eq_true (by first | (with_reducible assumption) | assumption)
      have q159 : x5_1 < (l1.length : Int) := of_decide_eq_true (by first | (with_reducible assumption) | assumption)
      obtain ⟨ad159, e159, hx159_0⟩ := Kd.at_int HR1.out x5_1 p159 q159
      cases e159
      replace p159 := eq_true p159
      replace q159 := eq_true q159
      go_wp2
      repeat (go_quiet (fail); try go_wp2)
      go_roundg k1
      case measure => have := HK1.out; omega
      case rel => exact ⟨(wrap64 (x5_1 + 1)), (by first | rfl | (simp; done) | (simp [*]; done)), H', ⟨by have := HK1.out; omega⟩, by repeat (first | exact Drawn0.refl _ | apply Drawn0.step)⟩
     ·rw [if_neg c7] at H
      have c7b0 : ((rd l0 x5_1) == (rd l1 x5_1)) = false := beq_eq_false_iff_ne.mpr c7
      have c7b1 : ((rd l0 x5_1) != (rd l1 x5_1)) = true := bne_iff_ne.mpr c7
      obtain rfl := Option.some.inj H
      have p158 : 0 ≤ (x5_1 : Int) := of_decide_eq_true (by first | (with_reducible assumption) | assumption)
      have q158 : x5_1 < (l0.length : Int) := of_decide_eq_true (by first | (with_reducible assumption) | assumption)
      obtain ⟨ad158, e158, hx158_0⟩ := Kd.at_int HR0.out x5_1 p158 q158
      cases e158
      replace p158 := eq_true p158
      replace q158 := eq_true q158
      have p159 : 0 ≤ (x5_1 : Int) := of_decide_eq_true (by first | (with_reducible assumption) | assumption)
      have q159 : x5_1 < (l1.length : Int) := of_decide_eq_true (by first | (with_reducible assumption) | assumption)
      obtain ⟨ad159, e159, hx159_0⟩ := Kd.at_int HR1.out x5_1 p159 q159
      cases e159
      replace p159 := eq_true p159
      replace q159 := eq_true q159
      go_wp2
      repeat (go_quiet (fail); try go_wp2)
      go_ret
      exact ⟨by first | rfl | (simp; done) | (simp [*]; done), by repeat (first | exact Drawn0.refl _ | apply Drawn0.step)⟩
    ·rw [if_neg c4] at H
     have c4b0 : decide (x5_1 < (l0.length : Int)) = false := decide_eq_false c4
     clear c4
     obtain rfl := Option.some.inj H
     go_wp2
     repeat (go_quiet (fail); try go_wp2)
     go_ret
     exact ⟨by first | rfl | (simp; done) | (simp [*]; done), by repeat (first | exact Drawn0.refl _ | apply Drawn0.step)⟩
 ·rw [if_neg c3] at H
  have c3b0 : ((l0.length : Int) == (l1.length : Int)) = false := beq_eq_false_iff_ne.mpr c3
  have c3b1 : ((l0.length : Int) != (l1.length : Int)) = true := bne_iff_ne.mpr c3
  have c3b2 : (l0.length == l1.length) = false := by first | simpa using c3 | (simp at c3 ⊢; omega)
  obtain rfl := Option.some.inj H
  go_enter Try.func17, Try.ntmps17
  go_wp2
  repeat (go_quiet (fail); try go_wp2)
  go_ret
  exact ⟨by first | rfl | (simp; done) | (simp [*]; done), by repeat (first | exact Drawn0.refl _ | apply Drawn0.step)⟩

/-! ### modillionlaw09_awake: function 11 (given) -/
section
def modillionlaw09_awake.f (k : Nat)  : Option (Bool) := (some (([(⟨0, 1, 0⟩ : S45), (⟨1, 2, 0⟩ : S45), (⟨2, 0, 0⟩ : S45)] : List (S45)) : List (S45))).bind fun y160 => ((seq_Start.f k 3 y160 (⟨#[108, 97, 98, 101, 108]⟩ : ByteArray) 0 9).bind fun bt165 => ((seq_Next.f 3 y160 (⟨#[108, 97, 98, 101, 108]⟩ : ByteArray) 0 9 0 bt165.1).bind fun bt169 => ((seq_Run.f k 3 y160 (⟨#[108, 97, 98, 101, 108]⟩ : ByteArray) 0 9).bind fun bt176 => (if bt165.2 = 0 then (if (bt165.1.length : Int) = 3 then (if bt169.2.2 = 0 then (if (bt169.1.length : Int) = 3 then (if (bt169.2.1.length : Int) = 3 then (if 1 < (bt169.1.length : Int) then (if (rd_T50 bt169.1 1).f3 = true then ((seq_Quiet.f bt169.1).bind fun t182 => (if t182 = true then (none) else ((modillionref09_Row.f k bt176.1 (([0, 0, 0] : List Int))).bind fun t186 => (if t186 = true then (if bt176.2.1 ≤ 4 then (if bt176.2.2 = 0 then ((seq_Values.f k bt165.1).bind fun t187 => ((modillionref09_Row.f k t187 (([0, 1, 2] : List Int))).bind fun t193 => (some t193))) else (none)) else (none)) else (none))))) else (none)) else (none)) else (none)) else (none)) else (none)) else (none)) else (none)))))
theorem modillionlaw09_awake.mono : ∀ k, LeO (modillionlaw09_awake.f k ) (modillionlaw09_awake.f (k + 1) ) := by
 intro  k
 unfold modillionlaw09_awake.f
 repeat' first
   | (with_reducible exact modillionref09_Row.mono _ _ _)
   | (with_reducible exact seq_Run.mono _ _ _ _ _ _)
   | (with_reducible exact seq_Start.mono _ _ _ _ _ _)
   | (with_reducible exact seq_Values.mono _ _)
   | (with_reducible exact LeO.refl _)
   | (with_reducible exact LeO.none _)
   | (with_reducible refine LeO.ite ?_ ?_)
   | (with_reducible refine LeO.bind ?_ (fun _ => ?_))
   | exact modillionref09_Row.mono _ _ _
   | exact seq_Run.mono _ _ _ _ _ _
   | exact seq_Start.mono _ _ _ _ _ _
   | exact seq_Values.mono _ _
   | exact LeO.none _
   | refine LeO.ite ?_ ?_
   | refine LeO.bind ?_ (fun _ => ?_)
set_option maxHeartbeats 8000000 in
set_option maxRecDepth 100000 in
theorem modillionlaw09_awake.calls (k : Nat)  (r : Bool) (w : World) (h : modillionlaw09_awake.f k  = some r) :
  Calls Try.prog 11 #[] w fun e w' => e = .returned (.bool r) ∧ Below w.heap.size w w' := by
 have hu45 := Try.underlying45
 have hu24 := Try.underlying24
 have hu26 := Try.underlying26
 have HB := Aside0.mk (Below.refl w.heap.size w)
 have H : ((some (([(⟨0, 1, 0⟩ : S45), (⟨1, 2, 0⟩ : S45), (⟨2, 0, 0⟩ : S45)] : List (S45)) : List (S45))).bind fun y160 => ((seq_Start.f k 3 y160 (⟨#[108, 97, 98, 101, 108]⟩ : ByteArray) 0 9).bind fun bt165 => ((seq_Next.f 3 y160 (⟨#[108, 97, 98, 101, 108]⟩ : ByteArray) 0 9 0 bt165.1).bind fun bt169 => ((seq_Run.f k 3 y160 (⟨#[108, 97, 98, 101, 108]⟩ : ByteArray) 0 9).bind fun bt176 => (if bt165.2 = 0 then (if (bt165.1.length : Int) = 3 then (if bt169.2.2 = 0 then (if (bt169.1.length : Int) = 3 then (if (bt169.2.1.length : Int) = 3 then (if 1 < (bt169.1.length : Int) then (if (rd_T50 bt169.1 1).f3 = true then ((seq_Quiet.f bt169.1).bind fun t182 => (if t182 = true then (none) else ((modillionref09_Row.f k bt176.1 (([0, 0, 0] : List Int))).bind fun t186 => (if t186 = true then (if bt176.2.1 ≤ 4 then (if bt176.2.2 = 0 then ((seq_Values.f k bt165.1).bind fun t187 => ((modillionref09_Row.f k t187 (([0, 1, 2] : List Int))).bind fun t193 => (some t193))) else (none)) else (none)) else (none))))) else (none)) else (none)) else (none)) else (none)) else (none)) else (none)) else (none)))))) = some r := h
 clear h
 obtain ⟨y160, hy160⟩ : ∃ y_ : List (S45), y_ = (([(⟨0, 1, 0⟩ : S45), (⟨1, 2, 0⟩ : S45), (⟨2, 0, 0⟩ : S45)] : List (S45))) := ⟨_, rfl⟩
 replace H : ((seq_Start.f k 3 y160 (⟨#[108, 97, 98, 101, 108]⟩ : ByteArray) 0 9).bind fun bt165 => ((seq_Next.f 3 y160 (⟨#[108, 97, 98, 101, 108]⟩ : ByteArray) 0 9 0 bt165.1).bind fun bt169 => ((seq_Run.f k 3 y160 (⟨#[108, 97, 98, 101, 108]⟩ : ByteArray) 0 9).bind fun bt176 => (if bt165.2 = 0 then (if (bt165.1.length : Int) = 3 then (if bt169.2.2 = 0 then (if (bt169.1.length : Int) = 3 then (if (bt169.2.1.length : Int) = 3 then (if 1 < (bt169.1.length : Int) then (if (rd_T50 bt169.1 1).f3 = true then ((seq_Quiet.f bt169.1).bind fun t182 => (if t182 = true then (none) else ((modillionref09_Row.f k bt176.1 (([0, 0, 0] : List Int))).bind fun t186 => (if t186 = true then (if bt176.2.1 ≤ 4 then (if bt176.2.2 = 0 then ((seq_Values.f k bt165.1).bind fun t187 => ((modillionref09_Row.f k t187 (([0, 1, 2] : List Int))).bind fun t193 => (some t193))) else (none)) else (none)) else (none))))) else (none)) else (none)) else (none)) else (none)) else (none)) else (none)) else (none))))) = some r := by first | (rw [hy160]; with_reducible exact H) | (have H2_ := (Option.bind_some _ _).symm.trans H; rw [hy160]; with_reducible exact H2_) | (have H2_ := (Option.bind_some _ _).symm.trans H; with_reducible exact H2_) | with_reducible exact H | (rw [hy160]; exact H) | exact H
 have Ny160 := Aside0.mk hy160
 clear hy160
 replace H := Option.bind_eq_some_iff.mp H
 obtain ⟨⟨t165, t168⟩, A10, H⟩ := H
 replace H : ((seq_Next.f 3 y160 (⟨#[108, 97, 98, 101, 108]⟩ : ByteArray) 0 9 0 t165).bind fun bt169 => ((seq_Run.f k 3 y160 (⟨#[108, 97, 98, 101, 108]⟩ : ByteArray) 0 9).bind fun bt176 => (if t168 = 0 then (if (t165.length : Int) = 3 then (if bt169.2.2 = 0 then (if (bt169.1.length : Int) = 3 then (if (bt169.2.1.length : Int) = 3 then (if 1 < (bt169.1.length : Int) then (if (rd_T50 bt169.1 1).f3 = true then ((seq_Quiet.f bt169.1).bind fun t182 => (if t182 = true then (none) else ((modillionref09_Row.f k bt176.1 (([0, 0, 0] : List Int))).bind fun t186 => (if t186 = true then (if bt176.2.1 ≤ 4 then (if bt176.2.2 = 0 then ((seq_Values.f k t165).bind fun t187 => ((modillionref09_Row.f k t187 (([0, 1, 2] : List Int))).bind fun t193 => (some t193))) else (none)) else (none)) else (none))))) else (none)) else (none)) else (none)) else (none)) else (none)) else (none)) else (none)))) = some r := H
 have A1 := Aside0.mk A10
 clear A10
 replace H := Option.bind_eq_some_iff.mp H
 obtain ⟨⟨t169, t172, t175⟩, A20, H⟩ := H
 replace H : ((seq_Run.f k 3 y160 (⟨#[108, 97, 98, 101, 108]⟩ : ByteArray) 0 9).bind fun bt176 => (if t168 = 0 then (if (t165.length : Int) = 3 then (if t175 = 0 then (if (t169.length : Int) = 3 then (if (t172.length : Int) = 3 then (if 1 < (t169.length : Int) then (if (rd_T50 t169 1).f3 = true then ((seq_Quiet.f t169).bind fun t182 => (if t182 = true then (none) else ((modillionref09_Row.f k bt176.1 (([0, 0, 0] : List Int))).bind fun t186 => (if t186 = true then (if bt176.2.1 ≤ 4 then (if bt176.2.2 = 0 then ((seq_Values.f k t165).bind fun t187 => ((modillionref09_Row.f k t187 (([0, 1, 2] : List Int))).bind fun t193 => (some t193))) else (none)) else (none)) else (none))))) else (none)) else (none)) else (none)) else (none)) else (none)) else (none)) else (none))) = some r := H
 have A2 := Aside0.mk A20
 clear A20
 replace H := Option.bind_eq_some_iff.mp H
 obtain ⟨⟨t176, t179, t180⟩, A30, H⟩ := H
 replace H : (if t168 = 0 then (if (t165.length : Int) = 3 then (if t175 = 0 then (if (t169.length : Int) = 3 then (if (t172.length : Int) = 3 then (if 1 < (t169.length : Int) then (if (rd_T50 t169 1).f3 = true then ((seq_Quiet.f t169).bind fun t182 => (if t182 = true then (none) else ((modillionref09_Row.f k t176 (([0, 0, 0] : List Int))).bind fun t186 => (if t186 = true then (if t179 ≤ 4 then (if t180 = 0 then ((seq_Values.f k t165).bind fun t187 => ((modillionref09_Row.f k t187 (([0, 1, 2] : List Int))).bind fun t193 => (some t193))) else (none)) else (none)) else (none))))) else (none)) else (none)) else (none)) else (none)) else (none)) else (none)) else (none)) = some r := H
 have A3 := Aside0.mk A30
 clear A30
 by_cases c4 : t168 = 0
 ·rw [if_pos c4] at H
  have c4b0 : (t168 == 0) = true := beq_iff_eq.mpr c4
  have c4b1 : (t168 != 0) = false := bne_eq_false_iff_eq.mpr c4
  clear c4
  by_cases c5 : (t165.length : Int) = 3
  ·rw [if_pos c5] at H
   have c5b0 : ((t165.length : Int) == 3) = true := beq_iff_eq.mpr c5
   have c5b1 : ((t165.length : Int) != 3) = false := bne_eq_false_iff_eq.mpr c5
   clear c5
   by_cases c6 : t175 = 0
   ·rw [if_pos c6] at H
    have c6b0 : (t175 == 0) = true := beq_iff_eq.mpr c6
    have c6b1 : (t175 != 0) = false := bne_eq_false_iff_eq.mpr c6
    clear c6
    by_cases c7 : (t169.length : Int) = 3
    ·rw [if_pos c7] at H
     have c7b0 : ((t169.length : Int) == 3) = true := beq_iff_eq.mpr c7
     have c7b1 : ((t169.length : Int) != 3) = false := bne_eq_false_iff_eq.mpr c7
     clear c7
     by_cases c8 : (t172.length : Int) = 3
     ·rw [if_pos c8] at H
      have c8b0 : ((t172.length : Int) == 3) = true := beq_iff_eq.mpr c8
      have c8b1 : ((t172.length : Int) != 3) = false := bne_eq_false_iff_eq.mpr c8
      clear c8
      by_cases c9 : 1 < (t169.length : Int)
      ·rw [if_pos c9] at H
       have c9b0 : decide (1 < (t169.length : Int)) = true := decide_eq_true c9
       have c9b1 : decide (1 < t169.length) = true := decide_eq_true (by omega)
       clear c9
       obtain ⟨bq10, hbq10⟩ : ∃ b_ : Bool, b_ = ((rd_T50 t169 1).f3) := ⟨_, rfl⟩
       replace H : (if bq10 = true then ((seq_Quiet.f t169).bind fun t182 => (if t182 = true then (none) else ((modillionref09_Row.f k t176 (([0, 0, 0] : List Int))).bind fun t186 => (if t186 = true then (if t179 ≤ 4 then (if t180 = 0 then ((seq_Values.f k t165).bind fun t187 => ((modillionref09_Row.f k t187 (([0, 1, 2] : List Int))).bind fun t193 => (some t193))) else (none)) else (none)) else (none))))) else (none)) = some r := by rw [← hbq10] at H; exact H
       have Nbq10 := Aside0.mk hbq10
       clear hbq10
       by_cases c11 : bq10 = true
       ·subst c11
        have H1 : ((seq_Quiet.f t169).bind fun t182 => (if t182 = true then (none) else ((modillionref09_Row.f k t176 (([0, 0, 0] : List Int))).bind fun t186 => (if t186 = true then (if t179 ≤ 4 then (if t180 = 0 then ((seq_Values.f k t165).bind fun t187 => ((modillionref09_Row.f k t187 (([0, 1, 2] : List Int))).bind fun t193 => (some t193))) else (none)) else (none)) else (none))))) = some r := by rw [if_pos rfl] at H; exact H
        clear H
        have H := H1
        clear H1
        replace H := Option.bind_eq_some_iff.mp H
        obtain ⟨t182, A120, H⟩ := H
        replace H : (if t182 = true then (none) else ((modillionref09_Row.f k t176 (([0, 0, 0] : List Int))).bind fun t186 => (if t186 = true then (if t179 ≤ 4 then (if t180 = 0 then ((seq_Values.f k t165).bind fun t187 => ((modillionref09_Row.f k t187 (([0, 1, 2] : List Int))).bind fun t193 => (some t193))) else (none)) else (none)) else (none)))) = some r := H
        have A12 := Aside0.mk A120
        clear A120
        by_cases c13 : t182 = true
        ·rw [if_pos c13] at H; cases H
        ·replace c13 := Bool.eq_false_iff.mpr c13
         subst c13
         have H1 : ((modillionref09_Row.f k t176 (([0, 0, 0] : List Int))).bind fun t186 => (if t186 = true then (if t179 ≤ 4 then (if t180 = 0 then ((seq_Values.f k t165).bind fun t187 => ((modillionref09_Row.f k t187 (([0, 1, 2] : List Int))).bind fun t193 => (some t193))) else (none)) else (none)) else (none))) = some r := by rw [if_neg (show ¬ (false = true) by decide)] at H; exact H
         clear H
         have H := H1
         clear H1
         obtain ⟨y183, hy183⟩ : ∃ y_ : List Int, y_ = (([0, 0, 0] : List Int)) := ⟨_, rfl⟩
         replace H : ((modillionref09_Row.f k t176 y183).bind fun t186 => (if t186 = true then (if t179 ≤ 4 then (if t180 = 0 then ((seq_Values.f k t165).bind fun t187 => ((modillionref09_Row.f k t187 (([0, 1, 2] : List Int))).bind fun t193 => (some t193))) else (none)) else (none)) else (none))) = some r := by first | (rw [hy183]; with_reducible exact H) | (have H2_ := (Option.bind_some _ _).symm.trans H; rw [hy183]; with_reducible exact H2_) | (have H2_ := (Option.bind_some _ _).symm.trans H; with_reducible exact H2_) | with_reducible exact H | (rw [hy183]; exact H) | exact H
         have Ny183 := Aside0.mk hy183
         clear hy183
         replace H := Option.bind_eq_some_iff.mp H
         obtain ⟨t186, A340, H⟩ := H
         replace H : (if t186 = true then (if t179 ≤ 4 then (if t180 = 0 then ((seq_Values.f k t165).bind fun t187 => ((modillionref09_Row.f k t187 (([0, 1, 2] : List Int))).bind fun t193 => (some t193))) else (none)) else (none)) else (none)) = some r := H
         have A34 := Aside0.mk A340
         clear A340
         by_cases c35 : t186 = true
         ·subst c35
          have H1 : (if t179 ≤ 4 then (if t180 = 0 then ((seq_Values.f k t165).bind fun t187 => ((modillionref09_Row.f k t187 (([0, 1, 2] : List Int))).bind fun t193 => (some t193))) else (none)) else (none)) = some r := by rw [if_pos rfl] at H; exact H
          clear H
          have H := H1
          clear H1
          by_cases c36 : t179 ≤ 4
          ·rw [if_pos c36] at H
           have c36b0 := decide_eq_true c36
           clear c36
           by_cases c37 : t180 = 0
           ·rw [if_pos c37] at H
            have c37b0 : (t180 == 0) = true := beq_iff_eq.mpr c37
            have c37b1 : (t180 != 0) = false := bne_eq_false_iff_eq.mpr c37
            clear c37
            replace H := Option.bind_eq_some_iff.mp H
            obtain ⟨t187, A380, H⟩ := H
            replace H : ((modillionref09_Row.f k t187 (([0, 1, 2] : List Int))).bind fun t193 => (some t193)) = some r := H
            have A38 := Aside0.mk A380
            clear A380
            obtain ⟨y190, hy190⟩ : ∃ y_ : List Int, y_ = (([0, 1, 2] : List Int)) := ⟨_, rfl⟩
            replace H : ((modillionref09_Row.f k t187 y190).bind fun t193 => (some t193)) = some r := by first | (rw [hy190]; with_reducible exact H) | (have H2_ := (Option.bind_some _ _).symm.trans H; rw [hy190]; with_reducible exact H2_) | (have H2_ := (Option.bind_some _ _).symm.trans H; with_reducible exact H2_) | with_reducible exact H | (rw [hy190]; exact H) | exact H
            have Ny190 := Aside0.mk hy190
            clear hy190
            replace H := Option.bind_eq_some_iff.mp H
            obtain ⟨t193, A390, H⟩ := H
            replace H : (some t193) = some r := H
            have A39 := Aside0.mk A390
            clear A390
            obtain rfl := Option.some.inj H
            go_enter Try.func11, Try.ntmps11
            go_wp2_with (first | ((with_reducible refine gate_dst (N := 14) rfl ?_); (try (refine gate_guard (by rfl) ?_; dsimp only)); refine Kd.R_lit k45 _ 45 ?hg (N := 14) ?hd (xs := ([(⟨0, 1, 0⟩ : S45), (⟨1, 2, 0⟩ : S45), (⟨2, 0, 0⟩ : S45)] : List (S45))) (inner := [.int .i64 0, .int .i64 1, .int .i64 0, .int .i64 1, .int .i64 2, .int .i64 0, .int .i64 2, .int .i64 0, .int .i64 0]) (ok := fun _ => True) (okp := fun _ => True) ?hr ?hp (fun _ hk => hk) trivial (Below.refl _ _) (Nat.le_refl _) (by simp) ?_; (case hd => rfl); (case hg => rfl); (case hr => first | (go_simp; done) | (go_simp; rfl)); (case hp => exact (Reps.c3 (show Kd.M k45 _ _ _ (⟨0, 1, 0⟩ : S45) [.int .i64 0, .int .i64 1, .int .i64 0] from (k45_mkM _ _ _ (⟨0, 1, 0⟩ : S45) )) (Reps.c3 (show Kd.M k45 _ _ _ (⟨1, 2, 0⟩ : S45) [.int .i64 1, .int .i64 2, .int .i64 0] from (k45_mkM _ _ _ (⟨1, 2, 0⟩ : S45) )) (Reps.c3 (show Kd.M k45 _ _ _ (⟨2, 0, 0⟩ : S45) [.int .i64 2, .int .i64 0, .int .i64 0] from (k45_mkM _ _ _ (⟨2, 0, 0⟩ : S45) )) (Reps.none _ _))))); intro v161 w40 ho41 hb hg_ hnew_; clear hg_ hnew_; (first | rw [← Ny160.out] at ho41 | (simp only [Int.reduceToNat] at ho41; rw [← Ny160.out] at ho41)); have n0_ := Aside0.mk (Kd.R_lower ho41 (below_size (kB HB.out))); have n1_ := Aside0.mk (below_step (kB HB.out) hb); clear HB; have HO162 := n0_; have HB := n1_; clear n0_ n1_; clear hb ho41; obtain ⟨Ao42, co42, eo42⟩ := Kd.R_slice HO162.out; subst eo42) | ((with_reducible refine gate_dst (N := 1) rfl ?_); (try (refine gate_guard (by rfl) ?_; dsimp only)); refine box_event ?hg (N := 1) ?hd (cs := #[.int .i64 0, .slice none 0 0]) (t := 24) ?hr ?_; (case hd => rfl); (case hg => rfl); (case hr => first | (go_simp; done) | (go_simp; rfl)); intro gb163 hg w43 hbox hb; have n0_ := Aside0.mk (Kd.R_below (kR HO162.out) hb); have n1_ := Aside0.mk (below_step (kB HB.out) hb); have n2_ := Aside0.mk (hbox); have n3_ := Aside0.mk ((by rw [hg]; exact (below_size (kB HB.out)) : w.heap.size ≤ gb163)); have n4_ := Aside0.mk ((by rw [hg]; exact (below_size (kB HB.out)) : w.heap.size ≤ gb163)); clear HO162; clear HB; have HO162 := n0_; have HB := n1_; have BK163 := n2_; have GW163 := n3_; have GE163 := n4_; clear n0_ n1_ n2_ n3_ n4_; clear hb hbox hg; have hcz44_0 : w43.cell? ⟨gb163, 0, none⟩ = some (.int .i64 0) := (blk_cell BK163.out 0).trans rfl; have hcz44_1 : w43.cell? ⟨gb163, 1, none⟩ = some (.slice none 0 0) := (blk_cell BK163.out 1).trans rfl; have hfz44_0 := blk_frozen BK163.out 0; have hfz44_1 := blk_frozen BK163.out 1) | ((with_reducible refine gate_dst (N := 2) rfl ?_); (try (refine gate_guard (by rfl) ?_; dsimp only)); refine box_event ?hg (N := 2) ?hd (cs := #[.string (⟨#[]⟩ : ByteArray), .int .i64 0, .int .i64 0]) (t := 26) ?hr ?_; (case hd => rfl); (case hg => rfl); (case hr => first | (go_simp; done) | (go_simp; rfl)); intro gb164 hg w45 hbox hb; have n0_ := Aside0.mk (Kd.R_below (by (with_reducible repeat (first | apply Kd.R_alloc | apply Kd.R_drewN | apply Kd.R_drew)); exact (Kd.R_mono (Kd.R_far (p := ⟨gb163, 1, none⟩) (Kd.R_far (p := ⟨gb163, 0, none⟩) (Kd.R_types HO162.out BK163.out (by decide)) (fun _ hk => hk.2) (.int .i64 3)) (fun _ hk => hk.2) (.slice Ao42 y160.length co42)) (fun _ h_ => h_.1))) hb); have n1_ := Aside0.mk (blk_below (g := gb163) (o := .cells #[.int .i64 3, .slice Ao42 y160.length co42] 24 (0, 0)) (by (with_reducible repeat (first | refine blk_drewN ?_ _ | refine blk_drew ?_ | refine blk_alloc ?_ _)); refine blk_put (cs := #[.int .i64 3, .slice none 0 0]) ?_ 1 _ rfl; refine blk_put (cs := #[.int .i64 0, .slice none 0 0]) ?_ 0 _ rfl; exact kA BK163.out) hb); have n2_ := Aside0.mk (below_step (kB HB.out) hb); have n3_ := Aside0.mk (hbox); have n4_ := Aside0.mk ((by rw [hg]; exact (below_size (kB HB.out)) : w.heap.size ≤ gb164)); have n5_ := Aside0.mk ((by rw [hg]; exact (below_size (kB HB.out)) : w.heap.size ≤ gb164)); have n6_ := Aside0.mk ((by rw [hg]; exact Nat.ne_of_lt (blk_lt (g := gb163) (o := .cells #[.int .i64 3, .slice Ao42 y160.length co42] 24 (0, 0)) (by (with_reducible repeat (first | refine blk_drewN ?_ _ | refine blk_drew ?_ | refine blk_alloc ?_ _)); refine blk_put (cs := #[.int .i64 3, .slice none 0 0]) ?_ 1 _ rfl; refine blk_put (cs := #[.int .i64 0, .slice none 0 0]) ?_ 0 _ rfl; exact kA BK163.out)) : gb163 ≠ gb164)); have n7_ := Aside0.mk ((by rw [hg]; exact Nat.ne_of_gt (blk_lt (g := gb163) (o := .cells #[.int .i64 3, .slice Ao42 y160.length co42] 24 (0, 0)) (by (with_reducible repeat (first | refine blk_drewN ?_ _ | refine blk_drew ?_ | refine blk_alloc ?_ _)); refine blk_put (cs := #[.int .i64 3, .slice none 0 0]) ?_ 1 _ rfl; refine blk_put (cs := #[.int .i64 0, .slice none 0 0]) ?_ 0 _ rfl; exact kA BK163.out)) : gb164 ≠ gb163)); clear HO162; clear BK163; clear HB; have HO162 := n0_; have BK163 := n1_; have HB := n2_; have BK164 := n3_; have GW164 := n4_; have GE164 := n5_; have NB163_164 := n6_; have NB164_163 := n7_; clear n0_ n1_ n2_ n3_ n4_ n5_ n6_ n7_; clear hb hbox hg; have hnb46 := NB164_163.out; have hnc46 := NB163_164.out; have hcz47_0 : w45.cell? ⟨gb164, 0, none⟩ = some (.string (⟨#[]⟩ : ByteArray)) := (blk_cell BK164.out 0).trans rfl; have hcz47_1 : w45.cell? ⟨gb164, 1, none⟩ = some (.int .i64 0) := (blk_cell BK164.out 1).trans rfl; have hcz47_2 : w45.cell? ⟨gb164, 2, none⟩ = some (.int .i64 0) := (blk_cell BK164.out 2).trans rfl; have hfz47_0 := blk_frozen BK164.out 0; have hfz47_1 := blk_frozen BK164.out 1; have hfz47_2 := blk_frozen BK164.out 2; have hcz48_0 : w45.cell? ⟨gb163, 0, none⟩ = some (.int .i64 3) := (blk_cell BK163.out 0).trans rfl; have hcz48_1 : w45.cell? ⟨gb163, 1, none⟩ = some (.slice Ao42 y160.length co42) := (blk_cell BK163.out 1).trans rfl; have hfz48_0 := blk_frozen BK163.out 0; have hfz48_1 := blk_frozen BK163.out 1) | ((with_reducible refine gate_callee (f := 12) rfl ?_); refine goesL_ (some 20) rfl rfl Try.func12 (by kernel_rfl) rfl #[.agg #[.int .i64 3, .slice Ao42 y160.length co42], .agg #[.string (⟨#[108, 97, 98, 101, 108]⟩ : ByteArray), .int .i64 0, .int .i64 9]] rfl (by (try simp only [List.map_toArray, List.map_cons, List.map_nil]); first | done | rfl | (simp only [List.length_drop, List.length_take]; rfl)) ?_; (with_reducible refine (seq_Start.calls k 3 _ _ y160 (⟨#[108, 97, 98, 101, 108]⟩ : ByteArray) 0 9 t165 t168 _ ?side1 ?side2 A1.out).mono ?_); (case side1 => refine (Kd.R_reads' (e := 45) (base := w.heap.size) (ok := fun k_ => True) (n := y160.length) (c := co42) ?_).2.2; exact (by (with_reducible repeat (first | apply Kd.R_alloc | apply Kd.R_drewN | apply Kd.R_drew)); exact (Kd.R_mono (Kd.R_far (p := ⟨gb164, 2, none⟩) (Kd.R_far (p := ⟨gb164, 1, none⟩) (Kd.R_far (p := ⟨gb164, 0, none⟩) (Kd.R_types HO162.out BK164.out (by decide)) (fun _ hk => hk.2) (.string (⟨#[108, 97, 98, 101, 108]⟩ : ByteArray))) (fun _ hk => hk.2) (.int .i64 0)) (fun _ hk => hk.2) (.int .i64 9)) (fun _ h_ => h_.1)))); (case side2 => exact (Kd.R_reads' HO162.out).2.1); rintro e w49 ⟨v166, rfl, ho0, hb⟩; refine ⟨_, rfl, ?_⟩; have n0_ := Aside0.mk (Kd.R_below (by (with_reducible repeat (first | apply Kd.R_alloc | apply Kd.R_drewN | apply Kd.R_drew)); exact (Kd.R_mono (Kd.R_far (p := ⟨gb164, 2, none⟩) (Kd.R_far (p := ⟨gb164, 1, none⟩) (Kd.R_far (p := ⟨gb164, 0, none⟩) (Kd.R_types HO162.out BK164.out (by decide)) (fun _ hk => hk.2) (.string (⟨#[108, 97, 98, 101, 108]⟩ : ByteArray))) (fun _ hk => hk.2) (.int .i64 0)) (fun _ hk => hk.2) (.int .i64 9)) (fun _ h_ => h_.1))) hb); have n1_ := Aside0.mk (Kd.R_lower ho0 (below_size (kB HB.out))); have n2_ := Aside0.mk (blk_below (g := gb163) (o := .cells #[.int .i64 3, .slice Ao42 y160.length co42] 24 (0, 0)) (kF NB163_164.out BK163.out) hb); have n3_ := Aside0.mk (blk_below (g := gb164) (o := .cells #[.string (⟨#[108, 97, 98, 101, 108]⟩ : ByteArray), .int .i64 0, .int .i64 9] 26 (0, 0)) (by (with_reducible repeat (first | refine blk_drewN ?_ _ | refine blk_drew ?_ | refine blk_alloc ?_ _)); refine blk_put (cs := #[.string (⟨#[108, 97, 98, 101, 108]⟩ : ByteArray), .int .i64 0, .int .i64 0]) ?_ 2 _ rfl; refine blk_put (cs := #[.string (⟨#[108, 97, 98, 101, 108]⟩ : ByteArray), .int .i64 0, .int .i64 0]) ?_ 1 _ rfl; refine blk_put (cs := #[.string (⟨#[]⟩ : ByteArray), .int .i64 0, .int .i64 0]) ?_ 0 _ rfl; exact kA BK164.out) hb); have n4_ := Aside0.mk (below_step (kB HB.out) hb); clear HO162; clear BK163; clear BK164; clear HB; have HO162 := n0_; have HO167 := n1_; have BK163 := n2_; have BK164 := n3_; have HB := n4_; clear n0_ n1_ n2_ n3_ n4_; (try clear hb); (try clear hb2); (try clear hk); (try clear hi); (try clear ho0); have hcz50_0 : w49.cell? ⟨gb163, 0, none⟩ = some (.int .i64 3) := (blk_cell BK163.out 0).trans rfl; have hcz50_1 : w49.cell? ⟨gb163, 1, none⟩ = some (.slice Ao42 y160.length co42) := (blk_cell BK163.out 1).trans rfl; have hfz50_0 := blk_frozen BK163.out 0; have hfz50_1 := blk_frozen BK163.out 1; have hcz51_0 : w49.cell? ⟨gb164, 0, none⟩ = some (.string (⟨#[108, 97, 98, 101, 108]⟩ : ByteArray)) := (blk_cell BK164.out 0).trans rfl; have hcz51_1 : w49.cell? ⟨gb164, 1, none⟩ = some (.int .i64 0) := (blk_cell BK164.out 1).trans rfl; have hcz51_2 : w49.cell? ⟨gb164, 2, none⟩ = some (.int .i64 9) := (blk_cell BK164.out 2).trans rfl; have hfz51_0 := blk_frozen BK164.out 0; have hfz51_1 := blk_frozen BK164.out 1; have hfz51_2 := blk_frozen BK164.out 2; obtain ⟨Ao52, co52, eo52⟩ := Kd.R_slice HO167.out; subst eo52) | ((with_reducible refine gate_callee (f := 16) rfl ?_); refine goesL_ (some 27) rfl rfl Try.func16 (by kernel_rfl) rfl #[.agg #[.int .i64 3, .slice Ao42 y160.length co42], .agg #[.string (⟨#[108, 97, 98, 101, 108]⟩ : ByteArray), .int .i64 0, .int .i64 9], .int .i64 0, .slice Ao52 t165.length co52] rfl (by (try simp only [List.map_toArray, List.map_cons, List.map_nil]); first | done | rfl | (simp only [List.length_drop, List.length_take]; rfl)) ?_; (with_reducible refine (seq_Next.calls 3 _ _ y160 (⟨#[108, 97, 98, 101, 108]⟩ : ByteArray) 0 9 0 _ _ t165 t169 t172 t175 _ ?side1 ?side2 ?side3 ?side4 A2.out).mono ?_); (case side1 => repeat (first | exact (Kd.R_reads' HO162.out).2.2 | (with_reducible refine Kd.C_alloc ?_ _) | (with_reducible refine Kd.C_drewN ?_ _) | (with_reducible refine Kd.C_drew ?_))); (case side2 => exact (Kd.R_reads' HO162.out).2.1); (case side3 => repeat (first | exact (Kd.R_reads' HO167.out).2.2 | (with_reducible refine Kd.C_alloc ?_ _) | (with_reducible refine Kd.C_drewN ?_ _) | (with_reducible refine Kd.C_drew ?_))); (case side4 => exact (Kd.R_reads' HO167.out).2.1); rintro e w53 ⟨v170, v173, rfl, ho0, ho1, hb⟩; refine ⟨_, rfl, ?_⟩; have n0_ := Aside0.mk (Kd.R_below (kR HO162.out) hb); have n1_ := Aside0.mk (Kd.R_elder' (kR HO167.out) (Kd.R_base ho0) hb); have n2_ := Aside0.mk (Kd.R_lower (Kd.R_new' ho0 (Kd.R_lt (kR HO167.out))) (below_size (kB HB.out))); have n3_ := Aside0.mk (Kd.R_lower ho1 (below_size (kB HB.out))); have n4_ := Aside0.mk (blk_below (g := gb163) (o := .cells #[.int .i64 3, .slice Ao42 y160.length co42] 24 (0, 0)) (kA BK163.out) hb); have n5_ := Aside0.mk (blk_below (g := gb164) (o := .cells #[.string (⟨#[108, 97, 98, 101, 108]⟩ : ByteArray), .int .i64 0, .int .i64 9] 26 (0, 0)) (kA BK164.out) hb); have n6_ := Aside0.mk (below_step (kB HB.out) hb); clear HO162; clear HO167; clear BK163; clear BK164; clear HB; have HO162 := n0_; have HO167 := n1_; have HO171 := n2_; have HO174 := n3_; have BK163 := n4_; have BK164 := n5_; have HB := n6_; clear n0_ n1_ n2_ n3_ n4_ n5_ n6_; (try clear hb); (try clear hb2); (try clear hk); (try clear hi); (try clear ho0); (try clear ho1); have hcz54_0 : w53.cell? ⟨gb163, 0, none⟩ = some (.int .i64 3) := (blk_cell BK163.out 0).trans rfl; have hcz54_1 : w53.cell? ⟨gb163, 1, none⟩ = some (.slice Ao42 y160.length co42) := (blk_cell BK163.out 1).trans rfl; have hfz54_0 := blk_frozen BK163.out 0; have hfz54_1 := blk_frozen BK163.out 1; have hcz55_0 : w53.cell? ⟨gb164, 0, none⟩ = some (.string (⟨#[108, 97, 98, 101, 108]⟩ : ByteArray)) := (blk_cell BK164.out 0).trans rfl; have hcz55_1 : w53.cell? ⟨gb164, 1, none⟩ = some (.int .i64 0) := (blk_cell BK164.out 1).trans rfl; have hcz55_2 : w53.cell? ⟨gb164, 2, none⟩ = some (.int .i64 9) := (blk_cell BK164.out 2).trans rfl; have hfz55_0 := blk_frozen BK164.out 0; have hfz55_1 := blk_frozen BK164.out 1; have hfz55_2 := blk_frozen BK164.out 2) | ((with_reducible refine gate_callee (f := 14) rfl ?_); refine goesL_ (some 34) rfl rfl Try.func14 (by kernel_rfl) rfl #[.agg #[.int .i64 3, .slice Ao42 y160.length co42], .agg #[.string (⟨#[108, 97, 98, 101, 108]⟩ : ByteArray), .int .i64 0, .int .i64 9]] rfl (by (try simp only [List.map_toArray, List.map_cons, List.map_nil]); first | done | rfl | (simp only [List.length_drop, List.length_take]; rfl)) ?_; (with_reducible refine (seq_Run.calls k 3 _ _ y160 (⟨#[108, 97, 98, 101, 108]⟩ : ByteArray) 0 9 t176 t179 t180 _ ?side1 ?side2 A3.out).mono ?_); (case side1 => repeat (first | exact (Kd.R_reads' HO162.out).2.2 | (with_reducible refine Kd.C_alloc ?_ _) | (with_reducible refine Kd.C_drewN ?_ _) | (with_reducible refine Kd.C_drew ?_))); (case side2 => exact (Kd.R_reads' HO162.out).2.1); rintro e w56 ⟨v177, rfl, ho0, hb⟩; refine ⟨_, rfl, ?_⟩; have n0_ := Aside0.mk (Kd.R_below (kR HO162.out) hb); have n1_ := Aside0.mk (Kd.R_below (kR HO167.out) hb); have n2_ := Aside0.mk (Kd.R_below (kR HO171.out) hb); have n3_ := Aside0.mk (Kd.R_below (kR HO174.out) hb); have n4_ := Aside0.mk (Kd.R_lower ho0 (below_size (kB HB.out))); have n5_ := Aside0.mk (blk_below (g := gb163) (o := .cells #[.int .i64 3, .slice Ao42 y160.length co42] 24 (0, 0)) (kA BK163.out) hb); have n6_ := Aside0.mk (blk_below (g := gb164) (o := .cells #[.string (⟨#[108, 97, 98, 101, 108]⟩ : ByteArray), .int .i64 0, .int .i64 9] 26 (0, 0)) (kA BK164.out) hb); have n7_ := Aside0.mk (below_step (kB HB.out) hb); clear HO162; clear HO167; clear HO171; clear HO174; clear BK163; clear BK164; clear HB; have HO162 := n0_; have HO167 := n1_; have HO171 := n2_; have HO174 := n3_; have HO178 := n4_; have BK163 := n5_; have BK164 := n6_; have HB := n7_; clear n0_ n1_ n2_ n3_ n4_ n5_ n6_ n7_; (try clear hb); (try clear hb2); (try clear hk); (try clear hi); (try clear ho0); obtain ⟨Ao57, co57, eo57⟩ := Kd.R_slice HO171.out; subst eo57; obtain ⟨Ao58, co58, eo58⟩ := Kd.R_slice HO174.out; subst eo58; have p181 : 0 ≤ (1 : Int) := (by omega); have q181 : 1 < (t169.length : Int) := of_decide_eq_true (by first | (with_reducible assumption) | assumption); obtain ⟨ad181, e181, hx181_0, hx181_1, hx181_2, hx181_3, hx181_4⟩ := at_T50 (Kd.R_reads' HO171.out).2.2 1 p181 q181; (try rw [← Nbq10.out] at hx181_2); (try rw [← Nbq10.out] at hx181_3); cases e181; (try simp only [show (1 : Int).toNat = 1 from rfl, Nat.reduceMul, Nat.reduceEqDiff, Go.Addr.add, ↓reduceIte] at hx181_0); (try simp only [show (1 : Int).toNat = 1 from rfl, Nat.reduceMul, Nat.reduceEqDiff, Go.Addr.add, ↓reduceIte] at hx181_1); (try simp only [show (1 : Int).toNat = 1 from rfl, Nat.reduceMul, Nat.reduceEqDiff, Go.Addr.add, ↓reduceIte] at hx181_2); (try simp only [show (1 : Int).toNat = 1 from rfl, Nat.reduceMul, Nat.reduceEqDiff, Go.Addr.add, ↓reduceIte] at hx181_3); (try simp only [show (1 : Int).toNat = 1 from rfl, Nat.reduceMul, Nat.reduceEqDiff, Go.Addr.add, ↓reduceIte] at hx181_4); have qi181 : (1 < t169.length) = True := eq_true (by omega); (try rw [show ((1 : Int)).toNat = 1 from rfl] at hx181_0); (try rw [show 1 * 5 = 5 from rfl] at hx181_0); (try rw [show ((1 : Int)).toNat = 1 from rfl] at hx181_1); (try rw [show 1 * 5 = 5 from rfl] at hx181_1); (try rw [show ((1 : Int)).toNat = 1 from rfl] at hx181_2); (try rw [show 1 * 5 = 5 from rfl] at hx181_2); (try rw [show ((1 : Int)).toNat = 1 from rfl] at hx181_3); (try rw [show 1 * 5 = 5 from rfl] at hx181_3); (try rw [show ((1 : Int)).toNat = 1 from rfl] at hx181_4); (try rw [show 1 * 5 = 5 from rfl] at hx181_4); replace p181 := eq_true p181; replace q181 := eq_true q181) | (go_at_call 15; (with_reducible refine (seq_Quiet.calls _ _ t169 false _ ?side1 ?side2 A12.out).mono ?_); (case side1 => repeat (first | exact (Kd.R_reads' HO171.out).2.2 | (with_reducible refine Kd.C_alloc ?_ _) | (with_reducible refine Kd.C_drewN ?_ _) | (with_reducible refine Kd.C_drew ?_))); (case side2 => exact (Kd.R_reads' HO171.out).2.1); rintro e w59 ⟨rfl, hb⟩; have n0_ := Aside0.mk (Kd.R_below (kR HO162.out) hb); have n1_ := Aside0.mk (Kd.R_below (kR HO167.out) hb); have n2_ := Aside0.mk (Kd.R_below (kR HO171.out) hb); have n3_ := Aside0.mk (Kd.R_below (kR HO174.out) hb); have n4_ := Aside0.mk (Kd.R_below (kR HO178.out) hb); have n5_ := Aside0.mk (blk_below (g := gb163) (o := .cells #[.int .i64 3, .slice Ao42 y160.length co42] 24 (0, 0)) (kA BK163.out) hb); have n6_ := Aside0.mk (blk_below (g := gb164) (o := .cells #[.string (⟨#[108, 97, 98, 101, 108]⟩ : ByteArray), .int .i64 0, .int .i64 9] 26 (0, 0)) (kA BK164.out) hb); have n7_ := Aside0.mk (below_step (kB HB.out) hb); clear HO162; clear HO167; clear HO171; clear HO174; clear HO178; clear BK163; clear BK164; clear HB; have HO162 := n0_; have HO167 := n1_; have HO171 := n2_; have HO174 := n3_; have HO178 := n4_; have BK163 := n5_; have BK164 := n6_; have HB := n7_; clear n0_ n1_ n2_ n3_ n4_ n5_ n6_ n7_; (try clear hb); (try clear hb2); (try clear hk); (try clear hi)) | ((with_reducible refine gate_dst (N := 72) rfl ?_); (try (refine gate_guard (by rfl) ?_; dsimp only)); refine Kd.R_lit (Kd.int .i64) _ 2 ?hg (N := 72) ?hd (xs := ([0, 0, 0] : List Int)) (inner := [.int .i64 0, .int .i64 0, .int .i64 0]) (ok := fun _ => True) (okp := fun _ => True) ?hr ?hp (fun _ hk => hk) trivial (Below.refl _ _) (Nat.le_refl _) (by simp) ?_; (case hd => rfl); (case hg => rfl); (case hr => first | (go_simp; done) | (go_simp; rfl)); (case hp => exact (Reps.one (show Kd.M (Kd.int .i64) _ _ _ 0 [.int .i64 0] from rfl) (Reps.one (show Kd.M (Kd.int .i64) _ _ _ 0 [.int .i64 0] from rfl) (Reps.one (show Kd.M (Kd.int .i64) _ _ _ 0 [.int .i64 0] from rfl) (Reps.none _ _))))); intro v184 w60 ho61 hb hg_ hnew_; clear hg_ hnew_; (first | rw [← Ny183.out] at ho61 | (simp only [Int.reduceToNat] at ho61; rw [← Ny183.out] at ho61)); have n0_ := Aside0.mk (Kd.R_below (kR HO162.out) hb); have n1_ := Aside0.mk (Kd.R_below (kR HO167.out) hb); have n2_ := Aside0.mk (Kd.R_below (kR HO171.out) hb); have n3_ := Aside0.mk (Kd.R_below (kR HO174.out) hb); have n4_ := Aside0.mk (Kd.R_elder' (kR HO178.out) (Kd.R_base ho61) hb); have n5_ := Aside0.mk (Kd.R_lower (Kd.R_new' ho61 (Kd.R_lt (kR HO178.out))) (below_size (kB HB.out))); have n6_ := Aside0.mk (blk_below (g := gb163) (o := .cells #[.int .i64 3, .slice Ao42 y160.length co42] 24 (0, 0)) (kA BK163.out) hb); have n7_ := Aside0.mk (blk_below (g := gb164) (o := .cells #[.string (⟨#[108, 97, 98, 101, 108]⟩ : ByteArray), .int .i64 0, .int .i64 9] 26 (0, 0)) (kA BK164.out) hb); have n8_ := Aside0.mk (below_step (kB HB.out) hb); clear HO162; clear HO167; clear HO171; clear HO174; clear HO178; clear BK163; clear BK164; clear HB; have HO162 := n0_; have HO167 := n1_; have HO171 := n2_; have HO174 := n3_; have HO178 := n4_; have HO185 := n5_; have BK163 := n6_; have BK164 := n7_; have HB := n8_; clear n0_ n1_ n2_ n3_ n4_ n5_ n6_ n7_ n8_; clear hb ho61; obtain ⟨Ao62, co62, eo62⟩ := Kd.R_slice HO178.out; subst eo62; obtain ⟨Ao63, co63, eo63⟩ := Kd.R_slice HO185.out; subst eo63) | (go_at_call 17; (with_reducible refine (modillionref09_Row.calls k _ _ t176 _ _ y183 true _ ?side1 ?side2 ?side3 ?side4 A34.out).mono ?_); (case side1 => repeat (first | exact (Kd.R_reads' HO178.out).2.2 | (with_reducible refine Kd.C_alloc ?_ _) | (with_reducible refine Kd.C_drewN ?_ _) | (with_reducible refine Kd.C_drew ?_))); (case side2 => exact (Kd.R_reads' HO178.out).2.1); (case side3 => repeat (first | exact (Kd.R_reads' HO185.out).2.2 | (with_reducible refine Kd.C_alloc ?_ _) | (with_reducible refine Kd.C_drewN ?_ _) | (with_reducible refine Kd.C_drew ?_))); (case side4 => exact (Kd.R_reads' HO185.out).2.1); rintro e w' ⟨rfl, ⟨nd, rfl⟩⟩; (try clear A34); (try clear A34)) | (go_at_call 18; (with_reducible refine (seq_Values.calls k _ _ t165 t187 _ ?side1 ?side2 A38.out).mono ?_); (case side1 => repeat (first | exact (Kd.R_reads' HO167.out).2.2 | (with_reducible refine Kd.C_alloc ?_ _) | (with_reducible refine Kd.C_drewN ?_ _) | (with_reducible refine Kd.C_drew ?_))); (case side2 => exact (Kd.R_reads' HO167.out).2.1); rintro e w64 ⟨v188, rfl, ho0, hb⟩; have n0_ := Aside0.mk (Kd.R_below (kR HO162.out) hb); have n1_ := Aside0.mk (Kd.R_below (kR HO167.out) hb); have n2_ := Aside0.mk (Kd.R_below (kR HO171.out) hb); have n3_ := Aside0.mk (Kd.R_below (kR HO174.out) hb); have n4_ := Aside0.mk (Kd.R_elder' (kR HO178.out) (Kd.R_base ho0) hb); have n5_ := Aside0.mk (Kd.R_elder' (kR HO185.out) (Kd.R_base ho0) hb); have n6_ := Aside0.mk (Kd.R_lower (Kd.R_new' (Kd.R_new' ho0 (Kd.R_lt (kR HO178.out))) (Kd.R_lt (kR HO185.out))) (below_size (kB HB.out))); have n7_ := Aside0.mk (blk_below (g := gb163) (o := .cells #[.int .i64 3, .slice Ao42 y160.length co42] 24 (0, 0)) (kA BK163.out) hb); have n8_ := Aside0.mk (blk_below (g := gb164) (o := .cells #[.string (⟨#[108, 97, 98, 101, 108]⟩ : ByteArray), .int .i64 0, .int .i64 9] 26 (0, 0)) (kA BK164.out) hb); have n9_ := Aside0.mk (below_step (kB HB.out) hb); clear HO162; clear HO167; clear HO171; clear HO174; clear HO178; clear HO185; clear BK163; clear BK164; clear HB; have HO162 := n0_; have HO167 := n1_; have HO171 := n2_; have HO174 := n3_; have HO178 := n4_; have HO185 := n5_; have HO189 := n6_; have BK163 := n7_; have BK164 := n8_; have HB := n9_; clear n0_ n1_ n2_ n3_ n4_ n5_ n6_ n7_ n8_ n9_; (try clear hb); (try clear hb2); (try clear hk); (try clear hi); (try clear ho0)) | ((with_reducible refine gate_dst (N := 86) rfl ?_); (try (refine gate_guard (by rfl) ?_; dsimp only)); refine Kd.R_lit (Kd.int .i64) _ 2 ?hg (N := 86) ?hd (xs := ([0, 1, 2] : List Int)) (inner := [.int .i64 0, .int .i64 1, .int .i64 2]) (ok := fun _ => True) (okp := fun _ => True) ?hr ?hp (fun _ hk => hk) trivial (Below.refl _ _) (Nat.le_refl _) (by simp) ?_; (case hd => rfl); (case hg => rfl); (case hr => first | (go_simp; done) | (go_simp; rfl)); (case hp => exact (Reps.one (show Kd.M (Kd.int .i64) _ _ _ 0 [.int .i64 0] from rfl) (Reps.one (show Kd.M (Kd.int .i64) _ _ _ 1 [.int .i64 1] from rfl) (Reps.one (show Kd.M (Kd.int .i64) _ _ _ 2 [.int .i64 2] from rfl) (Reps.none _ _))))); intro v191 w65 ho66 hb hg_ hnew_; clear hg_ hnew_; (first | rw [← Ny190.out] at ho66 | (simp only [Int.reduceToNat] at ho66; rw [← Ny190.out] at ho66)); have n0_ := Aside0.mk (Kd.R_below (kR HO162.out) hb); have n1_ := Aside0.mk (Kd.R_below (kR HO167.out) hb); have n2_ := Aside0.mk (Kd.R_below (kR HO171.out) hb); have n3_ := Aside0.mk (Kd.R_below (kR HO174.out) hb); have n4_ := Aside0.mk (Kd.R_elder' (kR HO178.out) (Kd.R_base ho66) hb); have n5_ := Aside0.mk (Kd.R_elder' (kR HO185.out) (Kd.R_base ho66) hb); have n6_ := Aside0.mk (Kd.R_elder' (kR HO189.out) (Kd.R_base ho66) hb); have n7_ := Aside0.mk (Kd.R_lower (Kd.R_new' (Kd.R_new' (Kd.R_new' ho66 (Kd.R_lt (kR HO178.out))) (Kd.R_lt (kR HO185.out))) (Kd.R_lt (kR HO189.out))) (below_size (kB HB.out))); have n8_ := Aside0.mk (blk_below (g := gb163) (o := .cells #[.int .i64 3, .slice Ao42 y160.length co42] 24 (0, 0)) (kA BK163.out) hb); have n9_ := Aside0.mk (blk_below (g := gb164) (o := .cells #[.string (⟨#[108, 97, 98, 101, 108]⟩ : ByteArray), .int .i64 0, .int .i64 9] 26 (0, 0)) (kA BK164.out) hb); have n10_ := Aside0.mk (below_step (kB HB.out) hb); clear HO162; clear HO167; clear HO171; clear HO174; clear HO178; clear HO185; clear HO189; clear BK163; clear BK164; clear HB; have HO162 := n0_; have HO167 := n1_; have HO171 := n2_; have HO174 := n3_; have HO178 := n4_; have HO185 := n5_; have HO189 := n6_; have HO192 := n7_; have BK163 := n8_; have BK164 := n9_; have HB := n10_; clear n0_ n1_ n2_ n3_ n4_ n5_ n6_ n7_ n8_ n9_ n10_; clear hb ho66; obtain ⟨Ao67, co67, eo67⟩ := Kd.R_slice HO189.out; subst eo67; obtain ⟨Ao68, co68, eo68⟩ := Kd.R_slice HO192.out; subst eo68) | (go_at_call 17; (with_reducible refine (modillionref09_Row.calls k _ _ t187 _ _ y190 t193 _ ?side1 ?side2 ?side3 ?side4 A39.out).mono ?_); (case side1 => repeat (first | exact (Kd.R_reads' HO189.out).2.2 | (with_reducible refine Kd.C_alloc ?_ _) | (with_reducible refine Kd.C_drewN ?_ _) | (with_reducible refine Kd.C_drew ?_))); (case side2 => exact (Kd.R_reads' HO189.out).2.1); (case side3 => repeat (first | exact (Kd.R_reads' HO192.out).2.2 | (with_reducible refine Kd.C_alloc ?_ _) | (with_reducible refine Kd.C_drewN ?_ _) | (with_reducible refine Kd.C_drew ?_))); (case side4 => exact (Kd.R_reads' HO192.out).2.1); rintro e w' ⟨rfl, ⟨nd, rfl⟩⟩; (try clear A39); (try clear A39)))
            go_ret
            exact ⟨by first | rfl | (simp [errW_none, errW_some] <;> rfl) | (simp [*, errW_none, errW_some] <;> rfl), by exact kB HB.out⟩
           ·rw [if_neg c37] at H; cases H
          ·rw [if_neg c36] at H; cases H
         ·rw [if_neg c35] at H; cases H
       ·rw [if_neg c11] at H; cases H
      ·rw [if_neg c9] at H; cases H
     ·rw [if_neg c8] at H; cases H
    ·rw [if_neg c7] at H; cases H
   ·rw [if_neg c6] at H; cases H
  ·rw [if_neg c5] at H; cases H
 ·rw [if_neg c4] at H; cases H
end

end Go.Proofs.Ytpndhkeoljoapaa.P
