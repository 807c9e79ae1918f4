/- What these Go functions compute, as Lean functions, and that they do. No condition. -/
import Derived.Test.YtpndhkeoljoapaaGreatPx0
import Derived.Test.YtpndhkeoljoapaaGreatPx4
namespace Go.Proofs.YtpndhkeoljoapaaGreat.P
open Go.RowKit Go.Proofs.YtpndhkeoljoapaaGreatW.PrintWords Go.Proofs.YtpndhkeoljoapaaGreatW.PrintLast Go.Proofs.YtpndhkeoljoapaaGreatW.PrintMore
attribute [local go_sem] max2_int min2_int max_two min_two max_three min_three max_four min_four   -- for this text's walks alone
set_option linter.unusedVariables false
set_option linter.unusedSimpArgs false
set_option linter.unnecessarySimpa false
theorem iteS11 {α : Type} {c : Prop} [Decidable c] {a : Option α} {r : α} (h : (if c then a else none) = some r) : c ∧ a = some r := by
 by_cases hc : c
 ·rw [if_pos hc] at h; exact ⟨hc, h⟩
 ·rw [if_neg hc] at h; cases h

/-! ### modillionref09_Row: function 13 -/
def modillionref09_Row.l0 : Nat → List Int → List Int → Int → Option (Bool)
 | 0, _, _, _ => none
 | k + 1, x0, x1, x5 => if x5 < (x0.length : Int) then (if 0 ≤ x5 then (if x5 < (x1.length : Int) then (if (rd x0 x5) = (rd x1 x5) then (modillionref09_Row.l0 k x0 x1 (wrap64 (x5 + 1))) else (some false)) else (none)) else (none)) else (some true)
def modillionref09_Row.f (k : Nat) (l0 : List Int) (l1 : List Int) : Option (Bool) := if (l0.length : Int) = (l1.length : Int) then (modillionref09_Row.l0 k l0 l1 0) else (some false)
theorem modillionref09_Row.mono_l : ∀ k, (∀ y0 y1 y2, LeO (modillionref09_Row.l0 k y0 y1 y2) (modillionref09_Row.l0 (k + 1) y0 y1 y2))
 | 0 => fun _ _ _ r h => by simp [modillionref09_Row.l0] at h
 | k + 1 => by
  have ih0 := modillionref09_Row.mono_l k
  ·intro y0 y1 y2
   unfold modillionref09_Row.l0
   repeat' first
   | (with_reducible exact ih0 _ _ _)
   | (with_reducible exact LeO.refl _)
   | (with_reducible exact LeO.none _)
   | (with_reducible refine LeO.ite ?_ ?_)
   | (with_reducible refine LeO.bind ?_ (fun _ => ?_))
   | exact ih0 _ _ _
   | exact LeO.none _
   | refine LeO.ite ?_ ?_
   | refine LeO.bind ?_ (fun _ => ?_)
theorem modillionref09_Row.mono : ∀ a0 a1 k, LeO (modillionref09_Row.f k a0 a1) (modillionref09_Row.f (k + 1) a0 a1) := by
 intro a0 a1 k
 have ih0 := modillionref09_Row.mono_l k
 unfold modillionref09_Row.f
 repeat' first
   | (with_reducible exact ih0 _ _ _)
   | (with_reducible exact LeO.refl _)
   | (with_reducible exact LeO.none _)
   | (with_reducible refine LeO.ite ?_ ?_)
   | (with_reducible refine LeO.bind ?_ (fun _ => ?_))
   | exact ih0 _ _ _
   | exact LeO.none _
   | refine LeO.ite ?_ ?_
   | refine LeO.bind ?_ (fun _ => ?_)
set_option maxHeartbeats 8000000 in
set_option maxRecDepth 100000 in
theorem modillionref09_Row.calls (k : Nat) (A0 : Option Addr) (c0 : Nat) (l0 : List Int) (A1 : Option Addr) (c1 : Nat) (l1 : List Int) (r : Bool) (w : World) (hr0 : Kd.C (Kd.int .i64) w A0 l0.length l0) (hc0 : l0.length ≤ c0) (hr1 : Kd.C (Kd.int .i64) w A1 l1.length l1) (hc1 : l1.length ≤ c1) (h : modillionref09_Row.f k l0 l1 = some r) :
  Calls Tryz.prog 13 #[.slice A0 l0.length c0, .slice A1 l1.length c1] w fun e w' => e = .returned (.bool r) ∧ Drawn0 w w' := by
 have HR0 := Aside0.mk hr0
 have HC0 := Aside0.mk hc0
 clear hr0 hc0
 have HR1 := Aside0.mk hr1
 have HC1 := Aside0.mk hc1
 clear hr1 hc1
 have H : (if (l0.length : Int) = (l1.length : Int) then (modillionref09_Row.l0 k l0 l1 0) else (some false)) = some r := h
 clear h
 by_cases c3 : (l0.length : Int) = (l1.length : Int)
 ·rw [if_pos c3] at H
  have c3b0 : ((l0.length : Int) == (l1.length : Int)) = true := beq_iff_eq.mpr c3
  have c3b1 : ((l0.length : Int) != (l1.length : Int)) = false := bne_eq_false_iff_eq.mpr c3
  have c3b2 : (l0.length == l1.length) = true := by first | simpa using c3 | (simp at c3 ⊢; omega)
  clear c3
  have H' := Aside0.mk H
  clear H
  go_enter Tryz.func13, Tryz.ntmps13
  go_wp2
  repeat (go_quiet (fail); try go_wp2)
  go_loopg [5] k (fun kq v5 w' => ∃ (x5_1 : Int), v5 = .int .i64 x5_1 ∧ Aside0 (modillionref09_Row.l0 kq l0 l1 x5_1 = some r) ∧ Aside0 (kq ≤ k) ∧ Drawn0 w w')
  case atStart => exact ⟨(0), (by first | rfl | (simp; done) | (simp [*]; done)), H', ⟨Nat.le_refl _⟩, by repeat (first | exact Drawn0.refl _ | apply Drawn0.step)⟩
  case round =>
   clear H'
   try clear c1
   try clear p2
   try clear c3
   try clear c3b0
   try clear c3b1
   try clear c3b2
   obtain ⟨x5_1, rfl, HA, HK1, ⟨m1, rfl⟩⟩ := hrel
   cases gk with
   | zero => exact absurd HA.out (by simp [modillionref09_Row.l0])
   | succ k1 =>
    have H := HA.out
    clear HA
    simp only [modillionref09_Row.l0] at H
    by_cases c4 : x5_1 < (l0.length : Int)
    ·rw [if_pos c4] at H
     have c4b0 : decide (x5_1 < (l0.length : Int)) = true := decide_eq_true c4
     clear c4
     obtain ⟨c5, H⟩ := iteS11 H
     have c5b0 : decide (0 ≤ x5_1) = true := decide_eq_true c5
     clear c5
     obtain ⟨c6, H⟩ := iteS11 H
     have c6b0 : decide (x5_1 < (l1.length : Int)) = true := decide_eq_true c6
     clear c6
     by_cases c7 : (rd l0 x5_1) = (rd l1 x5_1)
     ·rw [if_pos c7] at H
      have c7b0 : ((rd l0 x5_1) == (rd l1 x5_1)) = true := beq_iff_eq.mpr c7
      have c7b1 : ((rd l0 x5_1) != (rd l1 x5_1)) = false := bne_eq_false_iff_eq.mpr c7
      clear c7
      have H' := Aside0.mk H
      clear H
      have p125 : 0 ≤ (x5_1 : Int) := of_decide_eq_true (by first | (with_reducible assumption) | assumption)
      have q125 : x5_1 < (l0.length : Int) := of_decide_eq_true (by first | (with_reducible assumption) | assumption)
      obtain ⟨ad125, e125, hx125_0⟩ := Kd.at_int HR0.out x5_1 p125 q125
      cases e125
      replace p125 := eq_true p125
      replace q125 := eq_true q125
      have p126 : 0 ≤ (x5_1 : Int) := of_decide_eq_true (by first | (with_reducible assumption) | assumption)
      have q126 : x5_1 < (l1.length : Int) := of_decide_eq_true (by first | (with_reducible assumption) | assumption)
      obtain ⟨ad126, e126, hx126_0⟩ := Kd.at_int HR1.out x5_1 p126 q126
      cases e126
      replace p126 := eq_true p126
      replace q126 := eq_true q126
      go_wp2
      repeat (go_quiet (fail); try go_wp2)
      go_roundg k1
      case measure => have := HK1.out; omega
      case rel => exact ⟨(wrap64 (x5_1 + 1)), (by first | rfl | (simp; done) | (simp [*]; done)), H', ⟨by have := HK1.out; omega⟩, by repeat (first | exact Drawn0.refl _ | apply Drawn0.step)⟩
     ·rw [if_neg c7] at H
      have c7b0 : ((rd l0 x5_1) == (rd l1 x5_1)) = false := beq_eq_false_iff_ne.mpr c7
      have c7b1 : ((rd l0 x5_1) != (rd l1 x5_1)) = true := bne_iff_ne.mpr c7
      obtain rfl := Option.some.inj H
      have p125 : 0 ≤ (x5_1 : Int) := of_decide_eq_true (by first | (with_reducible assumption) | assumption)
      have q125 : x5_1 < (l0.length : Int) := of_decide_eq_true (by first | (with_reducible assumption) | assumption)
      obtain ⟨ad125, e125, hx125_0⟩ := Kd.at_int HR0.out x5_1 p125 q125
      cases e125
      replace p125 := eq_true p125
      replace q125 := eq_true q125
      have p126 : 0 ≤ (x5_1 : Int) := of_decide_eq_true (by first | (with_reducible assumption) | assumption)
      have q126 : x5_1 < (l1.length : Int) := of_decide_eq_true (by first | (with_reducible assumption) | assumption)
      obtain ⟨ad126, e126, hx126_0⟩ := Kd.at_int HR1.out x5_1 p126 q126
      cases e126
      replace p126 := eq_true p126
      replace q126 := eq_true q126
      go_wp2
      repeat (go_quiet (fail); try go_wp2)
      go_ret
      exact ⟨by first | rfl | (simp; done) | (simp [*]; done), by repeat (first | exact Drawn0.refl _ | apply Drawn0.step)⟩
    ·rw [if_neg c4] at H
     have c4b0 : decide (x5_1 < (l0.length : Int)) = false := decide_eq_false c4
     clear c4
     obtain rfl := Option.some.inj H
     go_wp2
     repeat (go_quiet (fail); try go_wp2)
     go_ret
     exact ⟨by first | rfl | (simp; done) | (simp [*]; done), by repeat (first | exact Drawn0.refl _ | apply Drawn0.step)⟩
 ·rw [if_neg c3] at H
  have c3b0 : ((l0.length : Int) == (l1.length : Int)) = false := beq_eq_false_iff_ne.mpr c3
  have c3b1 : ((l0.length : Int) != (l1.length : Int)) = true := bne_iff_ne.mpr c3
  have c3b2 : (l0.length == l1.length) = false := by first | simpa using c3 | (simp at c3 ⊢; omega)
  obtain rfl := Option.some.inj H
  go_enter Tryz.func13, Tryz.ntmps13
  go_wp2
  repeat (go_quiet (fail); try go_wp2)
  go_ret
  exact ⟨by first | rfl | (simp; done) | (simp [*]; done), by repeat (first | exact Drawn0.refl _ | apply Drawn0.step)⟩

/-! ### seq_Values: function 14 -/
def seq_Values.l0 : Nat → List Int → List (S50) → Int → Int → Option (List Int)
 | 0, _, _, _, _ => none
 | k + 1, x3, x9, x10, x11 => if x11 < x10 then (if 0 ≤ x11 then (if x11 < (x9.length : Int) then (if x11 < (x3.length : Int) then (seq_Values.l0 k (x3.set (x11 : Int).toNat ((rd_T50 x9 x11).f1)) x9 x10 (wrap64 (x11 + 1))) else (none)) else (none)) else (none)) else (some x3)
def seq_Values.f (k : Nat) (l0 : List (S50)) : Option (List Int) := if 0 ≤ (l0.length : Int) then (if ((l0.length : Int) : Int).toNat ≤ 35184372088832 then (seq_Values.l0 k (List.replicate ((l0.length : Int) : Int).toNat 0) l0 (l0.length : Int) 0) else (none)) else (none)
theorem seq_Values.mono_l : ∀ k, (∀ y0 y1 y2 y3, LeO (seq_Values.l0 k y0 y1 y2 y3) (seq_Values.l0 (k + 1) y0 y1 y2 y3))
 | 0 => fun _ _ _ _ r h => by simp [seq_Values.l0] at h
 | k + 1 => by
  have ih0 := seq_Values.mono_l k
  ·intro y0 y1 y2 y3
   unfold seq_Values.l0
   repeat' first
   | (with_reducible exact ih0 _ _ _ _)
   | (with_reducible exact LeO.refl _)
   | (with_reducible exact LeO.none _)
   | (with_reducible refine LeO.ite ?_ ?_)
   | (with_reducible refine LeO.bind ?_ (fun _ => ?_))
   | exact ih0 _ _ _ _
   | exact LeO.none _
   | refine LeO.ite ?_ ?_
   | refine LeO.bind ?_ (fun _ => ?_)
theorem seq_Values.mono : ∀ a0 k, LeO (seq_Values.f k a0) (seq_Values.f (k + 1) a0) := by
 intro a0 k
 have ih0 := seq_Values.mono_l k
 unfold seq_Values.f
 repeat' first
   | (with_reducible exact ih0 _ _ _ _)
   | (with_reducible exact LeO.refl _)
   | (with_reducible exact LeO.none _)
   | (with_reducible refine LeO.ite ?_ ?_)
   | (with_reducible refine LeO.bind ?_ (fun _ => ?_))
   | exact ih0 _ _ _ _
   | exact LeO.none _
   | refine LeO.ite ?_ ?_
   | refine LeO.bind ?_ (fun _ => ?_)
set_option maxHeartbeats 8000000 in
set_option maxRecDepth 100000 in
theorem seq_Values.calls (k : Nat) (A0 : Option Addr) (c0 : Nat) (l0 : List (S50)) (r : List Int) (w : World) (hr0 : Kd.C k50 w A0 l0.length l0) (hc0 : l0.length ≤ c0) (h : seq_Values.f k l0 = some r) :
  Calls Tryz.prog 14 #[.slice A0 l0.length c0] w fun e w' => ∃ v0_ : Value, e = .returned (v0_) ∧ Kd.R (Kd.int .i64) 2 w' w.heap.size (fun _ => True) v0_ r ∧ Below w.heap.size w w' := by
 have hu50 := Tryz.underlying50
 have HR0 := Aside0.mk hr0
 have HC0 := Aside0.mk hc0
 clear hr0 hc0
 have HB := Aside0.mk (Below.refl w.heap.size w)
 have H : (if 0 ≤ (l0.length : Int) then (if ((l0.length : Int) : Int).toNat ≤ 35184372088832 then (seq_Values.l0 k (List.replicate ((l0.length : Int) : Int).toNat 0) l0 (l0.length : Int) 0) else (none)) else (none)) = some r := h
 clear h
 obtain ⟨c2, H⟩ := iteS11 H
 have c2b0 := eq_true c2
 have c2b1 := decide_eq_true c2
 clear c2
 obtain ⟨c3, H⟩ := iteS11 H
 have c3b0 := eq_true c3
 have c3b1 : decide (((l0.length : Int) : Int).toNat ≤ 35184372088832) = true := decide_eq_true c3
 clear c3
 obtain ⟨y127, hy127⟩ : ∃ y_ : List Int, y_ = (List.replicate ((l0.length : Int) : Int).toNat 0) := ⟨_, rfl⟩
 replace H : (seq_Values.l0 k y127 l0 (l0.length : Int) 0) = some r := by first | (rw [hy127]; with_reducible exact H) | (have H2_ := (Option.bind_some _ _).symm.trans H; rw [hy127]; with_reducible exact H2_) | (have H2_ := (Option.bind_some _ _).symm.trans H; with_reducible exact H2_) | with_reducible exact H | (rw [hy127]; exact H) | exact H
 have Ny127 := Aside0.mk hy127
 clear hy127
 have H' := Aside0.mk H
 clear H
 go_enter Tryz.func14, Tryz.ntmps14
 go_wp2_with (first | ((with_reducible refine gate_dst (N := 8) rfl ?_); refine Kd.R_make (Kd.int .i64) _ 2 rfl (N := 8) rfl 38 _ _ rfl (l0.length : Int) rfl rfl Tryz.underlying38 (.int .i64 0) 8 info2 rfl (by decide) (by omega) 0 (ok := fun _ => True) (okp := fun _ => True) rfl (fun _ hk => hk) trivial (of_decide_eq_true (by first | (with_reducible assumption) | assumption)) (Nat.le_trans (Nat.mul_le_mul_right _ (of_decide_eq_true (by first | (with_reducible assumption) | assumption) : (l0.length : Int).toNat ≤ 35184372088832)) (by omega)) (Below.refl _ _) (Nat.le_refl _) ?_; intro v128 w4 ho5 hb hg_ hnew_; clear hg_ hnew_; (first | rw [← Ny127.out] at ho5 | (simp only [Int.reduceToNat] at ho5; rw [← Ny127.out] at ho5)); have HO129 := lS ho5 HB; replace HB := bS HB hb; clear hb ho5))
 go_loopg [11] k (fun kq v11 w' => ∃ (x3_1 : List Int) (x11_1 : Int), v11 = .int .i64 x11_1 ∧ Aside0 (seq_Values.l0 kq x3_1 l0 (l0.length : Int) x11_1 = some r) ∧ Aside0 (kq ≤ k) ∧ Aside0 (Kd.R (Kd.int .i64) 2 w' w.heap.size (fun _ => True) v128 x3_1) ∧ Aside0 (Below w.heap.size w w'))
 case atStart => exact ⟨(y127), (0), (by first | rfl | (simp; done) | (simp [*]; done)), H', ⟨Nat.le_refl _⟩, ⟨kR HO129.out⟩, ⟨kB HB.out⟩⟩
 case round =>
  clear H'
  try clear c1
  try clear c2
  try clear c2b0
  try clear c2b1
  try clear p2
  try clear c3
  try clear c3b0
  try clear c3b1
  obtain ⟨x3_1, x11_1, rfl, HA, HK1, HO_3, HB⟩ := hrel
  cases gk with
  | zero => exact absurd HA.out (by simp [seq_Values.l0])
  | succ k1 =>
   have H := HA.out
   clear HA
   simp only [seq_Values.l0] at H
   by_cases c6 : x11_1 < (l0.length : Int)
   ·rw [if_pos c6] at H
    have c6b0 : decide (x11_1 < (l0.length : Int)) = true := decide_eq_true c6
    clear c6
    obtain ⟨c7, H⟩ := iteS11 H
    have c7b0 : decide (0 ≤ x11_1) = true := decide_eq_true c7
    clear c7
    obtain ⟨c8, H⟩ := iteS11 H
    have c8b0 := decide_eq_true c8
    clear c8
    obtain ⟨c9, H⟩ := iteS11 H
    have c9b0 := decide_eq_true c9
    clear c9
    obtain ⟨y132, hy132⟩ : ∃ y_ : List Int, y_ = (x3_1.set (x11_1 : Int).toNat ((rd_T50 l0 x11_1).f1)) := ⟨_, rfl⟩
    replace H : (seq_Values.l0 k1 y132 l0 (l0.length : Int) (wrap64 (x11_1 + 1))) = some r := by first | (rw [hy132]; with_reducible exact H) | (have H2_ := (Option.bind_some _ _).symm.trans H; rw [hy132]; with_reducible exact H2_) | (have H2_ := (Option.bind_some _ _).symm.trans H; with_reducible exact H2_) | with_reducible exact H | (rw [hy132]; exact H) | exact H
    have Ny132 := Aside0.mk hy132
    clear hy132
    have H' := Aside0.mk H
    clear H
    have p130 : 0 ≤ (x11_1 : Int) := of_decide_eq_true (by first | (with_reducible assumption) | assumption)
    have q130 : x11_1 < (l0.length : Int) := of_decide_eq_true (by first | (with_reducible assumption) | assumption)
    obtain ⟨ad130, e130, hx130_0, hx130_1, hx130_2, hx130_3, hx130_4⟩ := at_T50 HR0.out x11_1 p130 q130
    cases e130
    replace hx130_0 := (HB.out.cell (World.block_lt_of_cell? w _ hx130_0)).trans hx130_0
    replace hx130_1 := (HB.out.cell (World.block_lt_of_cell? w _ hx130_1)).trans hx130_1
    replace hx130_2 := (HB.out.cell (World.block_lt_of_cell? w _ hx130_2)).trans hx130_2
    replace hx130_3 := (HB.out.cell (World.block_lt_of_cell? w _ hx130_3)).trans hx130_3
    replace hx130_4 := (HB.out.cell (World.block_lt_of_cell? w _ hx130_4)).trans hx130_4
    replace p130 := eq_true p130
    replace q130 := eq_true q130
    go_wp2_with (first | ((with_reducible refine gate_dst (N := 5) rfl ?_); refine bE_ #[.int .i64 0, .int .i64 0, .bool false, .bool false, .int .i64 0] 50 ?_; intro gb131 hg w11 hbox hb; have BK131 := Aside0.mk hbox; have GW131 := gS hg HB; have GE131 := gS hg HB; replace HO_3 := rS HO_3 hb; replace HB := bS HB hb; clear hb hbox hg; obtain ⟨_, _, _, _, _, _, _, _, _, _⟩ := q5z w11 BK131.out) | ((with_reducible refine gate_store (t := 50) (p := 5) rfl ?_); refine store_event (t := 50) (p := 5) (v := ?vo_w13) (w1 := (((((w11.setCell ⟨gb131, 0, none⟩ (.int .i64 ((rd_T50 l0 x11_1).f0))).setCell ⟨gb131, 1, none⟩ (.int .i64 ((rd_T50 l0 x11_1).f1))).setCell ⟨gb131, 2, none⟩ (.bool ((rd_T50 l0 x11_1).f2))).setCell ⟨gb131, 3, none⟩ (.bool ((rd_T50 l0 x11_1).f3))).setCell ⟨gb131, 4, none⟩ (.int .i64 ((rd_T50 l0 x11_1).f4)))) ?hg ?ho ?hn ?hr ?_; (case ho => rfl); (case hg => rfl); (case hn => rfl); (case hr => first | (go_simp; done) | (go_simp; rfl)); intro w13 hw; have n0_ : Aside0 (Kd.R (Kd.int .i64) 2 w13 w.heap.size (fun _ => True) v128 x3_1) := ⟨(by rw [hw]; exact (by (with_reducible repeat (first | apply Kd.R_alloc | apply Kd.R_drewN | apply Kd.R_drew)); exact Kd.R_mono (Kd.R_far (p := ⟨gb131, 4, none⟩) (Kd.R_far (p := ⟨gb131, 3, none⟩) (Kd.R_far (p := ⟨gb131, 2, none⟩) (Kd.R_far (p := ⟨gb131, 1, none⟩) (Kd.R_far (p := ⟨gb131, 0, none⟩) (Kd.R_types HO_3.out BK131.out (by decide)) (fun _ hk => hk.2) (.int .i64 ((rd_T50 l0 x11_1).f0))) (fun _ hk => hk.2) (.int .i64 ((rd_T50 l0 x11_1).f1))) (fun _ hk => hk.2) (.bool ((rd_T50 l0 x11_1).f2))) (fun _ hk => hk.2) (.bool ((rd_T50 l0 x11_1).f3))) (fun _ hk => hk.2) (.int .i64 ((rd_T50 l0 x11_1).f4))) (fun _ hk => trivial)))⟩; have n1_ : Aside0 (w13.heap[gb131]? = some (.cells #[.int .i64 ((rd_T50 l0 x11_1).f0), .int .i64 ((rd_T50 l0 x11_1).f1), .bool ((rd_T50 l0 x11_1).f2), .bool ((rd_T50 l0 x11_1).f3), .int .i64 ((rd_T50 l0 x11_1).f4)] 50 (0, 0))) := ⟨(by rw [hw]; exact (by (with_reducible repeat (first | refine blk_drewN ?_ _ | refine blk_drew ?_ | refine blk_alloc ?_ _)); refine blk_put (cs := #[.int .i64 ((rd_T50 l0 x11_1).f0), .int .i64 ((rd_T50 l0 x11_1).f1), .bool ((rd_T50 l0 x11_1).f2), .bool ((rd_T50 l0 x11_1).f3), .int .i64 0]) ?_ 4 _ rfl; refine blk_put (cs := #[.int .i64 ((rd_T50 l0 x11_1).f0), .int .i64 ((rd_T50 l0 x11_1).f1), .bool ((rd_T50 l0 x11_1).f2), .bool false, .int .i64 0]) ?_ 3 _ rfl; refine blk_put (cs := #[.int .i64 ((rd_T50 l0 x11_1).f0), .int .i64 ((rd_T50 l0 x11_1).f1), .bool false, .bool false, .int .i64 0]) ?_ 2 _ rfl; refine blk_put (cs := #[.int .i64 ((rd_T50 l0 x11_1).f0), .int .i64 0, .bool false, .bool false, .int .i64 0]) ?_ 1 _ rfl; refine blk_put (cs := #[.int .i64 0, .int .i64 0, .bool false, .bool false, .int .i64 0]) ?_ 0 _ rfl; exact kA BK131.out))⟩; have n2_ : Aside0 (Below w.heap.size w w13) := ⟨(by rw [hw]; exact (kB HB.out))⟩; clear hw; clear HO_3; clear BK131; clear HB; have HO_3 := n0_; have BK131 := n1_; have HB := n2_; clear n0_ n1_ n2_; obtain ⟨_, _, _, _, _, _, _, _, _, _⟩ := q5z w13 BK131.out; have p10 : 0 ≤ (x11_1 : Int) := of_decide_eq_true (by first | (with_reducible assumption) | assumption); have q10 : (x11_1 : Int) < ((x3_1.length : Int) : Int) := of_decide_eq_true (by first | (with_reducible assumption) | assumption); obtain ⟨go10, co10, eo10, gb10, gl10, cl10, HG10⟩ := Kd.R_form HO_3.out (by omega); (first | cases eo10 | (injection eo10 with ea_ en_ ec_; (first | subst ea_ | (injection ea_ with ea_; subst ea_)); subst ec_; clear en_)); have GB10 := Aside0.mk gb10; have GG10 := Aside0.mk HG10; clear gb10 gl10 HG10; obtain ⟨hx10_0, hf10_0⟩ := Kd.R_celln 0 HO_3.out (x11_1 : Int) p10 q10; replace p10 := eq_true p10; replace q10 := eq_true q10; obtain ⟨hy15_, hz15_⟩ := Kd.R_celln 0 HO_3.out (x11_1 : Int) (of_decide_eq_true (by first | (with_reducible assumption) | assumption)) (of_decide_eq_true (by first | (with_reducible assumption) | assumption)); have HP15 := Kd.R_putg HO_3.out (x11_1 : Int) ((rd_T50 l0 x11_1).f1)) | ((with_reducible refine gate_store (t := 2) (p := 20) rfl ?_); refine store_event (t := 2) (p := 20) (v := ?vo_w16) (w1 := (w13.setCell ⟨go10, (x11_1 : Int).toNat, none⟩ (.int .i64 ((rd_T50 l0 x11_1).f1)))) ?hg ?ho ?hn ?hr ?_; (case ho => rfl); (case hg => rfl); (case hn => rfl); (case hr => first | (go_simp; done) | (go_simp; rfl)); intro w16 hw; have hg : w13.grownBy w16 (some go10) := (by rw [hw]; exact HP15.2); have hp_ : Kd.R (Kd.int .i64) 2 w16 w.heap.size (fun _ => True) (.slice (some ⟨go10, 0, none⟩) x3_1.length co10) y132 := (by rw [hw, Ny132.out]; exact HP15.1); clear HP15; replace BK131 := Aside0.mk (blk_grown (g := gb131) (o := .cells #[.int .i64 ((rd_T50 l0 x11_1).f0), .int .i64 ((rd_T50 l0 x11_1).f1), .bool ((rd_T50 l0 x11_1).f2), .bool ((rd_T50 l0 x11_1).f3), .int .i64 ((rd_T50 l0 x11_1).f4)] 50 (0, 0)) (kA BK131.out) hg (Kd.R_ne HO_3.out BK131.out (by decide))); replace HO_3 := Aside0.mk (hp_); replace HB := Aside0.mk ((by rw [hw]; exact below_set (HB.out) GB10.out : Below w.heap.size w w16)); clear hg hw hp_))
    go_roundg k1
    case measure => have := HK1.out; omega
    case rel => exact ⟨(y132), (wrap64 (x11_1 + 1)), (by first | rfl | (simp; done) | (simp [*]; done)), H', ⟨by have := HK1.out; omega⟩, ⟨kR HO_3.out⟩, ⟨kB HB.out⟩⟩
   ·rw [if_neg c6] at H
    have c6b0 : decide (x11_1 < (l0.length : Int)) = false := decide_eq_false c6
    clear c6
    obtain rfl := Option.some.inj H
    go_wp2
    go_ret
    exact ⟨_, by first | rfl | (simp [errW_none, errW_some] <;> rfl) | (simp [*, errW_none, errW_some] <;> rfl), by exact kR HO_3.out, by exact kB HB.out⟩

/-! ### prog_First: function 35 (given) -/
/-- A vertex's value at first. -/
def firstV (t : List UInt8) (source v : Int) : Int := if t = [109, 97, 120] then (37 * v + 11) % 64 else if t = [108, 97, 98, 101, 108] then v else if (t == [98, 102, 115] || t == [115, 115, 115, 112]) = true then (if v = source then 0 else -1) else if t = [114, 97, 110, 107] then 65536 else if t = [119, 97, 108, 107, 115] then 1 else 0
def prog_First.f (a0_0 : ByteArray) (a0_1 a0_2 a1 : Int) : Option (Int × Int × Bool × Bool × Int) := if 0 ≤ a1 ∧ a1 ≤ 1048576 then (prog_Known.f 20 a0_0).bind fun b => if b = true then some (a1, firstV a0_0.toList a0_1 a1, true, false, 0) else some (0, 0, false, false, 0) else none
/-- By which way a first value comes. -/
inductive FirstW (t : List UInt8) (source v val : Int) : Prop
 | max (ht : t = [109, 97, 120]) (hv : val = (37 * v + 11) % 64) : FirstW t source v val
 | label (ht : t = [108, 97, 98, 101, 108]) (hv : val = v) : FirstW t source v val
 | bfsAt (ht : t = [98, 102, 115]) (hs : v = source) (hv : val = 0) : FirstW t source v val
 | bfs (ht : t = [98, 102, 115]) (hs : ¬ v = source) (hv : val = (-1)) : FirstW t source v val
 | ssspAt (ht : t = [115, 115, 115, 112]) (hs : v = source) (hv : val = 0) : FirstW t source v val
 | sssp (ht : t = [115, 115, 115, 112]) (hs : ¬ v = source) (hv : val = (-1)) : FirstW t source v val
 | rank (ht : t = [114, 97, 110, 107]) (hv : val = 65536) : FirstW t source v val
 | walks (ht : t = [119, 97, 108, 107, 115]) (hv : val = 1) : FirstW t source v val
 | els (n0 : ¬ t = [109, 97, 120]) (n1 : ¬ t = [108, 97, 98, 101, 108]) (n2 : ¬ t = [98, 102, 115]) (n3 : ¬ t = [115, 115, 115, 112]) (n4 : ¬ t = [114, 97, 110, 107]) (n5 : ¬ t = [119, 97, 108, 107, 115]) (hv : val = 0) : FirstW t source v val
theorem firstW (t : List UInt8) (source v : Int) : FirstW t source v (firstV t source v) := by
 unfold firstV
 by_cases n0 : t = [109, 97, 120]
 ·rw [if_pos n0]; exact .max n0 rfl
 rw [if_neg n0]
 by_cases n1 : t = [108, 97, 98, 101, 108]
 ·rw [if_pos n1]; exact .label n1 rfl
 rw [if_neg n1]
 by_cases n2 : t = [98, 102, 115]
 ·rw [if_pos (by rw [n2]; rfl)]
  by_cases hs : v = source
  ·rw [if_pos hs]; exact .bfsAt n2 hs rfl
  ·rw [if_neg hs]; exact .bfs n2 hs rfl
 by_cases n3 : t = [115, 115, 115, 112]
 ·rw [if_pos (by rw [n3]; rfl)]
  by_cases hs : v = source
  ·rw [if_pos hs]; exact .ssspAt n3 hs rfl
  ·rw [if_neg hs]; exact .sssp n3 hs rfl
 rw [if_neg (by simp [beq_eq_false_iff_ne.mpr n2, beq_eq_false_iff_ne.mpr n3])]
 by_cases n4 : t = [114, 97, 110, 107]
 ·rw [if_pos n4]; exact .rank n4 rfl
 rw [if_neg n4]
 by_cases n5 : t = [119, 97, 108, 107, 115]
 ·rw [if_pos n5]; exact .walks n5 rfl
 rw [if_neg n5]
 exact .els n0 n1 n2 n3 n4 n5 rfl
section
open Go.Shelf Go.Proofs.YtpndhkeoljoapaaGreat.Bridge
set_option maxHeartbeats 16000000 in
set_option maxRecDepth 100000 in
theorem prog_First.w_unknown (tag : ByteArray) (source steps v : Int) (w : World) (HK : ∀ W, Calls Tryz.prog 40 #[.string tag] W fun e w' => e = .returned (.bool false) ∧ Below W.heap.size W w') :
  Calls Tryz.prog 35 #[.agg #[.string tag, .int .i64 source, .int .i64 steps], .int .i64 v] w fun e w' => e = .returned (.agg #[.int .i64 0, .int .i64 0, .bool false, .bool false, .int .i64 0]) ∧ Below w.heap.size w w' := by
 have hu1 := Tryz.underlying50
 have hu2 := Tryz.underlying26
 go_enter Tryz.func35, Tryz.ntmps35
 go_wp2_with (fail)
 refine (HK _).mono ?_
 rintro e w2 ⟨rfl, hb⟩
 have BK := Aside0.mk (blk_below (heap_alloc2_new _ _ _) hb)
 have hsz : Aside0 (w.heap.size + 2 ≤ w2.heap.size) := ⟨by have := hb.size; simp at this; omega⟩
 have HB2 : Aside0 (Below w.heap.size w w2) := ⟨by
  refine Below.trans ?_ (hb.mono ?_)
  ·repeat (first | exact Below.refl _ _ | apply below_alloc | apply pw_below_drewN)
  ·simp; omega⟩
 have j0 := (hb.cell (p := ⟨w.heap.size, 0, none⟩) (by simp; omega)).trans (show _ = some (.string tag) by first | (go_simp; done) | (go_simp; rfl))
 have j1 := (hb.cell (p := ⟨w.heap.size, 1, none⟩) (by simp; omega)).trans (show _ = some (.int .i64 source) by first | (go_simp; done) | (go_simp; rfl))
 obtain ⟨s0, s1, s2, s3, s4, f0, f1, f2, f3, f4⟩ := q5z w2 BK.out
 clear hb HK
 go_wp2
 refine bodyPost_ret (results_cell_row rfl _ _ (w.heap.size + 1) 50 #[.int .i64 0, .int .i64 0, .bool false, .bool false, .int .i64 0] (0, 0) _ rfl ?hg Tryz.underlying50 rfl (by kernel_rfl)) rfl ?_
 case hg => exact (blk_put (blk_put (blk_put (blk_put (blk_put BK.out 0 _ rfl) 1 _ rfl) 2 _ rfl) 3 _ rfl) 4 _ rfl)
 exact ⟨rfl, (below_set (below_set (below_set (below_set (below_set HB2.out (Nat.le_succ _)) (Nat.le_succ _)) (Nat.le_succ _)) (Nat.le_succ _)) (Nat.le_succ _))⟩
set_option maxHeartbeats 16000000 in
set_option maxRecDepth 100000 in
theorem prog_First.w_known (tag : ByteArray) (source steps v val : Int) (w : World) (HK : ∀ W, Calls Tryz.prog 40 #[.string tag] W fun e w' => e = .returned (.bool true) ∧ Below W.heap.size W w') (hw : FirstW tag.toList source v val) (h0 : 0 ≤ v ∧ v ≤ 1048576) :
  Calls Tryz.prog 35 #[.agg #[.string tag, .int .i64 source, .int .i64 steps], .int .i64 v] w fun e w' => e = .returned (.agg #[.int .i64 v, .int .i64 val, .bool true, .bool false, .int .i64 0]) ∧ Below w.heap.size w w' := by
 have hu1 := Tryz.underlying50
 have hu2 := Tryz.underlying26
 have e1 : wrap64 (37 * v) = 37 * v := by unfold wrap64; omega
 have e2 : wrap64 (37 * v + 11) = 37 * v + 11 := by unfold wrap64; omega
 have e3 : Int.tmod (37 * v + 11) 64 = (37 * v + 11) % 64 := Int.tmod_eq_emod_of_nonneg (by omega)
 have q0 : 0 ≤ 37 * v + 11 := by omega
 clear h0
 rcases hw with ⟨ht, hv⟩ | ⟨ht, hv⟩ | ⟨ht, hs, hv⟩ | ⟨ht, hs, hv⟩ | ⟨ht, hs, hv⟩ | ⟨ht, hs, hv⟩ | ⟨ht, hv⟩ | ⟨ht, hv⟩ | ⟨n0, n1, n2, n3, n4, n5, hv⟩
 all_goals
  (first | have t0 : (tag.toList == ([109, 97, 120] : List UInt8)) = true := by rw [ht]; rfl | have t0 : (tag.toList == ([109, 97, 120] : List UInt8)) = false := by rw [ht]; rfl | have t0 : (tag.toList == ([109, 97, 120] : List UInt8)) = false := beq_eq_false_iff_ne.mpr n0)
  (first | have t1 : (tag.toList == ([108, 97, 98, 101, 108] : List UInt8)) = true := by rw [ht]; rfl | have t1 : (tag.toList == ([108, 97, 98, 101, 108] : List UInt8)) = false := by rw [ht]; rfl | have t1 : (tag.toList == ([108, 97, 98, 101, 108] : List UInt8)) = false := beq_eq_false_iff_ne.mpr n1)
  (first | have t2 : (tag.toList == ([98, 102, 115] : List UInt8)) = true := by rw [ht]; rfl | have t2 : (tag.toList == ([98, 102, 115] : List UInt8)) = false := by rw [ht]; rfl | have t2 : (tag.toList == ([98, 102, 115] : List UInt8)) = false := beq_eq_false_iff_ne.mpr n2)
  (first | have t3 : (tag.toList == ([115, 115, 115, 112] : List UInt8)) = true := by rw [ht]; rfl | have t3 : (tag.toList == ([115, 115, 115, 112] : List UInt8)) = false := by rw [ht]; rfl | have t3 : (tag.toList == ([115, 115, 115, 112] : List UInt8)) = false := beq_eq_false_iff_ne.mpr n3)
  (first | have t4 : (tag.toList == ([114, 97, 110, 107] : List UInt8)) = true := by rw [ht]; rfl | have t4 : (tag.toList == ([114, 97, 110, 107] : List UInt8)) = false := by rw [ht]; rfl | have t4 : (tag.toList == ([114, 97, 110, 107] : List UInt8)) = false := beq_eq_false_iff_ne.mpr n4)
  (first | have t5 : (tag.toList == ([119, 97, 108, 107, 115] : List UInt8)) = true := by rw [ht]; rfl | have t5 : (tag.toList == ([119, 97, 108, 107, 115] : List UInt8)) = false := by rw [ht]; rfl | have t5 : (tag.toList == ([119, 97, 108, 107, 115] : List UInt8)) = false := beq_eq_false_iff_ne.mpr n5)
  (first | have z : (v != source) = false := bne_eq_false_iff_eq.mpr hs | have z : (v != source) = true := bne_iff_ne.mpr hs | skip)
  have HV := Aside0.mk hv
  clear hv
  (try clear ht)
  (try clear hs)
  (try clear n0 n1 n2 n3 n4 n5)
  go_enter Tryz.func35, Tryz.ntmps35
  go_wp2_with (fail)
  refine (HK _).mono ?_
  rintro e w2 ⟨rfl, hb⟩
  have BK := Aside0.mk (blk_below (heap_alloc2_new _ _ _) hb)
  have hsz : Aside0 (w.heap.size + 2 ≤ w2.heap.size) := ⟨by have := hb.size; simp at this; omega⟩
  have HB2 : Aside0 (Below w.heap.size w w2) := ⟨by
   refine Below.trans ?_ (hb.mono ?_)
   ·repeat (first | exact Below.refl _ _ | apply below_alloc | apply pw_below_drewN)
   ·simp; omega⟩
  have j0 := (hb.cell (p := ⟨w.heap.size, 0, none⟩) (by simp; omega)).trans (show _ = some (.string tag) by first | (go_simp; done) | (go_simp; rfl))
  have j1 := (hb.cell (p := ⟨w.heap.size, 1, none⟩) (by simp; omega)).trans (show _ = some (.int .i64 source) by first | (go_simp; done) | (go_simp; rfl))
  have i0 : ∀ o, (w2.alloc o).cell? ⟨w.heap.size, 0, none⟩ = some (.string tag) := fun o => Bridge.cell_old j0
  have i1 : ∀ o, (w2.alloc o).cell? ⟨w.heap.size, 1, none⟩ = some (.int .i64 source) := fun o => Bridge.cell_old j1
  have BA : ∀ o, Aside0 ((w2.alloc o).heap[w.heap.size + 1]? = some (.cells #[.int .i64 0, .int .i64 0, .bool false, .bool false, .int .i64 0] 50 (0, 0))) := fun o => ⟨blk_alloc BK.out o⟩
  have s0 : ∀ o, (w2.alloc o).cell? ⟨w.heap.size + 1, 0, none⟩ = some (.int .i64 0) := fun o => (blk_cell (BA o).out 0).trans rfl
  have f0 : ∀ o, (w2.alloc o).frozen? ⟨w.heap.size + 1, 0, none⟩ = false := fun o => blk_frozen (BA o).out 0
  have s1 : ∀ o, (w2.alloc o).cell? ⟨w.heap.size + 1, 1, none⟩ = some (.int .i64 0) := fun o => (blk_cell (BA o).out 1).trans rfl
  have f1 : ∀ o, (w2.alloc o).frozen? ⟨w.heap.size + 1, 1, none⟩ = false := fun o => blk_frozen (BA o).out 1
  have s2 : ∀ o, (w2.alloc o).cell? ⟨w.heap.size + 1, 2, none⟩ = some (.bool false) := fun o => (blk_cell (BA o).out 2).trans rfl
  have f2 : ∀ o, (w2.alloc o).frozen? ⟨w.heap.size + 1, 2, none⟩ = false := fun o => blk_frozen (BA o).out 2
  have s3 : ∀ o, (w2.alloc o).cell? ⟨w.heap.size + 1, 3, none⟩ = some (.bool false) := fun o => (blk_cell (BA o).out 3).trans rfl
  have f3 : ∀ o, (w2.alloc o).frozen? ⟨w.heap.size + 1, 3, none⟩ = false := fun o => blk_frozen (BA o).out 3
  have s4 : ∀ o, (w2.alloc o).cell? ⟨w.heap.size + 1, 4, none⟩ = some (.int .i64 0) := fun o => (blk_cell (BA o).out 4).trans rfl
  have f4 : ∀ o, (w2.alloc o).frozen? ⟨w.heap.size + 1, 4, none⟩ = false := fun o => blk_frozen (BA o).out 4
  have hne : (w.heap.size + 1 == w2.heap.size) = false := beq_eq_false_iff_ne.mpr (by have := hsz.out; omega)
  clear hb HK
  go_wp2
  refine bodyPost_ret (results_cell_row rfl _ _ (w.heap.size + 1) 50 #[.int .i64 v, .int .i64 val, .bool true, .bool false, .int .i64 0] (0, 0) _ rfl ?hg Tryz.underlying50 rfl (by kernel_rfl)) rfl ?_
  case hg => rw [HV.out]; exact (blk_put (blk_put (blk_put (blk_put (blk_put (BA _).out 0 _ rfl) 1 _ rfl) 2 _ rfl) 3 _ rfl) 4 _ rfl)
  exact ⟨rfl, (below_set (below_set (below_set (below_set (below_set (below_alloc HB2.out _) (Nat.le_succ _)) (Nat.le_succ _)) (Nat.le_succ _)) (Nat.le_succ _)) (Nat.le_succ _))⟩
theorem prog_First.calls (a0_0 : ByteArray) (a0_1 : Int) (a0_2 : Int) (a1 : Int) (r1 : Int) (r2 : Int) (r3 : Bool) (r4 : Bool) (r5 : Int) (w : World) (h : prog_First.f a0_0 a0_1 a0_2 a1 = some (r1, r2, r3, r4, r5)) :
  Calls Tryz.prog 35 #[.agg #[.string a0_0, .int .i64 a0_1, .int .i64 a0_2], .int .i64 a1] w fun e w' => e = .returned (.agg #[.int .i64 r1, .int .i64 r2, .bool r3, .bool r4, .int .i64 r5]) ∧ Below w.heap.size w w' := by
 unfold prog_First.f at h
 by_cases hr : 0 ≤ a1 ∧ a1 ≤ 1048576
 ·rw [if_pos hr] at h
  obtain ⟨b, hk, h⟩ := Option.bind_eq_some_iff.mp h
  have HK : ∀ W, Calls Tryz.prog 40 #[.string a0_0] W fun e w' => e = .returned (.bool b) ∧ Below W.heap.size W w' := fun W => prog_Known.calls 20 a0_0 b W hk
  cases b with
  | false =>
   rw [if_neg (by decide)] at h
   simp only [Option.some.injEq, Prod.mk.injEq] at h
   obtain ⟨rfl, rfl, rfl, rfl, rfl⟩ := h
   exact prog_First.w_unknown a0_0 a0_1 a0_2 a1 w HK
  | true =>
   rw [if_pos rfl] at h
   simp only [Option.some.injEq, Prod.mk.injEq] at h
   obtain ⟨rfl, rfl, rfl, rfl, rfl⟩ := h
   exact prog_First.w_known a0_0 a0_1 a0_2 a1 _ w HK (firstW _ _ _) hr
 ·rw [if_neg hr] at h
  cases h
end

/-! ### seq_Start: function 16 -/
def seq_Start.l0 : Nat → List (S50) → Int → Int → ByteArray → Int → Int → Option ((List (S50)) × Int)
 | 0, _, _, _, _, _, _ => none
 | k + 1, x7, x19, x20, x135000, x135001, x135002 => if x20 < x19 then ((prog_First.f x135000 x135001 x135002 x20).bind fun bt139 => (if 0 ≤ x20 then (if x20 < (x7.length : Int) then (seq_Start.l0 k (x7.set (x20 : Int).toNat (⟨bt139.1, bt139.2.1, bt139.2.2.1, bt139.2.2.2.1, bt139.2.2.2.2⟩ : S50)) x19 (wrap64 (x20 + 1)) x135000 x135001 x135002) else (none)) else (none))) else (some (x7, 0))
def seq_Start.f (k : Nat) (a0_0 : Int) (l0_1 : List (S48)) (a1_0 : ByteArray) (a1_1 : Int) (a1_2 : Int) : Option ((List (S50)) × Int) := (prog_Check.f k a0_0 l0_1 a1_0 a1_1 a1_2).bind fun t135 => (if t135 = 0 then (if 0 ≤ a0_0 then (if (a0_0 : Int).toNat ≤ 8796093022208 then ((some (List.replicate (a0_0 : Int).toNat z50 : List (S50))).bind fun y136 => (seq_Start.l0 k y136 (y136.length : Int) 0 a1_0 a1_1 a1_2)) else (none)) else (none)) else (some (([] : List (S50)), t135)))
theorem seq_Start.mono_l : ∀ k, (∀ y0 y1 y2 y3 y4 y5, LeO (seq_Start.l0 k y0 y1 y2 y3 y4 y5) (seq_Start.l0 (k + 1) y0 y1 y2 y3 y4 y5))
 | 0 => fun _ _ _ _ _ _ r h => by simp [seq_Start.l0] at h
 | k + 1 => by
  have ih0 := seq_Start.mono_l k
  ·intro y0 y1 y2 y3 y4 y5
   unfold seq_Start.l0
   repeat' first
   | (with_reducible exact ih0 _ _ _ _ _ _)
   | (with_reducible exact prog_Check.mono _ _ _ _ _ _)
   | (with_reducible exact LeO.refl _)
   | (with_reducible exact LeO.none _)
   | (with_reducible refine LeO.ite ?_ ?_)
   | (with_reducible refine LeO.bind ?_ (fun _ => ?_))
   | exact ih0 _ _ _ _ _ _
   | exact prog_Check.mono _ _ _ _ _ _
   | exact LeO.none _
   | refine LeO.ite ?_ ?_
   | refine LeO.bind ?_ (fun _ => ?_)
theorem seq_Start.mono : ∀ a0 a1 a2 a3 a4 k, LeO (seq_Start.f k a0 a1 a2 a3 a4) (seq_Start.f (k + 1) a0 a1 a2 a3 a4) := by
 intro a0 a1 a2 a3 a4 k
 have ih0 := seq_Start.mono_l k
 unfold seq_Start.f
 repeat' first
   | (with_reducible exact ih0 _ _ _ _ _ _)
   | (with_reducible exact prog_Check.mono _ _ _ _ _ _)
   | (with_reducible exact LeO.refl _)
   | (with_reducible exact LeO.none _)
   | (with_reducible refine LeO.ite ?_ ?_)
   | (with_reducible refine LeO.bind ?_ (fun _ => ?_))
   | exact ih0 _ _ _ _ _ _
   | exact prog_Check.mono _ _ _ _ _ _
   | exact LeO.none _
   | refine LeO.ite ?_ ?_
   | refine LeO.bind ?_ (fun _ => ?_)
set_option maxHeartbeats 8000000 in
set_option maxRecDepth 100000 in
theorem seq_Start.calls (k : Nat) (a0_0 : Int) (A0_1 : Option Addr) (c0_1 : Nat) (l0_1 : List (S48)) (a1_0 : ByteArray) (a1_1 : Int) (a1_2 : Int) (r1 : List (S50)) (r2 : Int) (w : World) (hr0_1 : Kd.C k48 w A0_1 l0_1.length l0_1) (hc0_1 : l0_1.length ≤ c0_1) (h : seq_Start.f k a0_0 l0_1 a1_0 a1_1 a1_2 = some (r1, r2)) :
  Calls Tryz.prog 16 #[.agg #[.int .i64 a0_0, .slice A0_1 l0_1.length c0_1], .agg #[.string a1_0, .int .i64 a1_1, .int .i64 a1_2]] w fun e w' => ∃ v0_ : Value, e = .returned (.tuple #[v0_, .int .i64 r2]) ∧ Kd.R k50 50 w' w.heap.size (fun _ => True) v0_ r1 ∧ Below w.heap.size w w' := by
 have hu24 := Tryz.underlying24
 have hu26 := Tryz.underlying26
 have hu50 := Tryz.underlying50
 have HR0_1 := Aside0.mk hr0_1
 have HC0_1 := Aside0.mk hc0_1
 clear hr0_1 hc0_1
 have HB := Aside0.mk (Below.refl w.heap.size w)
 have H : ((prog_Check.f k a0_0 l0_1 a1_0 a1_1 a1_2).bind fun t135 => (if t135 = 0 then (if 0 ≤ a0_0 then (if (a0_0 : Int).toNat ≤ 8796093022208 then ((some (List.replicate (a0_0 : Int).toNat z50 : List (S50))).bind fun y136 => (seq_Start.l0 k y136 (y136.length : Int) 0 a1_0 a1_1 a1_2)) else (none)) else (none)) else (some (([] : List (S50)), t135)))) = some (r1, r2) := h
 clear h
 replace H := Option.bind_eq_some_iff.mp H
 obtain ⟨t135, A30, H⟩ := H
 replace H : (if t135 = 0 then (if 0 ≤ a0_0 then (if (a0_0 : Int).toNat ≤ 8796093022208 then ((some (List.replicate (a0_0 : Int).toNat z50 : List (S50))).bind fun y136 => (seq_Start.l0 k y136 (y136.length : Int) 0 a1_0 a1_1 a1_2)) else (none)) else (none)) else (some (([] : List (S50)), t135))) = some (r1, r2) := H
 have A3 := Aside0.mk A30
 clear A30
 by_cases c4 : t135 = 0
 ·rw [if_pos c4] at H
  have c4b0 : (t135 == 0) = true := beq_iff_eq.mpr c4
  have c4b1 : (t135 != 0) = false := bne_eq_false_iff_eq.mpr c4
  clear c4
  obtain ⟨c5, H⟩ := iteS11 H
  have c5b0 := eq_true c5
  have c5b1 : decide (0 ≤ a0_0) = true := decide_eq_true c5
  clear c5
  obtain ⟨c6, H⟩ := iteS11 H
  have c6b0 := eq_true c6
  have c6b1 : decide ((a0_0 : Int).toNat ≤ 8796093022208) = true := decide_eq_true c6
  clear c6
  obtain ⟨y136, hy136⟩ : ∃ y_ : List (S50), y_ = (List.replicate (a0_0 : Int).toNat z50) := ⟨_, rfl⟩
  replace H : (seq_Start.l0 k y136 (y136.length : Int) 0 a1_0 a1_1 a1_2) = some (r1, r2) := by first | (rw [hy136]; with_reducible exact H) | (have H2_ := (Option.bind_some _ _).symm.trans H; rw [hy136]; with_reducible exact H2_) | (have H2_ := (Option.bind_some _ _).symm.trans H; with_reducible exact H2_) | with_reducible exact H | (rw [hy136]; exact H) | exact H
  have Ny136 := Aside0.mk hy136
  clear hy136
  have H' := Aside0.mk H
  clear H
  go_enter Tryz.func16, Tryz.ntmps16
  go_wp2_with (first | ((with_reducible refine gate_dst (N := 2) rfl ?_); refine bE_ #[.int .i64 a0_0, .slice A0_1 l0_1.length c0_1] 24 ?_; intro gb133 hg w7 hbox hb; have BK133 := Aside0.mk hbox; have GW133 := gS hg HB; have GE133 := gS hg HB; replace HB := bS HB hb; clear hb hbox hg) | ((with_reducible refine gate_dst (N := 3) rfl ?_); refine bE_ #[.string a1_0, .int .i64 a1_1, .int .i64 a1_2] 26 ?_; intro gb134 hg w8 hbox hb; have BK134 := Aside0.mk hbox; have GW134 := gS hg HB; have GE134 := gS hg HB; have NB133_134 := nL hg BK133; have NB134_133 := nG hg BK133; replace BK133 := aS BK133 hb; replace HB := bS HB hb; clear hb hbox hg; have := NB133_134.out; have := NB134_133.out; have hcz10_0 : w8.cell? ⟨gb133, 0, none⟩ = some (.int .i64 a0_0) := (blk_cell BK133.out 0).trans rfl; have hcz10_1 : w8.cell? ⟨gb133, 1, none⟩ = some (.slice A0_1 l0_1.length c0_1) := (blk_cell BK133.out 1).trans rfl; have hfz10_0 := blk_frozen BK133.out 0; have hfz10_1 := blk_frozen BK133.out 1; have hcz11_0 : w8.cell? ⟨gb134, 0, none⟩ = some (.string a1_0) := (blk_cell BK134.out 0).trans rfl; have hcz11_1 : w8.cell? ⟨gb134, 1, none⟩ = some (.int .i64 a1_1) := (blk_cell BK134.out 1).trans rfl; have hcz11_2 : w8.cell? ⟨gb134, 2, none⟩ = some (.int .i64 a1_2) := (blk_cell BK134.out 2).trans rfl; have hfz11_0 := blk_frozen BK134.out 0; have hfz11_1 := blk_frozen BK134.out 1; have hfz11_2 := blk_frozen BK134.out 2) | ((with_reducible refine gate_callee (f := 21) rfl ?_); refine gL_ (some 11) Tryz.func21 #[.agg #[.int .i64 a0_0, .slice A0_1 l0_1.length c0_1], .agg #[.string a1_0, .int .i64 a1_1, .int .i64 a1_2]] ?_; (with_reducible refine (prog_Check.calls k a0_0 _ _ l0_1 a1_0 a1_1 a1_2 t135 _ ?side1 ?side2 A3.out).mono ?_); (case side1 => exact kC HR0_1.out HB.out); (case side2 => exact HC0_1.out); rintro e w12 ⟨rfl, hb⟩; refine ⟨_, rfl, ?_⟩; replace BK133 := aS BK133 hb; replace BK134 := aS BK134 hb; replace HB := bS HB hb; clear hb; have hcz13_0 : w12.cell? ⟨gb133, 0, none⟩ = some (.int .i64 a0_0) := (blk_cell BK133.out 0).trans rfl; have hcz13_1 : w12.cell? ⟨gb133, 1, none⟩ = some (.slice A0_1 l0_1.length c0_1) := (blk_cell BK133.out 1).trans rfl; have hfz13_0 := blk_frozen BK133.out 0; have hfz13_1 := blk_frozen BK133.out 1) | ((with_reducible refine gate_dst (N := 17) rfl ?_); refine Kd.R_make k50 _ 50 rfl (N := 17) rfl 27 _ _ rfl a0_0 rfl rfl Tryz.underlying27 (.agg #[(.int .i64 0), (.int .i64 0), (.bool false), (.bool false), (.int .i64 0)]) 32 info50 rfl (by decide) (by omega) z50 (ok := fun _ => True) (okp := fun _ => True) (k50_mkM _ _ _ z50 ) (fun _ hk => hk) trivial (of_decide_eq_true (by first | (with_reducible assumption) | assumption)) (Nat.le_trans (Nat.mul_le_mul_right _ (of_decide_eq_true (by first | (with_reducible assumption) | assumption) : a0_0.toNat ≤ 8796093022208)) (by omega)) (Below.refl _ _) (Nat.le_refl _) ?_; intro v137 w14 ho15 hb hg_ hnew_; clear hg_ hnew_; (first | rw [← Ny136.out] at ho15 | (simp only [Int.reduceToNat] at ho15; rw [← Ny136.out] at ho15)); have HO138 := lS ho15 HB; replace BK133 := aS BK133 hb; replace BK134 := aS BK134 hb; replace HB := bS HB hb; clear hb ho15; obtain ⟨Ao16, co16, eo16⟩ := Kd.R_slice HO138.out; subst eo16))
  go_loopg [20] k (fun kq v20 w' => ∃ (x7_1 : List (S50)) (x20_1 : Int), v20 = .int .i64 x20_1 ∧ Aside0 (seq_Start.l0 kq x7_1 (y136.length : Int) x20_1 a1_0 a1_1 a1_2 = some (r1, r2)) ∧ Aside0 (kq ≤ k) ∧ Aside0 (Kd.R k50 50 w' w.heap.size (fun _ => True) (.slice Ao16 y136.length co16) x7_1) ∧ Aside0 (w'.heap[gb133]? = some (.cells #[.int .i64 a0_0, (.slice A0_1 l0_1.length c0_1)] 24 (0, 0))) ∧ Aside0 (w'.heap[gb134]? = some (.cells #[.string a1_0, .int .i64 a1_1, .int .i64 a1_2] 26 (0, 0))) ∧ Aside0 (Below w.heap.size w w'))
  case atStart => exact ⟨(y136), (0), (by first | rfl | (simp; done) | (simp [*]; done)), H', ⟨Nat.le_refl _⟩, ⟨kR HO138.out⟩, ⟨kA BK133.out⟩, ⟨kA BK134.out⟩, ⟨kB HB.out⟩⟩
  case round =>
   clear H'
   try clear c1
   try clear c2
   try clear p2
   try clear c4
   try clear c4b0
   try clear c4b1
   try clear c5
   try clear c5b0
   try clear c5b1
   try clear c6
   try clear c6b0
   try clear c6b1
   try clear c9
   try clear c16
   try clear hcz10_0
   try clear hcz10_1
   try clear hcz11_0
   try clear hcz11_1
   try clear hcz11_2
   try clear hcz13_0
   try clear hcz13_1
   try clear hfz10_0
   try clear hfz10_1
   try clear hfz11_0
   try clear hfz11_1
   try clear hfz11_2
   try clear hfz13_0
   try clear hfz13_1
   obtain ⟨x7_1, x20_1, rfl, HA, HK1, HO_7, BK133, BK134, HB⟩ := hrel
   have hl7_1 := (Kd.R_reads' HO_7.out).1
   rw [hl7_1] at HO_7
   (try simp only [hl7_1])
   (try simp only [hl7_1] at BK133)
   (try simp only [hl7_1] at BK134)
   cases gk with
   | zero => exact absurd HA.out (by simp [seq_Start.l0])
   | succ k1 =>
    have H := HA.out
    clear HA
    simp only [seq_Start.l0] at H
    by_cases c17 : x20_1 < (y136.length : Int)
    ·rw [if_pos c17] at H
     have c17b0 := decide_eq_true c17
     clear c17
     replace H := Option.bind_eq_some_iff.mp H
     obtain ⟨⟨t139, t140, t141, t142, t143⟩, A180, H⟩ := H
     replace H : (if 0 ≤ x20_1 then (if x20_1 < (x7_1.length : Int) then (seq_Start.l0 k1 (x7_1.set (x20_1 : Int).toNat (⟨t139, t140, t141, t142, t143⟩ : S50)) (y136.length : Int) (wrap64 (x20_1 + 1)) a1_0 a1_1 a1_2) else (none)) else (none)) = some (r1, r2) := H
     have A18 := Aside0.mk A180
     clear A180
     obtain ⟨c19, H⟩ := iteS11 H
     have c19b0 := decide_eq_true c19
     clear c19
     obtain ⟨c20, H⟩ := iteS11 H
     have c20b0 := decide_eq_true c20
     clear c20
     obtain ⟨y144, hy144⟩ : ∃ y_ : List (S50), y_ = (x7_1.set (x20_1 : Int).toNat (⟨t139, t140, t141, t142, t143⟩ : S50)) := ⟨_, rfl⟩
     replace H : (seq_Start.l0 k1 y144 (y136.length : Int) (wrap64 (x20_1 + 1)) a1_0 a1_1 a1_2) = some (r1, r2) := by first | (rw [hy144]; with_reducible exact H) | (have H2_ := (Option.bind_some _ _).symm.trans H; rw [hy144]; with_reducible exact H2_) | (have H2_ := (Option.bind_some _ _).symm.trans H; with_reducible exact H2_) | with_reducible exact H | (rw [hy144]; exact H) | exact H
     have Ny144 := Aside0.mk hy144
     clear hy144
     have H' := Aside0.mk H
     clear H
     have := NB134_133.out
     have := NB133_134.out
     obtain ⟨_, _, _, _, _, _⟩ := q3z wr BK134.out
     go_wp2_with (first | ((with_reducible refine gate_callee (f := 35) rfl ?_); refine gL_ (some 27) Tryz.func35 #[.agg #[.string a1_0, .int .i64 a1_1, .int .i64 a1_2], .int .i64 x20_1] ?_; (with_reducible refine (prog_First.calls a1_0 a1_1 a1_2 x20_1 t139 t140 t141 t142 t143 _ A18.out).mono ?_); rintro e w24 ⟨rfl, hb⟩; refine ⟨_, rfl, ?_⟩; replace HO_7 := rS HO_7 hb; replace BK133 := aS BK133 hb; replace BK134 := aS BK134 hb; replace HB := bS HB hb; clear hb; have p21 : 0 ≤ (x20_1 : Int) := of_decide_eq_true (by first | (with_reducible assumption) | assumption); have q21 : (x20_1 : Int) < ((x7_1.length : Int) : Int) := of_decide_eq_true (by first | (with_reducible assumption) | assumption); obtain ⟨go21, co21, eo21, gb21, gl21, cl21, HG21⟩ := Kd.R_form HO_7.out (by omega); (first | cases eo21 | (injection eo21 with ea_ en_ ec_; (first | subst ea_ | (injection ea_ with ea_; subst ea_)); subst ec_; clear en_)); have GB21 := Aside0.mk gb21; have GG21 := Aside0.mk HG21; clear gb21 gl21 HG21; obtain ⟨ce21, hcl21, hM21, hcc21, hfr21⟩ := Kd.R_elem HO_7.out z50 (x20_1 : Int) p21 q21; obtain rfl := k50_openM hM21; have hx21_0 : w24.cell? ⟨go21, (x20_1 : Int).toNat * 5, none⟩ = some (.int .i64 ((rd_T50 x7_1 x20_1).f0)) := hcc21 0 _ rfl; have hx21_1 : w24.cell? ⟨go21, (x20_1 : Int).toNat * 5 + 1, none⟩ = some (.int .i64 ((rd_T50 x7_1 x20_1).f1)) := hcc21 1 _ rfl; have hx21_2 : w24.cell? ⟨go21, (x20_1 : Int).toNat * 5 + 2, none⟩ = some (.bool ((rd_T50 x7_1 x20_1).f2)) := hcc21 2 _ rfl; have hx21_3 : w24.cell? ⟨go21, (x20_1 : Int).toNat * 5 + 3, none⟩ = some (.bool ((rd_T50 x7_1 x20_1).f3)) := hcc21 3 _ rfl; have hx21_4 : w24.cell? ⟨go21, (x20_1 : Int).toNat * 5 + 4, none⟩ = some (.int .i64 ((rd_T50 x7_1 x20_1).f4)) := hcc21 4 _ rfl; have hf21_0 : w24.frozen? ⟨go21, (x20_1 : Int).toNat * 5, none⟩ = false := hfr21 0; have hf21_1 : w24.frozen? ⟨go21, (x20_1 : Int).toNat * 5 + 1, none⟩ = false := hfr21 1; have hf21_2 : w24.frozen? ⟨go21, (x20_1 : Int).toNat * 5 + 2, none⟩ = false := hfr21 2; have hf21_3 : w24.frozen? ⟨go21, (x20_1 : Int).toNat * 5 + 3, none⟩ = false := hfr21 3; have hf21_4 : w24.frozen? ⟨go21, (x20_1 : Int).toNat * 5 + 4, none⟩ = false := hfr21 4; clear hcl21 hcc21 hfr21 hM21; replace p21 := eq_true p21; replace q21 := eq_true q21; have HX25 := Aside0.mk (show Kd.R k50 50 w24 w.heap.size (fun _ => True) (.slice (some ⟨go21, 0, none⟩) x7_1.length co16) x7_1 from (kR HO_7.out)); obtain ⟨ce25, hcl25, hM25, hcc25, hfr25⟩ := Kd.R_elem HX25.out z50 (x20_1 : Int) (of_decide_eq_true (by first | (with_reducible assumption) | assumption)) (by have h_ : (x20_1 : Int) < ((x7_1.length : Int) : Int) := of_decide_eq_true (by first | (with_reducible assumption) | assumption); first | exact h_ | (have e_ := (Kd.R_reads' HO_7.out).1; omega) | simpa using h_); obtain rfl := k50_openM hM25; have HP25 := Kd.R_seg HX25.out (x20_1 : Int) (of_decide_eq_true (by first | (with_reducible assumption) | assumption)) (by have h_ : (x20_1 : Int) < ((x7_1.length : Int) : Int) := of_decide_eq_true (by first | (with_reducible assumption) | assumption); first | exact h_ | (have e_ := (Kd.R_reads' HO_7.out).1; omega) | simpa using h_) (seg := [.int .i64 t139, .int .i64 t140, .bool t141, .bool t142, .int .i64 t143]) (j := 0) hcl25 hcc25 (show 5 ≤ 5 from by decide) (x' := (⟨t139, t140, t141, t142, t143⟩ : S50)) (k50_mkM _ _ _ (⟨t139, t140, t141, t142, t143⟩ : S50) ) (fun _ hk => hk); have hx25_0 := hcc25 0 _ rfl; (try simp only [show (k50).sz = 5 from rfl, Nat.mul_one, Nat.add_zero] at hx25_0); have hf25_0 := hfr25 0; (try simp only [show (k50).sz = 5 from rfl, Nat.mul_one, Nat.add_zero] at hf25_0); have hx25_1 := hcc25 1 _ rfl; (try simp only [show (k50).sz = 5 from rfl, Nat.mul_one, Nat.add_zero] at hx25_1); have hf25_1 := hfr25 1; (try simp only [show (k50).sz = 5 from rfl, Nat.mul_one, Nat.add_zero] at hf25_1); have hx25_2 := hcc25 2 _ rfl; (try simp only [show (k50).sz = 5 from rfl, Nat.mul_one, Nat.add_zero] at hx25_2); have hf25_2 := hfr25 2; (try simp only [show (k50).sz = 5 from rfl, Nat.mul_one, Nat.add_zero] at hf25_2); have hx25_3 := hcc25 3 _ rfl; (try simp only [show (k50).sz = 5 from rfl, Nat.mul_one, Nat.add_zero] at hx25_3); have hf25_3 := hfr25 3; (try simp only [show (k50).sz = 5 from rfl, Nat.mul_one, Nat.add_zero] at hf25_3); have hx25_4 := hcc25 4 _ rfl; (try simp only [show (k50).sz = 5 from rfl, Nat.mul_one, Nat.add_zero] at hx25_4); have hf25_4 := hfr25 4; (try simp only [show (k50).sz = 5 from rfl, Nat.mul_one, Nat.add_zero] at hf25_4); clear hcl25 hcc25 hfr25 hM25) | ((with_reducible refine gate_store (t := 50) (p := 28) rfl ?_); refine store_event (t := 50) (p := 28) (v := ?vo_w26) (w1 := (((((w24.setCell ⟨go21, (x20_1 : Int).toNat * 5, none⟩ (.int .i64 t139)).setCell ⟨go21, (x20_1 : Int).toNat * 5 + 1, none⟩ (.int .i64 t140)).setCell ⟨go21, (x20_1 : Int).toNat * 5 + 2, none⟩ (.bool t141)).setCell ⟨go21, (x20_1 : Int).toNat * 5 + 3, none⟩ (.bool t142)).setCell ⟨go21, (x20_1 : Int).toNat * 5 + 4, none⟩ (.int .i64 t143))) ?hg ?ho ?hn ?hr ?_; (case ho => rfl); (case hg => rfl); (case hn => rfl); (case hr => first | (go_simp; done) | (go_simp; rfl)); intro w26 hw; have hg : w24.grownBy w26 (some go21) := (by rw [hw]; exact HP25.2); have hp_ : Kd.R k50 50 w26 w.heap.size (fun _ => True) (.slice (some ⟨go21, 0, none⟩) x7_1.length co16) y144 := (by rw [hw, Ny144.out]; exact HP25.1); clear HP25; replace BK133 := Aside0.mk (blk_grown (g := gb133) (o := .cells #[.int .i64 a0_0, .slice A0_1 l0_1.length c0_1] 24 (0, 0)) (kA BK133.out) hg (Kd.R_ne HO_7.out BK133.out (by decide))); replace BK134 := Aside0.mk (blk_grown (g := gb134) (o := .cells #[.string a1_0, .int .i64 a1_1, .int .i64 a1_2] 26 (0, 0)) (kA BK134.out) hg (Kd.R_ne HO_7.out BK134.out (by decide))); replace HO_7 := Aside0.mk (hp_); replace HB := Aside0.mk ((by rw [hw]; exact below_set (below_set (below_set (below_set (below_set (HB.out) GB21.out) GB21.out) GB21.out) GB21.out) GB21.out : Below w.heap.size w w26)); clear hg hw hp_))
     (try simp only [← hl7_1])
     go_roundg k1
     case measure => have := HK1.out; omega
     case rel => exact ⟨(y144), (wrap64 (x20_1 + 1)), (by first | rfl | (simp; done) | (simp [*]; done)), H', ⟨by have := HK1.out; omega⟩, ⟨by (try simp only [hl7_1]); exact kR HO_7.out⟩, ⟨by (try simp only [hl7_1]); exact kA BK133.out⟩, ⟨by (try simp only [hl7_1]); exact kA BK134.out⟩, ⟨kB HB.out⟩⟩
    ·rw [if_neg c17] at H
     have c17b0 := decide_eq_false c17
     have c17z : decide (x20_1 < (x7_1.length : Int)) = false := decide_eq_false (by omega)
     clear c17
     simp only [Option.some.injEq, Prod.mk.injEq] at H
     obtain ⟨rfl, rfl⟩ := H
     go_wp2
     go_ret2
     exact ⟨_, by first | rfl | (simp [errW_none, errW_some] <;> rfl) | (simp [*, errW_none, errW_some] <;> rfl), by exact kR HO_7.out, by exact kB HB.out⟩
 ·rw [if_neg c4] at H
  have c4b0 : (t135 == 0) = false := beq_eq_false_iff_ne.mpr c4
  have c4b1 : (t135 != 0) = true := bne_iff_ne.mpr c4
  simp only [Option.some.injEq, Prod.mk.injEq] at H
  obtain ⟨rfl, rfl⟩ := H
  go_enter Tryz.func16, Tryz.ntmps16
  go_wp2_with (first | ((with_reducible refine gate_dst (N := 2) rfl ?_); refine bE_ #[.int .i64 a0_0, .slice A0_1 l0_1.length c0_1] 24 ?_; intro gb133 hg w27 hbox hb; have BK133 := Aside0.mk hbox; have GW133 := gS hg HB; have GE133 := gS hg HB; replace HB := bS HB hb; clear hb hbox hg) | ((with_reducible refine gate_dst (N := 3) rfl ?_); refine bE_ #[.string a1_0, .int .i64 a1_1, .int .i64 a1_2] 26 ?_; intro gb134 hg w28 hbox hb; have BK134 := Aside0.mk hbox; have GW134 := gS hg HB; have GE134 := gS hg HB; have NB133_134 := nL hg BK133; have NB134_133 := nG hg BK133; replace BK133 := aS BK133 hb; replace HB := bS HB hb; clear hb hbox hg; have := NB133_134.out; have := NB134_133.out; obtain ⟨_, _, _, _⟩ := q2z w28 BK133.out; obtain ⟨_, _, _, _, _, _⟩ := q3z w28 BK134.out) | ((with_reducible refine gate_callee (f := 21) rfl ?_); refine gL_ (some 11) Tryz.func21 #[.agg #[.int .i64 a0_0, .slice A0_1 l0_1.length c0_1], .agg #[.string a1_0, .int .i64 a1_1, .int .i64 a1_2]] ?_; (with_reducible refine (prog_Check.calls k a0_0 _ _ l0_1 a1_0 a1_1 a1_2 t135 _ ?side1 ?side2 A3.out).mono ?_); (case side1 => exact kC HR0_1.out HB.out); (case side2 => exact HC0_1.out); rintro e w32 ⟨rfl, hb⟩; refine ⟨_, rfl, ?_⟩; replace BK133 := aS BK133 hb; replace BK134 := aS BK134 hb; replace HB := bS HB hb; clear hb))
  go_ret2
  exact ⟨_, by first | rfl | (simp [errW_none, errW_some] <;> rfl) | (simp [*, errW_none, errW_some] <;> rfl), by first | exact Kd.R_nil _ _ _ _ _ | exact Kd.N_nil _ _ _ _ _ | exact Kd.V_nil _ _ _ _ _ | exact Kd.Q_nil _ _ _ _ _ | exact Kd.S_nil _ _ _ _ _, by exact kB HB.out⟩

end Go.Proofs.YtpndhkeoljoapaaGreat.P
