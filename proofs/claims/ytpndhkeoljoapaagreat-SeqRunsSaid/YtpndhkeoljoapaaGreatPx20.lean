/- What these Go functions compute, as Lean functions, and that they do. No condition. -/
import Derived.Test.YtpndhkeoljoapaaGreatPx0
namespace Go.Proofs.YtpndhkeoljoapaaGreat.P
open Go.RowKit Go.Proofs.YtpndhkeoljoapaaGreatW.PrintWords Go.Proofs.YtpndhkeoljoapaaGreatW.PrintLast Go.Proofs.YtpndhkeoljoapaaGreatW.PrintMore
attribute [local go_sem] max2_int min2_int max_two min_two max_three min_three max_four min_four   -- for this text's walks alone
set_option linter.unusedVariables false
set_option linter.unusedSimpArgs false
set_option linter.unnecessarySimpa false
theorem iteS20 {α : Type} {c : Prop} [Decidable c] {a : Option α} {r : α} (h : (if c then a else none) = some r) : c ∧ a = some r := by
 by_cases hc : c
 ·rw [if_pos hc] at h; exact ⟨hc, h⟩
 ·rw [if_neg hc] at h; cases h

/-! ### modillionref09_Quiet: function 12 -/
def modillionref09_Quiet.l0 : Nat → List (S50) → Int → Option (Bool)
 | 0, _, _ => none
 | k + 1, x0, x3 => if x3 < (x0.length : Int) then (if 0 ≤ x3 then (if (rd_T50 x0 x3).f2 = true then (some false) else (if (rd_T50 x0 x3).f3 = true then (some false) else (modillionref09_Quiet.l0 k x0 (wrap64 (x3 + 1))))) else (none)) else (some true)
def modillionref09_Quiet.f (k : Nat) (l0 : List (S50)) : Option (Bool) := modillionref09_Quiet.l0 k l0 0
theorem modillionref09_Quiet.mono_l : ∀ k, (∀ y0 y1, LeO (modillionref09_Quiet.l0 k y0 y1) (modillionref09_Quiet.l0 (k + 1) y0 y1))
 | 0 => fun _ _ r h => by simp [modillionref09_Quiet.l0] at h
 | k + 1 => by
  have ih0 := modillionref09_Quiet.mono_l k
  ·intro y0 y1
   unfold modillionref09_Quiet.l0
   repeat' first
   | (with_reducible exact ih0 _ _)
   | (with_reducible exact LeO.refl _)
   | (with_reducible exact LeO.none _)
   | (with_reducible refine LeO.ite ?_ ?_)
   | (with_reducible refine LeO.bind ?_ (fun _ => ?_))
   | exact ih0 _ _
   | exact LeO.none _
   | refine LeO.ite ?_ ?_
   | refine LeO.bind ?_ (fun _ => ?_)
theorem modillionref09_Quiet.mono : ∀ a0 k, LeO (modillionref09_Quiet.f k a0) (modillionref09_Quiet.f (k + 1) a0) := by
 intro a0 k
 have ih0 := modillionref09_Quiet.mono_l k
 unfold modillionref09_Quiet.f
 repeat' first
   | (with_reducible exact ih0 _ _)
   | (with_reducible exact LeO.refl _)
   | (with_reducible exact LeO.none _)
   | (with_reducible refine LeO.ite ?_ ?_)
   | (with_reducible refine LeO.bind ?_ (fun _ => ?_))
   | exact ih0 _ _
   | exact LeO.none _
   | refine LeO.ite ?_ ?_
   | refine LeO.bind ?_ (fun _ => ?_)
set_option maxHeartbeats 8000000 in
set_option maxRecDepth 100000 in
theorem modillionref09_Quiet.calls (k : Nat) (A0 : Option Addr) (c0 : Nat) (l0 : List (S50)) (r : Bool) (w : World) (hr0 : Kd.C k50 w A0 l0.length l0) (hc0 : l0.length ≤ c0) (h : modillionref09_Quiet.f k l0 = some r) :
  Calls Tryz.prog 12 #[.slice A0 l0.length c0] w fun e w' => e = .returned (.bool r) ∧ Drawn0 w w' := by
 have HR0 := Aside0.mk hr0
 have HC0 := Aside0.mk hc0
 clear hr0 hc0
 have H : (modillionref09_Quiet.l0 k l0 0) = some r := h
 clear h
 have H' := Aside0.mk H
 clear H
 go_enter Tryz.func12, Tryz.ntmps12
 go_wp2
 go_loopg [3] k (fun kq v3 w' => ∃ (x3_1 : Int), v3 = .int .i64 x3_1 ∧ Aside0 (modillionref09_Quiet.l0 kq l0 x3_1 = some r) ∧ Aside0 (kq ≤ k) ∧ Drawn0 w w')
 case atStart => exact ⟨(0), (by first | rfl | (simp; done) | (simp [*]; done)), H', ⟨Nat.le_refl _⟩, by repeat (first | exact Drawn0.refl _ | apply Drawn0.step)⟩
 case round =>
  clear H'
  try clear c1
  obtain ⟨x3_1, rfl, HA, HK1, ⟨m1, rfl⟩⟩ := hrel
  cases gk with
  | zero => exact absurd HA.out (by simp [modillionref09_Quiet.l0])
  | succ k1 =>
   have H := HA.out
   clear HA
   simp only [modillionref09_Quiet.l0] at H
   by_cases c2 : x3_1 < (l0.length : Int)
   ·rw [if_pos c2] at H
    have c2b0 := decide_eq_true c2
    clear c2
    obtain ⟨c3, H⟩ := iteS20 H
    have c3b0 := decide_eq_true c3
    clear c3
    obtain ⟨bq4, hbq4⟩ : ∃ b_ : Bool, b_ = ((rd_T50 l0 x3_1).f2) := ⟨_, rfl⟩
    replace H : (if bq4 = true then (some false) else (if (rd_T50 l0 x3_1).f3 = true then (some false) else (modillionref09_Quiet.l0 k1 l0 (wrap64 (x3_1 + 1))))) = some r := by rw [← hbq4] at H; exact H
    have Nbq4 := Aside0.mk hbq4
    clear hbq4
    by_cases c5 : bq4 = true
    ·subst c5
     have H1 : (some false) = some r := by rw [if_pos rfl] at H; exact H
     clear H
     have H := H1
     clear H1
     obtain rfl := Option.some.inj H
     have p232 : 0 ≤ (x3_1 : Int) := of_decide_eq_true (by first | (with_reducible assumption) | assumption)
     have q232 : x3_1 < (l0.length : Int) := of_decide_eq_true (by first | (with_reducible assumption) | assumption)
     obtain ⟨ad232, e232, hx232_0, hx232_1, hx232_2, hx232_3, hx232_4⟩ := at_T50 HR0.out x3_1 p232 q232
     (try rw [← Nbq4.out] at hx232_2)
     (try rw [← Nbq4.out] at hx232_3)
     cases e232
     replace p232 := eq_true p232
     replace q232 := eq_true q232
     go_wp2
     go_ret
     exact ⟨by first | rfl | (simp; done) | (simp [*]; done), by repeat (first | exact Drawn0.refl _ | apply Drawn0.step)⟩
    ·replace c5 := Bool.eq_false_iff.mpr c5
     subst c5
     have H1 : (if (rd_T50 l0 x3_1).f3 = true then (some false) else (modillionref09_Quiet.l0 k1 l0 (wrap64 (x3_1 + 1)))) = some r := by rw [if_neg (show ¬ (false = true) by decide)] at H; exact H
     clear H
     have H := H1
     clear H1
     obtain ⟨bq6, hbq6⟩ : ∃ b_ : Bool, b_ = ((rd_T50 l0 x3_1).f3) := ⟨_, rfl⟩
     replace H : (if bq6 = true then (some false) else (modillionref09_Quiet.l0 k1 l0 (wrap64 (x3_1 + 1)))) = some r := by rw [← hbq6] at H; exact H
     have Nbq6 := Aside0.mk hbq6
     clear hbq6
     by_cases c7 : bq6 = true
     ·subst c7
      have H1 : (some false) = some r := by rw [if_pos rfl] at H; exact H
      clear H
      have H := H1
      clear H1
      obtain rfl := Option.some.inj H
      have p232 : 0 ≤ (x3_1 : Int) := of_decide_eq_true (by first | (with_reducible assumption) | assumption)
      have q232 : x3_1 < (l0.length : Int) := of_decide_eq_true (by first | (with_reducible assumption) | assumption)
      obtain ⟨ad232, e232, hx232_0, hx232_1, hx232_2, hx232_3, hx232_4⟩ := at_T50 HR0.out x3_1 p232 q232
      (try rw [← Nbq4.out] at hx232_2)
      (try rw [← Nbq6.out] at hx232_2)
      (try rw [← Nbq4.out] at hx232_3)
      (try rw [← Nbq6.out] at hx232_3)
      cases e232
      replace p232 := eq_true p232
      replace q232 := eq_true q232
      have p233 : 0 ≤ (x3_1 : Int) := of_decide_eq_true (by first | (with_reducible assumption) | assumption)
      have q233 : x3_1 < (l0.length : Int) := of_decide_eq_true (by first | (with_reducible assumption) | assumption)
      obtain ⟨ad233, e233, hx233_0, hx233_1, hx233_2, hx233_3, hx233_4⟩ := at_T50 HR0.out x3_1 p233 q233
      (try rw [← Nbq4.out] at hx233_2)
      (try rw [← Nbq6.out] at hx233_2)
      (try rw [← Nbq4.out] at hx233_3)
      (try rw [← Nbq6.out] at hx233_3)
      obtain rfl : ad232 = ad233 := (by injection e233)
      replace p233 := eq_true p233
      replace q233 := eq_true q233
      go_wp2
      go_ret
      exact ⟨by first | rfl | (simp; done) | (simp [*]; done), by repeat (first | exact Drawn0.refl _ | apply Drawn0.step)⟩
     ·replace c7 := Bool.eq_false_iff.mpr c7
      subst c7
      have H1 : (modillionref09_Quiet.l0 k1 l0 (wrap64 (x3_1 + 1))) = some r := by rw [if_neg (show ¬ (false = true) by decide)] at H; exact H
      clear H
      have H := H1
      clear H1
      have H' := Aside0.mk H
      clear H
      have p232 : 0 ≤ (x3_1 : Int) := of_decide_eq_true (by first | (with_reducible assumption) | assumption)
      have q232 : x3_1 < (l0.length : Int) := of_decide_eq_true (by first | (with_reducible assumption) | assumption)
      obtain ⟨ad232, e232, hx232_0, hx232_1, hx232_2, hx232_3, hx232_4⟩ := at_T50 HR0.out x3_1 p232 q232
      (try rw [← Nbq4.out] at hx232_2)
      (try rw [← Nbq6.out] at hx232_2)
      (try rw [← Nbq4.out] at hx232_3)
      (try rw [← Nbq6.out] at hx232_3)
      cases e232
      replace p232 := eq_true p232
      replace q232 := eq_true q232
      have p233 : 0 ≤ (x3_1 : Int) := of_decide_eq_true (by first | (with_reducible assumption) | assumption)
      have q233 : x3_1 < (l0.length : Int) := of_decide_eq_true (by first | (with_reducible assumption) | assumption)
      obtain ⟨ad233, e233, hx233_0, hx233_1, hx233_2, hx233_3, hx233_4⟩ := at_T50 HR0.out x3_1 p233 q233
      (try rw [← Nbq4.out] at hx233_2)
      (try rw [← Nbq6.out] at hx233_2)
      (try rw [← Nbq4.out] at hx233_3)
      (try rw [← Nbq6.out] at hx233_3)
      obtain rfl : ad232 = ad233 := (by injection e233)
      replace p233 := eq_true p233
      replace q233 := eq_true q233
      go_wp2
      go_roundg k1
      case measure => have := HK1.out; omega
      case rel => exact ⟨(wrap64 (x3_1 + 1)), (by first | rfl | (simp; done) | (simp [*]; done)), H', ⟨by have := HK1.out; omega⟩, by repeat (first | exact Drawn0.refl _ | apply Drawn0.step)⟩
   ·rw [if_neg c2] at H
    have c2b0 := decide_eq_false c2
    clear c2
    obtain rfl := Option.some.inj H
    go_wp2
    go_ret
    exact ⟨by first | rfl | (simp; done) | (simp [*]; done), by repeat (first | exact Drawn0.refl _ | apply Drawn0.step)⟩

/-! ### modillionref09_Values: function 15 -/
def modillionref09_Values.l0 : Nat → List (S50) → List Int → Int → Option (List Int)
 | 0, _, _, _ => none
 | k + 1, x0, x3, x4 => if x4 < (x0.length : Int) then (if 0 ≤ x4 then (if x3.length < 17592186044416 then (modillionref09_Values.l0 k x0 (x3 ++ [(rd_T50 x0 x4).f1]) (wrap64 (x4 + 1))) else (none)) else (none)) else (some x3)
def modillionref09_Values.f (k : Nat) (l0 : List (S50)) : Option (List Int) := modillionref09_Values.l0 k l0 (([] : List Int)) 0
theorem modillionref09_Values.mono_l : ∀ k, (∀ y0 y1 y2, LeO (modillionref09_Values.l0 k y0 y1 y2) (modillionref09_Values.l0 (k + 1) y0 y1 y2))
 | 0 => fun _ _ _ r h => by simp [modillionref09_Values.l0] at h
 | k + 1 => by
  have ih0 := modillionref09_Values.mono_l k
  ·intro y0 y1 y2
   unfold modillionref09_Values.l0
   repeat' first
   | (with_reducible exact ih0 _ _ _)
   | (with_reducible exact LeO.refl _)
   | (with_reducible exact LeO.none _)
   | (with_reducible refine LeO.ite ?_ ?_)
   | (with_reducible refine LeO.bind ?_ (fun _ => ?_))
   | exact ih0 _ _ _
   | exact LeO.none _
   | refine LeO.ite ?_ ?_
   | refine LeO.bind ?_ (fun _ => ?_)
theorem modillionref09_Values.mono : ∀ a0 k, LeO (modillionref09_Values.f k a0) (modillionref09_Values.f (k + 1) a0) := by
 intro a0 k
 have ih0 := modillionref09_Values.mono_l k
 unfold modillionref09_Values.f
 repeat' first
   | (with_reducible exact ih0 _ _ _)
   | (with_reducible exact LeO.refl _)
   | (with_reducible exact LeO.none _)
   | (with_reducible refine LeO.ite ?_ ?_)
   | (with_reducible refine LeO.bind ?_ (fun _ => ?_))
   | exact ih0 _ _ _
   | exact LeO.none _
   | refine LeO.ite ?_ ?_
   | refine LeO.bind ?_ (fun _ => ?_)
set_option maxHeartbeats 8000000 in
set_option maxRecDepth 100000 in
theorem modillionref09_Values.calls (k : Nat) (A0 : Option Addr) (c0 : Nat) (l0 : List (S50)) (r : List Int) (w : World) (hr0 : Kd.C k50 w A0 l0.length l0) (hc0 : l0.length ≤ c0) (h : modillionref09_Values.f k l0 = some r) :
  Calls Tryz.prog 15 #[.slice A0 l0.length c0] w fun e w' => ∃ v0_ : Value, e = .returned (v0_) ∧ Kd.R (Kd.int .i64) 2 w' w.heap.size (fun _ => True) v0_ r ∧ Below w.heap.size w w' := by
 have HR0 := Aside0.mk hr0
 have HC0 := Aside0.mk hc0
 clear hr0 hc0
 have HB := Aside0.mk (Below.refl w.heap.size w)
 have H : (modillionref09_Values.l0 k l0 (([] : List Int)) 0) = some r := h
 clear h
 obtain ⟨y234, hy234⟩ : ∃ y_ : List Int, y_ = (([] : List Int)) := ⟨_, rfl⟩
 replace H : (modillionref09_Values.l0 k l0 y234 0) = some r := by first | (rw [hy234]; with_reducible exact H) | (have H2_ := (Option.bind_some _ _).symm.trans H; rw [hy234]; with_reducible exact H2_) | (have H2_ := (Option.bind_some _ _).symm.trans H; with_reducible exact H2_) | with_reducible exact H | (rw [hy234]; exact H) | exact H
 have Ny234 := Aside0.mk hy234
 clear hy234
 have H' := Aside0.mk H
 clear H
 go_enter Tryz.func15, Tryz.ntmps15
 go_wp2_with (first | ((with_reducible refine gate_dst (N := 5) rfl ?_); refine Kd.R_lit (Kd.int .i64) _ 2 ?hg (N := 5) ?hd (xs := ([] : List Int)) (inner := []) (ok := fun _ => True) (okp := fun _ => True) ?hr ?hp (fun _ hk => hk) trivial (Below.refl _ _) (Nat.le_refl _) (by simp) ?_; (case hd => rfl); (case hg => rfl); (case hr => first | (go_simp; done) | (go_simp; rfl)); (case hp => exact (Reps.none _ _)); intro v235 w2 ho3 hb hg_ hnew_; clear hg_ hnew_; (first | rw [← Ny234.out] at ho3 | (simp only [Int.reduceToNat] at ho3; rw [← Ny234.out] at ho3)); have HO236 := lS ho3 HB; replace HB := bS HB hb; clear hb ho3))
 go_loopg [3, 4] k (fun kq v3 v4 w' => ∃ (x3_1 : List Int) (x4_1 : Int), v4 = .int .i64 x4_1 ∧ Aside0 (modillionref09_Values.l0 kq l0 x3_1 x4_1 = some r) ∧ Aside0 (kq ≤ k) ∧ Aside0 (Kd.R (Kd.int .i64) 2 w' w.heap.size (fun _ => True) v3 x3_1) ∧ Aside0 (Below w.heap.size w w'))
 case atStart => exact ⟨(y234), (0), (by first | rfl | (simp; done) | (simp [*]; done)), H', ⟨Nat.le_refl _⟩, ⟨kR HO236.out⟩, ⟨kB HB.out⟩⟩
 case round =>
  clear H'
  try clear c1
  try clear p2
  obtain ⟨x3_1, x4_1, rfl, HA, HK1, HO_3, HB⟩ := hrel
  cases gk with
  | zero => exact absurd HA.out (by simp [modillionref09_Values.l0])
  | succ k1 =>
   have H := HA.out
   clear HA
   simp only [modillionref09_Values.l0] at H
   by_cases c4 : x4_1 < (l0.length : Int)
   ·rw [if_pos c4] at H
    have c4b0 := decide_eq_true c4
    clear c4
    obtain ⟨c5, H⟩ := iteS20 H
    have c5b0 : decide (0 ≤ x4_1) = true := decide_eq_true c5
    clear c5
    obtain ⟨c6, H⟩ := iteS20 H
    have LMc6 := Aside0.mk c6
    clear c6
    obtain ⟨y238, hy238⟩ : ∃ y_ : List Int, y_ = (x3_1 ++ [(rd_T50 l0 x4_1).f1]) := ⟨_, rfl⟩
    replace H : (modillionref09_Values.l0 k1 l0 y238 (wrap64 (x4_1 + 1))) = some r := by first | (rw [hy238]; with_reducible exact H) | (have H2_ := (Option.bind_some _ _).symm.trans H; rw [hy238]; with_reducible exact H2_) | (have H2_ := (Option.bind_some _ _).symm.trans H; with_reducible exact H2_) | with_reducible exact H | (rw [hy238]; exact H) | exact H
    have Ny238 := Aside0.mk hy238
    clear hy238
    have H' := Aside0.mk H
    clear H
    have p237 : 0 ≤ (x4_1 : Int) := of_decide_eq_true (by first | (with_reducible assumption) | assumption)
    have q237 : x4_1 < (l0.length : Int) := of_decide_eq_true (by first | (with_reducible assumption) | assumption)
    obtain ⟨ad237, e237, hx237_0, hx237_1, hx237_2, hx237_3, hx237_4⟩ := at_T50 HR0.out x4_1 p237 q237
    cases e237
    replace hx237_0 := (HB.out.cell (World.block_lt_of_cell? w _ hx237_0)).trans hx237_0
    replace hx237_1 := (HB.out.cell (World.block_lt_of_cell? w _ hx237_1)).trans hx237_1
    replace hx237_2 := (HB.out.cell (World.block_lt_of_cell? w _ hx237_2)).trans hx237_2
    replace hx237_3 := (HB.out.cell (World.block_lt_of_cell? w _ hx237_3)).trans hx237_3
    replace hx237_4 := (HB.out.cell (World.block_lt_of_cell? w _ hx237_4)).trans hx237_4
    replace p237 := eq_true p237
    replace q237 := eq_true q237
    go_wp2_with (first | ((with_reducible refine gate_builtin (b := .append) (xs := #[.tmp 12, .tmp 18]) rfl ?_); at_builtin; refine Kd.R_append (Kd.int .i64) (w0 := w) w.heap.size rfl (.tmp 12) (.tmp 18) 38 2 (.int .i64 0) 8 rfl Tryz.underlying38 info2 rfl (by decide) (by omega) u3 x3_1 ((rd_T50 l0 x4_1).f1) [.int .i64 ((rd_T50 l0 x4_1).f1)] (fun _ => True) (fun _ => False) rfl rfl ?aP (fun _ hk => hk.elim) ?aF ?aO ?aB ?aS ?aL ?_; (case aP => exact rfl); (case aB => exact (kB HB.out)); (case aF => exact (fun _ _ => trivial)); (case aO => exact (kR HO_3.out)); (case aS => exact (below_size (kB HB.out))); (case aL => have := LMc6.out; omega); intro v239 w7 ho hb hg hat; rw [← Ny238.out] at ho; have n0_ := Aside0.mk (hb); have n1_ := Aside0.mk (ho); clear HB; clear HO_3; have HB := n0_; have HO240 := n1_; clear n0_ n1_; clear ho hb hg hat))
    go_roundg k1
    case measure => have := HK1.out; omega
    case rel => exact ⟨(y238), (wrap64 (x4_1 + 1)), (by first | rfl | (simp; done) | (simp [*]; done)), H', ⟨by have := HK1.out; omega⟩, ⟨kR HO240.out⟩, ⟨kB HB.out⟩⟩
   ·rw [if_neg c4] at H
    have c4b0 := decide_eq_false c4
    clear c4
    obtain rfl := Option.some.inj H
    go_wp2
    go_ret
    exact ⟨_, by first | rfl | (simp [errW_none, errW_some] <;> rfl) | (simp [*, errW_none, errW_some] <;> rfl), by exact kR HO_3.out, by exact kB HB.out⟩

end Go.Proofs.YtpndhkeoljoapaaGreat.P
