/- What these Go functions compute, as Lean functions, and that they do. No condition. -/
import Derived.Test.YtpndhkeoljoapaaGreatPx0
namespace Go.Proofs.YtpndhkeoljoapaaGreat.P
open Go.RowKit Go.Proofs.YtpndhkeoljoapaaGreatW.PrintWords Go.Proofs.YtpndhkeoljoapaaGreatW.PrintLast Go.Proofs.YtpndhkeoljoapaaGreatW.PrintMore
attribute [local go_sem] max2_int min2_int max_two min_two max_three min_three max_four min_four   -- for this text's walks alone
set_option linter.unusedVariables false
set_option linter.unusedSimpArgs false
set_option linter.unnecessarySimpa false
theorem iteS16 {α : Type} {c : Prop} [Decidable c] {a : Option α} {r : α} (h : (if c then a else none) = some r) : c ∧ a = some r := by
 by_cases hc : c
 ·rw [if_pos hc] at h; exact ⟨hc, h⟩
 ·rw [if_neg hc] at h; cases h

/-! ### modillionref05_Norm: function 76 -/
mutual
def modillionref05_Norm.l0 : Nat → Int → Int → List (S48) → Int → List (S48) → Option (Int × (List (S48)))
 | 0, _, _, _, _, _ => none
 | k + 1, x4, x180000, x180001, x182000, x182001 => if x4 < x180000 then (modillionref05_Norm.l1 k x4 0 x180000 x180001 x182000 x182001) else (some (x182000, x182001))
def modillionref05_Norm.l1 : Nat → Int → Int → Int → List (S48) → Int → List (S48) → Option (Int × (List (S48)))
 | 0, _, _, _, _, _, _ => none
 | k + 1, x4, x5, x180000, x180001, x182000, x182001 => if x5 < x180000 then (modillionref05_Norm.l2 k x4 x5 0 x180000 x180001 x182000 x182001) else (modillionref05_Norm.l0 k (wrap64 (x4 + 1)) x180000 x180001 x182000 x182001)
def modillionref05_Norm.l2 : Nat → Int → Int → Int → Int → List (S48) → Int → List (S48) → Option (Int × (List (S48)))
 | 0, _, _, _, _, _, _, _ => none
 | k + 1, x4, x5, x6, x180000, x180001, x182000, x182001 => if x6 < (x180001.length : Int) then (if 0 ≤ x6 then (if ((rd_T48 x180001 x6).f0) = x4 then (if ((rd_T48 x180001 x6).f1) = x5 then (if x182001.length < 5864062014805 then (modillionref05_Norm.l2 k x4 x5 (wrap64 (x6 + 1)) x180000 x180001 x182000 (x182001 ++ [(⟨(rd_T48 x180001 x6).f0, (rd_T48 x180001 x6).f1, (rd_T48 x180001 x6).f2⟩ : S48)])) else (none)) else (modillionref05_Norm.l2 k x4 x5 (wrap64 (x6 + 1)) x180000 x180001 x182000 x182001)) else (modillionref05_Norm.l2 k x4 x5 (wrap64 (x6 + 1)) x180000 x180001 x182000 x182001)) else (none)) else (modillionref05_Norm.l1 k x4 (wrap64 (x5 + 1)) x180000 x180001 x182000 x182001)
end
def modillionref05_Norm.f (k : Nat) (a0_0 : Int) (l0_1 : List (S48)) : Option (Int × (List (S48))) := modillionref05_Norm.l0 k 0 a0_0 l0_1 a0_0 ([] : List (S48))
theorem modillionref05_Norm.mono_l : ∀ k, (∀ y0 y1 y2 y3 y4, LeO (modillionref05_Norm.l0 k y0 y1 y2 y3 y4) (modillionref05_Norm.l0 (k + 1) y0 y1 y2 y3 y4)) ∧ (∀ y0 y1 y2 y3 y4 y5, LeO (modillionref05_Norm.l1 k y0 y1 y2 y3 y4 y5) (modillionref05_Norm.l1 (k + 1) y0 y1 y2 y3 y4 y5)) ∧ (∀ y0 y1 y2 y3 y4 y5 y6, LeO (modillionref05_Norm.l2 k y0 y1 y2 y3 y4 y5 y6) (modillionref05_Norm.l2 (k + 1) y0 y1 y2 y3 y4 y5 y6))
 | 0 => ⟨fun _ _ _ _ _ r h => by simp [modillionref05_Norm.l0] at h, fun _ _ _ _ _ _ r h => by simp [modillionref05_Norm.l1] at h, fun _ _ _ _ _ _ _ r h => by simp [modillionref05_Norm.l2] at h⟩
 | k + 1 => by
  obtain ⟨ih0, ih1, ih2⟩ := modillionref05_Norm.mono_l k
  refine ⟨?_, ?_, ?_⟩
  all_goals
   intros
   (first | unfold modillionref05_Norm.l0 | unfold modillionref05_Norm.l1 | unfold modillionref05_Norm.l2)
   repeat' first
   | (with_reducible exact ih0 _ _ _ _ _)
   | (with_reducible exact ih1 _ _ _ _ _ _)
   | (with_reducible exact ih2 _ _ _ _ _ _ _)
   | (with_reducible exact LeO.refl _)
   | (with_reducible exact LeO.none _)
   | (with_reducible refine LeO.ite ?_ ?_)
   | (with_reducible refine LeO.bind ?_ (fun _ => ?_))
   | exact ih0 _ _ _ _ _
   | exact ih1 _ _ _ _ _ _
   | exact ih2 _ _ _ _ _ _ _
   | exact LeO.none _
   | refine LeO.ite ?_ ?_
   | refine LeO.bind ?_ (fun _ => ?_)
theorem modillionref05_Norm.mono : ∀ a0 a1 k, LeO (modillionref05_Norm.f k a0 a1) (modillionref05_Norm.f (k + 1) a0 a1) := by
 intro a0 a1 k
 obtain ⟨ih0, ih1, ih2⟩ := modillionref05_Norm.mono_l k
 unfold modillionref05_Norm.f
 repeat' first
   | (with_reducible exact ih0 _ _ _ _ _)
   | (with_reducible exact ih1 _ _ _ _ _ _)
   | (with_reducible exact ih2 _ _ _ _ _ _ _)
   | (with_reducible exact LeO.refl _)
   | (with_reducible exact LeO.none _)
   | (with_reducible refine LeO.ite ?_ ?_)
   | (with_reducible refine LeO.bind ?_ (fun _ => ?_))
   | exact ih0 _ _ _ _ _
   | exact ih1 _ _ _ _ _ _
   | exact ih2 _ _ _ _ _ _ _
   | exact LeO.none _
   | refine LeO.ite ?_ ?_
   | refine LeO.bind ?_ (fun _ => ?_)
def modillionref05_Norm.T12 : Bool × List (List Nat × List Nat) := (true, [([], []), ([0], [0]), ([], []), ([2], [2]), ([], []), ([3, 4], [3, 4]), ([5], [5]), ([6], [6]), ([1, 7], [1, 7]), ([0, 1, 2, 3, 4, 5, 6, 7, 8], []), ([9, 8, 8, 0, 1, 2, 3, 4, 5, 6, 7, 8], [8, 9])])
def modillionref05_Norm.B12 : List Nat := [0, 1, 0, 4, 0, 28, 60, 124, 255, 511, 1023]
theorem modillionref05_Norm.tab12 : rtab .any (opsOf Tryz.f76 12) = modillionref05_Norm.T12 := by kernel_rfl
theorem modillionref05_Norm.bits12 : waitsOk modillionref05_Norm.T12.2 modillionref05_Norm.B12 = true := by kernel_rfl
set_option maxHeartbeats 8000000 in
set_option maxRecDepth 100000 in
theorem modillionref05_Norm.calls (k : Nat) (a0_0 : Int) (A0_1 : Option Addr) (c0_1 : Nat) (l0_1 : List (S48)) (r1 : Int) (r2 : List (S48)) (w : World) (hr0_1 : Kd.C k48 w A0_1 l0_1.length l0_1) (hc0_1 : l0_1.length ≤ c0_1) (h : modillionref05_Norm.f k a0_0 l0_1 = some (r1, r2)) :
  Calls Tryz.prog 76 #[.agg #[.int .i64 a0_0, .slice A0_1 l0_1.length c0_1]] w fun e w' => ∃ v1_ : Value, e = .returned (.agg #[.int .i64 r1, v1_]) ∧ Kd.R k48 48 w' w.heap.size (fun _ => True) v1_ r2 ∧ Below w.heap.size w w' := by
 have hu24 := Tryz.underlying24
 have hu48 := Tryz.underlying48
 have HR0_1 := Aside0.mk hr0_1
 have HC0_1 := Aside0.mk hc0_1
 clear hr0_1 hc0_1
 have HB := Aside0.mk (Below.refl w.heap.size w)
 have H : (modillionref05_Norm.l0 k 0 a0_0 l0_1 a0_0 ([] : List (S48))) = some (r1, r2) := h
 clear h
 have H' := Aside0.mk H
 clear H
 go_enter Tryz.func76, Tryz.ntmps76
 go_wp2_with (first | ((with_reducible refine gate_dst (N := 1) rfl ?_); refine bE_ #[.int .i64 a0_0, .slice A0_1 l0_1.length c0_1] 24 ?_; intro gb179 hg w2 hbox hb; have BK179 := Aside0.mk hbox; have GW179 := gS hg HB; have GE179 := gS hg HB; replace HB := bS HB hb; clear hb hbox hg) | ((with_reducible refine gate_dst (N := 2) rfl ?_); refine bE_ #[.int .i64 0, .slice none 0 0] 24 ?_; intro gb180 hg w3 hbox hb; have BK180 := Aside0.mk hbox; have GW180 := gS hg HB; have GE180 := gS hg HB; have NB179_180 := nL hg BK179; have NB180_179 := nG hg BK179; replace BK179 := aS BK179 hb; replace HB := bS HB hb; clear hb hbox hg; have := NB179_180.out; have := NB180_179.out; have hcz5_0 : w3.cell? ⟨gb179, 0, none⟩ = some (.int .i64 a0_0) := (blk_cell BK179.out 0).trans rfl; have hcz5_1 : w3.cell? ⟨gb179, 1, none⟩ = some (.slice A0_1 l0_1.length c0_1) := (blk_cell BK179.out 1).trans rfl; have hfz5_0 := blk_frozen BK179.out 0; have hfz5_1 := blk_frozen BK179.out 1) | ((with_reducible refine gate_dst (N := 3) rfl ?_); refine bE_ #[.int .i64 0, .slice none 0 0] 24 ?_; intro gb181 hg w6 hbox hb; have BK181 := Aside0.mk hbox; have GW181 := gS hg HB; have GE181 := gS hg HB; have NB179_181 := nL hg BK179; have NB181_179 := nG hg BK179; have NB180_181 := nL hg BK180; have NB181_180 := nG hg BK180; replace BK179 := aS BK179 hb; replace BK180 := aS BK180 hb; replace HB := bS HB hb; clear hb hbox hg; have := NB181_179.out; have := NB179_181.out; have := NB181_180.out; have := NB180_181.out; have hcz9_0 : w6.cell? ⟨gb181, 0, none⟩ = some (.int .i64 0) := (blk_cell BK181.out 0).trans rfl; have hcz9_1 : w6.cell? ⟨gb181, 1, none⟩ = some (.slice none 0 0) := (blk_cell BK181.out 1).trans rfl; have hfz9_0 := blk_frozen BK181.out 0; have hfz9_1 := blk_frozen BK181.out 1))
 go_loopg [4] k (fun kq v4 w' => ∃ (x4_1 : Int) (x182001_1 : List (S48)) (u182001 : Value), v4 = .int .i64 x4_1 ∧ Aside0 (modillionref05_Norm.l0 kq x4_1 a0_0 l0_1 a0_0 x182001_1 = some (r1, r2)) ∧ Aside0 (kq ≤ k) ∧ Aside0 (Kd.R k48 48 w' w.heap.size (fun _ => True) u182001 x182001_1) ∧ Aside0 (w'.heap[gb179]? = some (.cells #[.int .i64 a0_0, (.slice A0_1 l0_1.length c0_1)] 24 (0, 0))) ∧ Aside0 (w'.heap[gb180]? = some (.cells #[.int .i64 0, (.slice none 0 0)] 24 (0, 0))) ∧ Aside0 (w'.heap[gb181]? = some (.cells #[.int .i64 a0_0, u182001] 24 (0, 0))) ∧ Aside0 (Below w.heap.size w w'))
 case atStart => exact ⟨(0), (([] : List (S48))), (.slice none 0 0), (by first | rfl | (simp; done) | (simp [*]; done)), H', ⟨Nat.le_refl _⟩, ⟨by first | exact Kd.R_nil _ _ _ _ _ | exact Kd.N_nil _ _ _ _ _ | exact Kd.V_nil _ _ _ _ _ | exact Kd.Q_nil _ _ _ _ _ | exact Kd.S_nil _ _ _ _ _⟩, ⟨kF NB179_181.out BK179.out⟩, ⟨kF NB180_181.out BK180.out⟩, ⟨by (with_reducible repeat (first | refine blk_drewN ?_ _ | refine blk_drew ?_ | refine blk_alloc ?_ _)); refine blk_put (cs := #[.int .i64 a0_0, .slice none 0 0]) ?_ 1 _ rfl; refine blk_put (cs := #[.int .i64 0, .slice none 0 0]) ?_ 0 _ rfl; exact kA BK181.out⟩, ⟨kB HB.out⟩⟩
 case round =>
  clear H'
  try clear p2
  try clear c4
  try clear c7
  try clear c8
  try clear hcz5_0
  try clear hcz5_1
  try clear hcz9_0
  try clear hcz9_1
  try clear hfz5_0
  try clear hfz5_1
  try clear hfz9_0
  try clear hfz9_1
  obtain ⟨x4_1, x182001_1, u182001, rfl, HA, HK1, HO_182001, BK179, BK180, BK181, HB⟩ := hrel
  cases gk with
  | zero => exact absurd HA.out (by simp [modillionref05_Norm.l0])
  | succ k1 =>
   have H := HA.out
   clear HA
   simp only [modillionref05_Norm.l0] at H
   by_cases c10 : x4_1 < a0_0
   ·rw [if_pos c10] at H
    have c10b0 := decide_eq_true c10
    clear c10
    have H' := Aside0.mk H
    clear H
    have := NB179_180.out
    have := NB180_179.out
    have := NB179_181.out
    have := NB181_179.out
    obtain ⟨hcz13_0, hcz13_1, hfz13_0, hfz13_1⟩ := q2z wr BK179.out
    go_wp2
    go_loopg [5] k1 (fun kq v5 w' => ∃ (x5_2 : Int) (x182001_2 : List (S48)) (u182001 : Value), v5 = .int .i64 x5_2 ∧ Aside0 (modillionref05_Norm.l1 kq x4_1 x5_2 a0_0 l0_1 a0_0 x182001_2 = some (r1, r2)) ∧ Aside0 (kq ≤ k1) ∧ Aside0 (Kd.R k48 48 w' w.heap.size (fun _ => True) u182001 x182001_2) ∧ Aside0 (w'.heap[gb179]? = some (.cells #[.int .i64 a0_0, (.slice A0_1 l0_1.length c0_1)] 24 (0, 0))) ∧ Aside0 (w'.heap[gb180]? = some (.cells #[.int .i64 0, (.slice none 0 0)] 24 (0, 0))) ∧ Aside0 (w'.heap[gb181]? = some (.cells #[.int .i64 a0_0, u182001] 24 (0, 0))) ∧ Aside0 (Below w.heap.size w w'))
    case atStart => exact ⟨(0), (x182001_1), (u182001), (by first | rfl | (simp; done) | (simp [*]; done)), H', ⟨Nat.le_refl _⟩, ⟨kR HO_182001.out⟩, ⟨kA BK179.out⟩, ⟨kA BK180.out⟩, ⟨kA BK181.out⟩, ⟨kB HB.out⟩⟩
    case round =>
     clear H'
     try clear c1
     try clear p2
     try clear c4
     try clear c7
     try clear c8
     try clear c10
     try clear c10b0
     try clear c11
     try clear c12
     try clear hcz13_0
     try clear hcz13_1
     try clear hcz5_0
     try clear hcz5_1
     try clear hcz9_0
     try clear hcz9_1
     try clear hfz13_0
     try clear hfz13_1
     try clear hfz5_0
     try clear hfz5_1
     try clear hfz9_0
     try clear hfz9_1
     try clear p2
     obtain ⟨x5_2, x182001_2, u182001, rfl, HA, HK2, HO_182001, BK179, BK180, BK181, HB⟩ := hrel
     cases gk with
     | zero => exact absurd HA.out (by simp [modillionref05_Norm.l1])
     | succ k2 =>
      have H := HA.out
      clear HA
      simp only [modillionref05_Norm.l1] at H
      by_cases c14 : x5_2 < a0_0
      ·rw [if_pos c14] at H
       have c14b0 : decide (x5_2 < a0_0) = true := decide_eq_true c14
       clear c14
       have H' := Aside0.mk H
       clear H
       have := NB179_180.out
       have := NB180_179.out
       have := NB179_181.out
       have := NB181_179.out
       obtain ⟨hcz17_0, hcz17_1, hfz17_0, hfz17_1⟩ := q2z wr BK179.out
       go_wp2
       go_loopg [6] k2 (fun kq v6 w' => ∃ (x6_3 : Int) (x182001_3 : List (S48)) (u182001 : Value), v6 = .int .i64 x6_3 ∧ Aside0 (modillionref05_Norm.l2 kq x4_1 x5_2 x6_3 a0_0 l0_1 a0_0 x182001_3 = some (r1, r2)) ∧ Aside0 (kq ≤ k2) ∧ Aside0 (Kd.R k48 48 w' w.heap.size (fun _ => True) u182001 x182001_3) ∧ Aside0 (w'.heap[gb179]? = some (.cells #[.int .i64 a0_0, (.slice A0_1 l0_1.length c0_1)] 24 (0, 0))) ∧ Aside0 (w'.heap[gb180]? = some (.cells #[.int .i64 0, (.slice none 0 0)] 24 (0, 0))) ∧ Aside0 (w'.heap[gb181]? = some (.cells #[.int .i64 a0_0, u182001] 24 (0, 0))) ∧ Aside0 (Below w.heap.size w w'))
       case atStart => exact ⟨(0), (x182001_2), (u182001), (by first | rfl | (simp; done) | (simp [*]; done)), H', ⟨Nat.le_refl _⟩, ⟨kR HO_182001.out⟩, ⟨kA BK179.out⟩, ⟨kA BK180.out⟩, ⟨kA BK181.out⟩, ⟨kB HB.out⟩⟩
       case round =>
        clear H'
        try clear c1
        try clear p2
        try clear c4
        try clear c7
        try clear c8
        try clear c10
        try clear c10b0
        try clear c11
        try clear c12
        try clear c14
        try clear c14b0
        try clear c15
        try clear c16
        try clear hcz13_0
        try clear hcz13_1
        try clear hcz17_0
        try clear hcz17_1
        try clear hcz5_0
        try clear hcz5_1
        try clear hcz9_0
        try clear hcz9_1
        try clear hfz13_0
        try clear hfz13_1
        try clear hfz17_0
        try clear hfz17_1
        try clear hfz5_0
        try clear hfz5_1
        try clear hfz9_0
        try clear hfz9_1
        try clear p2
        obtain ⟨x6_3, x182001_3, u182001, rfl, HA, HK3, HO_182001, BK179, BK180, BK181, HB⟩ := hrel
        cases gk with
        | zero => exact absurd HA.out (by simp [modillionref05_Norm.l2])
        | succ k3 =>
         have H := HA.out
         clear HA
         simp only [modillionref05_Norm.l2] at H
         by_cases c18 : x6_3 < (l0_1.length : Int)
         ·rw [if_pos c18] at H
          have c18b0 := decide_eq_true c18
          clear c18
          obtain ⟨c19, H⟩ := iteS16 H
          have c19b0 := decide_eq_true c19
          clear c19
          by_cases c20 : ((rd_T48 l0_1 x6_3).f0) = x4_1
          ·rw [if_pos c20] at H
           have c20b0 : (((rd_T48 l0_1 x6_3).f0) == x4_1) = true := beq_iff_eq.mpr c20
           have c20b1 : (((rd_T48 l0_1 x6_3).f0) != x4_1) = false := bne_eq_false_iff_eq.mpr c20
           clear c20
           by_cases c21 : ((rd_T48 l0_1 x6_3).f1) = x5_2
           ·rw [if_pos c21] at H
            have c21b0 : (((rd_T48 l0_1 x6_3).f1) == x5_2) = true := beq_iff_eq.mpr c21
            have c21b1 : (((rd_T48 l0_1 x6_3).f1) != x5_2) = false := bne_eq_false_iff_eq.mpr c21
            clear c21
            obtain ⟨c22, H⟩ := iteS16 H
            have LMc22 := Aside0.mk c22
            clear c22
            obtain ⟨y185, hy185⟩ : ∃ y_ : List (S48), y_ = (x182001_3 ++ [(⟨(rd_T48 l0_1 x6_3).f0, (rd_T48 l0_1 x6_3).f1, (rd_T48 l0_1 x6_3).f2⟩ : S48)]) := ⟨_, rfl⟩
            replace H : (modillionref05_Norm.l2 k3 x4_1 x5_2 (wrap64 (x6_3 + 1)) a0_0 l0_1 a0_0 y185) = some (r1, r2) := by first | (rw [hy185]; with_reducible exact H) | (have H2_ := (Option.bind_some _ _).symm.trans H; rw [hy185]; with_reducible exact H2_) | (have H2_ := (Option.bind_some _ _).symm.trans H; with_reducible exact H2_) | with_reducible exact H | (rw [hy185]; exact H) | exact H
            have Ny185 := Aside0.mk hy185
            clear hy185
            have H' := Aside0.mk H
            clear H
            have := NB179_180.out
            have := NB180_179.out
            have := NB179_181.out
            have := NB181_179.out
            obtain ⟨_, _, _, _⟩ := q2z wr BK179.out
            have p182 : 0 ≤ (x6_3 : Int) := of_decide_eq_true (by first | (with_reducible assumption) | assumption)
            have q182 : x6_3 < (l0_1.length : Int) := of_decide_eq_true (by first | (with_reducible assumption) | assumption)
            obtain ⟨ad182, e182, hx182_0, hx182_1, hx182_2⟩ := at_T48 HR0_1.out x6_3 p182 q182
            cases e182
            replace hx182_0 := (HB.out.cell (World.block_lt_of_cell? w _ hx182_0)).trans hx182_0
            replace hx182_1 := (HB.out.cell (World.block_lt_of_cell? w _ hx182_1)).trans hx182_1
            replace hx182_2 := (HB.out.cell (World.block_lt_of_cell? w _ hx182_2)).trans hx182_2
            replace p182 := eq_true p182
            replace q182 := eq_true q182
            have p183 : 0 ≤ (x6_3 : Int) := of_decide_eq_true (by first | (with_reducible assumption) | assumption)
            have q183 : x6_3 < (l0_1.length : Int) := of_decide_eq_true (by first | (with_reducible assumption) | assumption)
            obtain ⟨ad183, e183, hx183_0, hx183_1, hx183_2⟩ := at_T48 HR0_1.out x6_3 p183 q183
            obtain rfl : ad182 = ad183 := (by injection e183)
            replace hx183_0 := (HB.out.cell (World.block_lt_of_cell? w _ hx183_0)).trans hx183_0
            replace hx183_1 := (HB.out.cell (World.block_lt_of_cell? w _ hx183_1)).trans hx183_1
            replace hx183_2 := (HB.out.cell (World.block_lt_of_cell? w _ hx183_2)).trans hx183_2
            replace p183 := eq_true p183
            replace q183 := eq_true q183
            try go_wp2
            replace HO_182001 := Aside0.mk (Kd.R_drew HO_182001.out)
            replace BK179 := Aside0.mk (blk_drew BK179.out)
            replace BK180 := Aside0.mk (blk_drew BK180.out)
            replace BK181 := Aside0.mk (blk_drew BK181.out)
            replace HB := Aside0.mk (below_drew1 HB.out)
            have p184 : 0 ≤ (x6_3 : Int) := of_decide_eq_true (by first | (with_reducible assumption) | assumption)
            have q184 : x6_3 < (l0_1.length : Int) := of_decide_eq_true (by first | (with_reducible assumption) | assumption)
            obtain ⟨ad184, e184, hx184_0, hx184_1, hx184_2⟩ := at_T48 HR0_1.out x6_3 p184 q184
            have hw184_2 := hx184_2
            have hw184_1 := hx184_1
            have hw184_0 := hx184_0
            obtain rfl : ad182 = ad184 := (by injection e184)
            replace hx184_0 := (HB.out.cell (World.block_lt_of_cell? w _ hx184_0)).trans hx184_0
            replace hx184_1 := (HB.out.cell (World.block_lt_of_cell? w _ hx184_1)).trans hx184_1
            replace hx184_2 := (HB.out.cell (World.block_lt_of_cell? w _ hx184_2)).trans hx184_2
            replace p184 := eq_true p184
            replace q184 := eq_true q184
            refine start_ (n := 11) (S := fun w' => w'.cell? ⟨gb181, 0, none⟩ = some (.int .i64 a0_0) ∧ w'.cell? ⟨gb181, 1, none⟩ = some (u182001) ∧ w'.cell? ⟨gb179, 0, none⟩ = some (.int .i64 a0_0) ∧ w'.cell? ⟨gb179, 1, none⟩ = some (.slice (some ad182) l0_1.length c0_1) ∧ w'.cell? (ad182.add ((x6_3).toNat * 3)) = some (.int .i64 ((rd_T48 l0_1 x6_3).f0)) ∧ w'.cell? ⟨(ad182.add ((x6_3).toNat * 3)).block, (ad182.add ((x6_3).toNat * 3)).off + 1, none⟩ = some (.int .i64 ((rd_T48 l0_1 x6_3).f1)) ∧ w'.cell? ⟨(ad182.add ((x6_3).toNat * 3)).block, (ad182.add ((x6_3).toNat * 3)).off + 2, none⟩ = some (.int .i64 ((rd_T48 l0_1 x6_3).f2))) (ds := [10]) #[false, false, false, false, false, false, false, false, false, false, false] (by kernel_rfl) rfl rfl ⟨(blk_cell BK181.out 0).trans rfl, (blk_cell BK181.out 1).trans rfl, (blk_cell BK179.out 0).trans rfl, (blk_cell BK179.out 1).trans rfl, ((HB.out.cell (World.block_lt_of_cell? w _ hw184_0)).trans hw184_0), ((HB.out.cell (World.block_lt_of_cell? w _ hw184_1)).trans hw184_1), ((HB.out.cell (World.block_lt_of_cell? w _ hw184_2)).trans hw184_2)⟩ (fun hHeld => ?_); refine with_tabW modillionref05_Norm.tab12 modillionref05_Norm.bits12 (fun HT_ HW_ => ?_)
            generalize wr.drew = w26 at HO_182001 BK179 BK180 BK181 HB hx184_0 hx184_1 hx184_2 hHeld ⊢
            refine pure_ (i := 0) (N := some 47) (v := ?_) (a' := ?_) #[true, false, false, false, false, false, false, false, false, false, false] rfl rfl (any_of HT_.out (by kernel_rfl)) (fun _ _ _ h => h) (Or.inl ⟨by rfl, ?_⟩) ?_ ?_
            rotate_left
            ·intro w'
             go_simp
             with_reducible rfl
            rotate_left
            ·simp only [Act.put, List.setIfInBounds_toArray, List.set_cons_zero, List.set_cons_succ, i64_w, i32_w]
             rfl
            refine pure_ (i := 2) (N := some 49) (v := ?_) (a' := ?_) #[true, false, true, false, false, false, false, false, false, false, false] rfl rfl (any_of HT_.out (by kernel_rfl)) (fun _ _ _ h => h) (Or.inl ⟨by rfl, ?_⟩) ?_ ?_
            rotate_left
            ·intro w'
             go_simp
             with_reducible rfl
            rotate_left
            ·simp only [Act.put, List.setIfInBounds_toArray, List.set_cons_zero, List.set_cons_succ, i64_w, i32_w]
             rfl
            refine pure_ (i := 4) (N := some 51) (v := ?_) (a' := ?_) #[true, false, true, false, true, false, false, false, false, false, false] rfl rfl (any_of HT_.out (by kernel_rfl)) (fun _ _ _ h => h) (Or.inl ⟨by rfl, ?_⟩) ?_ ?_
            rotate_left
            ·intro w'
             go_simp
             with_reducible rfl
            rotate_left
            ·simp only [Act.put, List.setIfInBounds_toArray, List.set_cons_zero, List.set_cons_succ, i64_w, i32_w]
             rfl
            refine take_ (i := 1) (N := some 48) (v := ?_) (a' := ?_) #[true, true, true, false, true, false, false, false, false, false, false] rfl rfl (take_ofW HT_.out HW_.out (by kernel_rfl)) (fun _ _ _ h => h) (Or.inl ⟨by rfl, ?_⟩) hHeld ?_ ?_
            rotate_left
            ·rintro w' ⟨s0, s1, s2, s3, s4, s5, s6⟩
             go_simp
             with_reducible rfl
            rotate_left
            ·simp only [Act.put, List.setIfInBounds_toArray, List.set_cons_zero, List.set_cons_succ, i64_w, i32_w]
             rfl
            refine take_ (i := 3) (N := some 50) (v := ?_) (a' := ?_) #[true, true, true, true, true, false, false, false, false, false, false] rfl rfl (take_ofW HT_.out HW_.out (by kernel_rfl)) (fun _ _ _ h => h) (Or.inl ⟨by rfl, ?_⟩) hHeld ?_ ?_
            rotate_left
            ·rintro w' ⟨s0, s1, s2, s3, s4, s5, s6⟩
             go_simp
             with_reducible rfl
            rotate_left
            ·simp only [Act.put, List.setIfInBounds_toArray, List.set_cons_zero, List.set_cons_succ, i64_w, i32_w]
             rfl
            refine pure_ (i := 5) (N := some 52) (v := ?_) (a' := ?_) #[true, true, true, true, true, true, false, false, false, false, false] rfl rfl (any_of HT_.out (by kernel_rfl)) (fun _ _ _ h => h) (Or.inl ⟨by rfl, ?_⟩) ?_ ?_
            rotate_left
            ·intro w'
             go_simp
             with_reducible rfl
            rotate_left
            ·simp only [Act.put, List.setIfInBounds_toArray, List.set_cons_zero, List.set_cons_succ, i64_w, i32_w]
             rfl
            refine take_ (i := 6) (N := some 53) (v := ?_) (a' := ?_) #[true, true, true, true, true, true, true, false, false, false, false] rfl rfl (take_ofW HT_.out HW_.out (by kernel_rfl)) (fun _ _ _ h => h) (Or.inl ⟨by rfl, ?_⟩) hHeld ?_ ?_
            rotate_left
            ·rintro w' ⟨s0, s1, s2, s3, s4, s5, s6⟩
             go_simp
             with_reducible rfl
            rotate_left
            ·simp only [Act.put, List.setIfInBounds_toArray, List.set_cons_zero, List.set_cons_succ, i64_w, i32_w]
             rfl
            refine one_ (i := 7) (N := some 54) #[true, true, true, true, true, true, true, true, false, false, false] rfl rfl (one_of HT_.out (by kernel_rfl)) (by decide) (fun K hK => ?_)
            refine value_ (w1 := ?_) (v := ?_) (by rfl) rfl ?_ ?_
            rotate_left 2
            ·go_simp
             constructor
             ·rfl
             ·rfl
            refine hK.out _ _ ⟨(blk_cell (blk_alloc BK181.out _) 0).trans rfl, (blk_cell (blk_alloc BK181.out _) 1).trans rfl, (blk_cell (blk_alloc BK179.out _) 0).trans rfl, (blk_cell (blk_alloc BK179.out _) 1).trans rfl, (World.cell?_alloc_lt _ _ _ (World.block_lt_of_cell? _ _ (((HB.out.cell (World.block_lt_of_cell? w _ hw184_0)).trans hw184_0)))).trans (((HB.out.cell (World.block_lt_of_cell? w _ hw184_0)).trans hw184_0)), (World.cell?_alloc_lt _ _ _ (World.block_lt_of_cell? _ _ (((HB.out.cell (World.block_lt_of_cell? w _ hw184_1)).trans hw184_1)))).trans (((HB.out.cell (World.block_lt_of_cell? w _ hw184_1)).trans hw184_1)), (World.cell?_alloc_lt _ _ _ (World.block_lt_of_cell? _ _ (((HB.out.cell (World.block_lt_of_cell? w _ hw184_2)).trans hw184_2)))).trans (((HB.out.cell (World.block_lt_of_cell? w _ hw184_2)).trans hw184_2))⟩ (fun hHeld => ?_)
            clear hK K
            refine norm_ (a' := ?_) ?_ ?_
            rotate_left
            ·show Act.put _ (some 54) _ = _
             simp only [Act.put, List.setIfInBounds_toArray, List.set_cons_zero, List.set_cons_succ, i64_w, i32_w]
             rfl
            refine one_ (i := 8) (N := some 55) #[true, true, true, true, true, true, true, true, true, false, false] rfl rfl (one_of HT_.out (by kernel_rfl)) (by decide) (fun K hK => ?_)
            refine Kd.R_append_step k48 (w0 := w) w.heap.size (by rfl) (.tmp 48) (.tmp 54) 22 48 (.agg #[(.int .i64 0), (.int .i64 0), (.int .i64 0)]) 24 rfl Tryz.underlying22 info48 rfl (by decide) (by omega) u182001 x182001_3 (⟨(rd_T48 l0_1 x6_3).f0, (rd_T48 l0_1 x6_3).f1, (rd_T48 l0_1 x6_3).f2⟩ : S48) [.int .i64 ((rd_T48 l0_1 x6_3).f0), .int .i64 ((rd_T48 l0_1 x6_3).f1), .int .i64 ((rd_T48 l0_1 x6_3).f2)] (fun _ => True) (fun _ => False) rfl rfl ?aP (fun _ hk => hk.elim) ?aF ?aO ?aB ?aS ?aL ?_
            (case aP => exact k48_mkM _ _ _ (⟨(rd_T48 l0_1 x6_3).f0, (rd_T48 l0_1 x6_3).f1, (rd_T48 l0_1 x6_3).f2⟩ : S48))
            (case aB => exact (kB HB.out))
            (case aF => exact (fun _ _ => trivial))
            (case aO => exact (kR HO_182001.out))
            (case aS => exact (below_size (kB HB.out)))
            (case aL => have := LMc22.out; omega)
            intro v186 w27 ho hb hg hat
            rw [← Ny185.out] at ho
            have n0_ := Aside0.mk (blk_grown (g := gb179) (o := .cells #[.int .i64 a0_0, .slice (some ad182) l0_1.length c0_1] 24 (0, 0)) (kA BK179.out) hg (Kd.R_ne HO_182001.out BK179.out (by decide)))
            have n1_ := Aside0.mk (blk_grown (g := gb180) (o := .cells #[.int .i64 0, .slice none 0 0] 24 (0, 0)) (kA BK180.out) hg (Kd.R_ne HO_182001.out BK180.out (by decide)))
            have n2_ := Aside0.mk (blk_grown (g := gb181) (o := .cells #[.int .i64 a0_0, u182001] 24 (0, 0)) (kA BK181.out) hg (Kd.R_ne HO_182001.out BK181.out (by decide)))
            have n3_ := Aside0.mk (hb)
            have n4_ := Aside0.mk (ho)
            clear BK179
            clear BK180
            clear BK181
            clear HB
            clear HO_182001
            have BK179 := n0_
            have BK180 := n1_
            have BK181 := n2_
            have HB := n3_
            have HO187 := n4_
            clear n0_ n1_ n2_ n3_ n4_
            clear ho hb hg hat
            obtain ⟨Ao28, co28, eo28⟩ := Kd.R_slice HO187.out
            (first | subst eo28 | (injection eo28 with f1_ f2_ f3_; have f4_ := f1_.symm; have f5_ := f3_.symm; clear f1_ f2_ f3_; subst f4_; subst f5_))
            refine hK.out _ _ ⟨(blk_cell BK181.out 0).trans rfl, (blk_cell BK181.out 1).trans rfl, (blk_cell BK179.out 0).trans rfl, (blk_cell BK179.out 1).trans rfl, ((HB.out.cell (World.block_lt_of_cell? w _ hw184_0)).trans hw184_0), ((HB.out.cell (World.block_lt_of_cell? w _ hw184_1)).trans hw184_1), ((HB.out.cell (World.block_lt_of_cell? w _ hw184_2)).trans hw184_2)⟩ (fun hHeld => ?_)
            clear hK K
            refine norm_ (a' := ?_) ?_ ?_
            rotate_left
            ·show Act.put _ (some 55) _ = _
             simp only [Act.put, List.setIfInBounds_toArray, List.set_cons_zero, List.set_cons_succ, i64_w, i32_w]
             rfl
            refine pure_ (i := 9) (N := some 56) (v := ?_) (a' := ?_) #[true, true, true, true, true, true, true, true, true, true, false] rfl rfl (any_of HT_.out (by kernel_rfl)) (fun _ _ _ h => h) (Or.inl ⟨by rfl, ?_⟩) ?_ ?_
            rotate_left
            ·intro w'
             go_simp
             with_reducible rfl
            rotate_left
            ·simp only [Act.put, List.setIfInBounds_toArray, List.set_cons_zero, List.set_cons_succ, i64_w, i32_w]
             rfl
            refine last_ (i := 10) (N := none) #[true, true, true, true, true, true, true, true, true, true, true] rfl rfl (one_of HT_.out (by kernel_rfl)) (by decide) (fun K hK => ?_)
            have hs29 : w27.cell? ⟨gb181, 1, none⟩ = some (u182001) := (blk_cell BK181.out 1).trans rfl
            have hfs29 := blk_frozen BK181.out 1
            have hns29_0 := NB179_181.out
            have hns29_1 := NB180_181.out
            have hms29_0 := NB181_179.out
            have hms29_1 := NB181_180.out
            refine skip_ (w1 := ?_) (by rfl) rfl ?_ ?_
            rotate_left
            ·go_simp
             rfl
            refine hK.out _ _ ?_
            clear hK K
            refine done_ (done_of HT_.out (by kernel_rfl)) ?_
            try go_wp2
            go_roundg k3
            case measure => have := HK1.out; have := HK2.out; have := HK3.out; omega
            case rel => exact ⟨(wrap64 (x6_3 + 1)), (y185), (.slice Ao28 y185.length co28), (by first | rfl | (simp; done) | (simp [*]; done)), H', ⟨by have := HK1.out; have := HK2.out; have := HK3.out; omega⟩, ⟨by (with_reducible repeat (first | apply Kd.R_alloc | apply Kd.R_drewN | apply Kd.R_drew)); exact Kd.R_mono (Kd.R_far (p := ⟨gb181, 1, none⟩) (Kd.R_types HO187.out BK181.out (by decide)) (fun _ hk => hk.2) (.slice Ao28 y185.length co28)) (fun _ hk => trivial)⟩, ⟨kF NB179_181.out BK179.out⟩, ⟨kF NB180_181.out BK180.out⟩, ⟨by (with_reducible repeat (first | refine blk_drewN ?_ _ | refine blk_drew ?_ | refine blk_alloc ?_ _)); refine blk_put (cs := #[.int .i64 a0_0, u182001]) ?_ 1 _ rfl; exact kA BK181.out⟩, ⟨kB HB.out⟩⟩
           ·rw [if_neg c21] at H
            have c21b0 : (((rd_T48 l0_1 x6_3).f1) == x5_2) = false := beq_eq_false_iff_ne.mpr c21
            have c21b1 : (((rd_T48 l0_1 x6_3).f1) != x5_2) = true := bne_iff_ne.mpr c21
            have H' := Aside0.mk H
            clear H
            have := NB179_180.out
            have := NB180_179.out
            have := NB179_181.out
            have := NB181_179.out
            obtain ⟨_, _, _, _⟩ := q2z wr BK179.out
            have p182 : 0 ≤ (x6_3 : Int) := of_decide_eq_true (by first | (with_reducible assumption) | assumption)
            have q182 : x6_3 < (l0_1.length : Int) := of_decide_eq_true (by first | (with_reducible assumption) | assumption)
            obtain ⟨ad182, e182, hx182_0, hx182_1, hx182_2⟩ := at_T48 HR0_1.out x6_3 p182 q182
            cases e182
            replace hx182_0 := (HB.out.cell (World.block_lt_of_cell? w _ hx182_0)).trans hx182_0
            replace hx182_1 := (HB.out.cell (World.block_lt_of_cell? w _ hx182_1)).trans hx182_1
            replace hx182_2 := (HB.out.cell (World.block_lt_of_cell? w _ hx182_2)).trans hx182_2
            replace p182 := eq_true p182
            replace q182 := eq_true q182
            have p183 : 0 ≤ (x6_3 : Int) := of_decide_eq_true (by first | (with_reducible assumption) | assumption)
            have q183 : x6_3 < (l0_1.length : Int) := of_decide_eq_true (by first | (with_reducible assumption) | assumption)
            obtain ⟨ad183, e183, hx183_0, hx183_1, hx183_2⟩ := at_T48 HR0_1.out x6_3 p183 q183
            obtain rfl : ad182 = ad183 := (by injection e183)
            replace hx183_0 := (HB.out.cell (World.block_lt_of_cell? w _ hx183_0)).trans hx183_0
            replace hx183_1 := (HB.out.cell (World.block_lt_of_cell? w _ hx183_1)).trans hx183_1
            replace hx183_2 := (HB.out.cell (World.block_lt_of_cell? w _ hx183_2)).trans hx183_2
            replace p183 := eq_true p183
            replace q183 := eq_true q183
            go_wp2
            go_roundg k3
            case measure => have := HK1.out; have := HK2.out; have := HK3.out; omega
            case rel => exact ⟨(wrap64 (x6_3 + 1)), (x182001_3), (u182001), (by first | rfl | (simp; done) | (simp [*]; done)), H', ⟨by have := HK1.out; have := HK2.out; have := HK3.out; omega⟩, ⟨kR HO_182001.out⟩, ⟨kA BK179.out⟩, ⟨kA BK180.out⟩, ⟨kA BK181.out⟩, ⟨kB HB.out⟩⟩
          ·rw [if_neg c20] at H
           have c20b0 : (((rd_T48 l0_1 x6_3).f0) == x4_1) = false := beq_eq_false_iff_ne.mpr c20
           have c20b1 : (((rd_T48 l0_1 x6_3).f0) != x4_1) = true := bne_iff_ne.mpr c20
           have H' := Aside0.mk H
           clear H
           have := NB179_180.out
           have := NB180_179.out
           have := NB179_181.out
           have := NB181_179.out
           obtain ⟨_, _, _, _⟩ := q2z wr BK179.out
           have p182 : 0 ≤ (x6_3 : Int) := of_decide_eq_true (by first | (with_reducible assumption) | assumption)
           have q182 : x6_3 < (l0_1.length : Int) := of_decide_eq_true (by first | (with_reducible assumption) | assumption)
           obtain ⟨ad182, e182, hx182_0, hx182_1, hx182_2⟩ := at_T48 HR0_1.out x6_3 p182 q182
           cases e182
           replace hx182_0 := (HB.out.cell (World.block_lt_of_cell? w _ hx182_0)).trans hx182_0
           replace hx182_1 := (HB.out.cell (World.block_lt_of_cell? w _ hx182_1)).trans hx182_1
           replace hx182_2 := (HB.out.cell (World.block_lt_of_cell? w _ hx182_2)).trans hx182_2
           replace p182 := eq_true p182
           replace q182 := eq_true q182
           go_wp2
           go_roundg k3
           case measure => have := HK1.out; have := HK2.out; have := HK3.out; omega
           case rel => exact ⟨(wrap64 (x6_3 + 1)), (x182001_3), (u182001), (by first | rfl | (simp; done) | (simp [*]; done)), H', ⟨by have := HK1.out; have := HK2.out; have := HK3.out; omega⟩, ⟨kR HO_182001.out⟩, ⟨kA BK179.out⟩, ⟨kA BK180.out⟩, ⟨kA BK181.out⟩, ⟨kB HB.out⟩⟩
         ·rw [if_neg c18] at H
          have c18b0 := decide_eq_false c18
          clear c18
          have H' := Aside0.mk H
          clear H
          have := NB179_180.out
          have := NB180_179.out
          have := NB179_181.out
          have := NB181_179.out
          obtain ⟨_, _, _, _⟩ := q2z wr BK179.out
          go_wp2
          go_roundg k3
          case measure => have := HK1.out; have := HK2.out; have := HK3.out; omega
          case rel => exact ⟨(wrap64 (x5_2 + 1)), (x182001_3), (u182001), (by first | rfl | (simp; done) | (simp [*]; done)), H', ⟨by have := HK1.out; have := HK2.out; have := HK3.out; omega⟩, ⟨kR HO_182001.out⟩, ⟨kA BK179.out⟩, ⟨kA BK180.out⟩, ⟨kA BK181.out⟩, ⟨kB HB.out⟩⟩
      ·rw [if_neg c14] at H
       have c14b0 : decide (x5_2 < a0_0) = false := decide_eq_false c14
       clear c14
       have H' := Aside0.mk H
       clear H
       have := NB179_180.out
       have := NB180_179.out
       have := NB179_181.out
       have := NB181_179.out
       obtain ⟨_, _, _, _⟩ := q2z wr BK179.out
       go_wp2
       go_roundg k2
       case measure => have := HK1.out; have := HK2.out; omega
       case rel => exact ⟨(wrap64 (x4_1 + 1)), (x182001_2), (u182001), (by first | rfl | (simp; done) | (simp [*]; done)), H', ⟨by have := HK1.out; have := HK2.out; omega⟩, ⟨kR HO_182001.out⟩, ⟨kA BK179.out⟩, ⟨kA BK180.out⟩, ⟨kA BK181.out⟩, ⟨kB HB.out⟩⟩
   ·rw [if_neg c10] at H
    have c10b0 := decide_eq_false c10
    clear c10
    simp only [Option.some.injEq, Prod.mk.injEq] at H
    obtain ⟨rfl, rfl⟩ := H
    have := NB179_180.out
    have := NB180_179.out
    have := NB179_181.out
    have := NB181_179.out
    obtain ⟨_, _, _, _⟩ := q2z wr BK179.out
    have := NB181_180.out
    have := NB180_181.out
    obtain ⟨_, _, _, _⟩ := q2z wr BK181.out
    obtain ⟨_, _, _, _⟩ := q2z wr BK180.out
    obtain ⟨Ao48, co48, eo48⟩ := Kd.R_slice HO_182001.out
    subst eo48
    go_wp2
    refine bodyPost_ret (results_cell_row rfl _ _ gb180 24 #[.int .i64 a0_0, .slice Ao48 x182001_1.length co48] (0, 0) _ rfl (by (with_reducible repeat (first | refine blk_drewN ?_ _ | refine blk_drew ?_ | refine blk_alloc ?_ _)); refine blk_put (cs := #[.int .i64 a0_0, .slice none 0 0]) ?_ 1 _ rfl; refine blk_put (cs := #[.int .i64 0, .slice none 0 0]) ?_ 0 _ rfl; exact kA BK180.out) Tryz.underlying24 rfl (by kernel_rfl)) rfl ?_
    exact ⟨_, by first | rfl | (simp [errW_none, errW_some] <;> rfl) | (simp [*, errW_none, errW_some] <;> rfl), by (with_reducible repeat (first | apply Kd.R_alloc | apply Kd.R_drewN | apply Kd.R_drew)); exact Kd.R_mono (Kd.R_far (p := ⟨gb180, 1, none⟩) (Kd.R_far (p := ⟨gb180, 0, none⟩) (Kd.R_types HO_182001.out BK180.out (by decide)) (fun _ hk => hk.2) (.int .i64 a0_0)) (fun _ hk => hk.2) (.slice Ao48 x182001_1.length co48)) (fun _ hk => trivial), by exact kB HB.out⟩

/-! ### modillionref05_Out: function 52 -/
def modillionref05_Out.l0 : Nat → Int → List (S48) → Int → Int → List (S48) → Option ((List (S48)))
 | 0, _, _, _, _, _ => none
 | k + 1, x1, x5, x7, x197000, x197001 => if x7 < (x197001.length : Int) then (if 0 ≤ x7 then (if ((rd_T48 x197001 x7).f0) = x1 then (if x5.length < 5864062014805 then (modillionref05_Out.l0 k x1 (x5 ++ [(⟨(rd_T48 x197001 x7).f0, (rd_T48 x197001 x7).f1, (rd_T48 x197001 x7).f2⟩ : S48)]) (wrap64 (x7 + 1)) x197000 x197001) else (none)) else (modillionref05_Out.l0 k x1 x5 (wrap64 (x7 + 1)) x197000 x197001)) else (none)) else (some x5)
def modillionref05_Out.f (k : Nat) (a0_0 : Int) (l0_1 : List (S48)) (a1 : Int) : Option ((List (S48))) := (modillionref05_Norm.f k a0_0 l0_1).bind fun bt192 => (modillionref05_Out.l0 k a1 (([] : List (S48))) 0 bt192.1 bt192.2)
theorem modillionref05_Out.mono_l : ∀ k, (∀ y0 y1 y2 y3 y4, LeO (modillionref05_Out.l0 k y0 y1 y2 y3 y4) (modillionref05_Out.l0 (k + 1) y0 y1 y2 y3 y4))
 | 0 => fun _ _ _ _ _ r h => by simp [modillionref05_Out.l0] at h
 | k + 1 => by
  have ih0 := modillionref05_Out.mono_l k
  ·intro y0 y1 y2 y3 y4
   unfold modillionref05_Out.l0
   repeat' first
   | (with_reducible exact ih0 _ _ _ _ _)
   | (with_reducible exact modillionref05_Norm.mono _ _ _)
   | (with_reducible exact LeO.refl _)
   | (with_reducible exact LeO.none _)
   | (with_reducible refine LeO.ite ?_ ?_)
   | (with_reducible refine LeO.bind ?_ (fun _ => ?_))
   | exact ih0 _ _ _ _ _
   | exact modillionref05_Norm.mono _ _ _
   | exact LeO.none _
   | refine LeO.ite ?_ ?_
   | refine LeO.bind ?_ (fun _ => ?_)
theorem modillionref05_Out.mono : ∀ a0 a1 a2 k, LeO (modillionref05_Out.f k a0 a1 a2) (modillionref05_Out.f (k + 1) a0 a1 a2) := by
 intro a0 a1 a2 k
 have ih0 := modillionref05_Out.mono_l k
 unfold modillionref05_Out.f
 repeat' first
   | (with_reducible exact ih0 _ _ _ _ _)
   | (with_reducible exact modillionref05_Norm.mono _ _ _)
   | (with_reducible exact LeO.refl _)
   | (with_reducible exact LeO.none _)
   | (with_reducible refine LeO.ite ?_ ?_)
   | (with_reducible refine LeO.bind ?_ (fun _ => ?_))
   | exact ih0 _ _ _ _ _
   | exact modillionref05_Norm.mono _ _ _
   | exact LeO.none _
   | refine LeO.ite ?_ ?_
   | refine LeO.bind ?_ (fun _ => ?_)
set_option maxHeartbeats 8000000 in
set_option maxRecDepth 100000 in
theorem modillionref05_Out.calls (k : Nat) (a0_0 : Int) (A0_1 : Option Addr) (c0_1 : Nat) (l0_1 : List (S48)) (a1 : Int) (r : List (S48)) (w : World) (hr0_1 : Kd.C k48 w A0_1 l0_1.length l0_1) (hc0_1 : l0_1.length ≤ c0_1) (h : modillionref05_Out.f k a0_0 l0_1 a1 = some r) :
  Calls Tryz.prog 52 #[.agg #[.int .i64 a0_0, .slice A0_1 l0_1.length c0_1], .int .i64 a1] w fun e w' => ∃ v0_ : Value, e = .returned (v0_) ∧ Kd.R k48 48 w' w.heap.size (fun _ => True) v0_ r ∧ Below w.heap.size w w' := by
 have hu24 := Tryz.underlying24
 have hu48 := Tryz.underlying48
 have HR0_1 := Aside0.mk hr0_1
 have HC0_1 := Aside0.mk hc0_1
 clear hr0_1 hc0_1
 have HB := Aside0.mk (Below.refl w.heap.size w)
 have H : ((modillionref05_Norm.f k a0_0 l0_1).bind fun bt192 => (modillionref05_Out.l0 k a1 (([] : List (S48))) 0 bt192.1 bt192.2)) = some r := h
 clear h
 obtain ⟨y189, hy189⟩ : ∃ y_ : List (S48), y_ = (([] : List (S48))) := ⟨_, rfl⟩
 replace H : ((modillionref05_Norm.f k a0_0 l0_1).bind fun bt192 => (modillionref05_Out.l0 k a1 y189 0 bt192.1 bt192.2)) = some r := by first | (rw [hy189]; with_reducible exact H) | (have H2_ := (Option.bind_some _ _).symm.trans H; rw [hy189]; with_reducible exact H2_) | (have H2_ := (Option.bind_some _ _).symm.trans H; with_reducible exact H2_) | with_reducible exact H | (rw [hy189]; exact H) | exact H
 have Ny189 := Aside0.mk hy189
 clear hy189
 replace H := Option.bind_eq_some_iff.mp H
 obtain ⟨⟨t192, t193⟩, A30, H⟩ := H
 replace H : (modillionref05_Out.l0 k a1 y189 0 t192 t193) = some r := H
 have A3 := Aside0.mk A30
 clear A30
 have H' := Aside0.mk H
 clear H
 go_enter Tryz.func52, Tryz.ntmps52
 go_wp2_with (first | ((with_reducible refine gate_dst (N := 2) rfl ?_); refine bE_ #[.int .i64 a0_0, .slice A0_1 l0_1.length c0_1] 24 ?_; intro gb188 hg w4 hbox hb; have BK188 := Aside0.mk hbox; have GW188 := gS hg HB; have GE188 := gS hg HB; replace HB := bS HB hb; clear hb hbox hg) | ((with_reducible refine gate_dst (N := 8) rfl ?_); refine Kd.R_lit k48 _ 48 ?hg (N := 8) ?hd (xs := ([] : List (S48))) (inner := []) (ok := fun _ => True) (okp := fun _ => True) ?hr ?hp (fun _ hk => hk) trivial (Below.refl _ _) (Nat.le_refl _) (by simp) ?_; (case hd => rfl); (case hg => rfl); (case hr => first | (go_simp; done) | (go_simp; rfl)); (case hp => exact (Reps.none _ _)); intro v190 w5 ho6 hb hg_ hnew_; clear hg_ hnew_; (first | rw [← Ny189.out] at ho6 | (simp only [Int.reduceToNat] at ho6; rw [← Ny189.out] at ho6)); have HO191 := lS ho6 HB; replace BK188 := aS BK188 hb; replace HB := bS HB hb; clear hb ho6; have hcz7_0 : w5.cell? ⟨gb188, 0, none⟩ = some (.int .i64 a0_0) := (blk_cell BK188.out 0).trans rfl; have hcz7_1 : w5.cell? ⟨gb188, 1, none⟩ = some (.slice A0_1 l0_1.length c0_1) := (blk_cell BK188.out 1).trans rfl; have hfz7_0 := blk_frozen BK188.out 0; have hfz7_1 := blk_frozen BK188.out 1) | ((with_reducible refine gate_callee (f := 76) rfl ?_); refine gL_ (some 10) Tryz.func76 #[.agg #[.int .i64 a0_0, .slice A0_1 l0_1.length c0_1]] ?_; (with_reducible refine (modillionref05_Norm.calls k a0_0 _ _ l0_1 t192 t193 _ ?z1 ?z2 A3.out).mono ?_); (case z1 => exact kC HR0_1.out HB.out); (case z2 => exact HC0_1.out); rintro e w8 ⟨v194, rfl, ho0, hb⟩; refine ⟨_, rfl, ?_⟩; have HO195 := Aside0.mk (Kd.R_lower (Kd.R_new' ho0 (Kd.R_lt (kR HO191.out))) (below_size (kB HB.out))); replace HO191 := Aside0.mk (Kd.R_elder' (kR HO191.out) (Kd.R_base ho0) hb); replace BK188 := aS BK188 hb; replace HB := bS HB hb; clear hb ho0) | ((with_reducible refine gate_dst (N := 6) rfl ?_); refine bE_ #[.int .i64 0, .slice none 0 0] 24 ?_; intro gb196 hg w9 hbox hb; have BK196 := Aside0.mk hbox; have GW196 := gS hg HB; have GE196 := gS hg HB; have NB188_196 := nL hg BK188; have NB196_188 := nG hg BK188; replace HO191 := rS HO191 hb; replace HO195 := rS HO195 hb; replace BK188 := aS BK188 hb; replace HB := bS HB hb; clear hb hbox hg; have := NB196_188.out; have := NB188_196.out; have hcz11_0 : w9.cell? ⟨gb196, 0, none⟩ = some (.int .i64 0) := (blk_cell BK196.out 0).trans rfl; have hcz11_1 : w9.cell? ⟨gb196, 1, none⟩ = some (.slice none 0 0) := (blk_cell BK196.out 1).trans rfl; have hfz11_0 := blk_frozen BK196.out 0; have hfz11_1 := blk_frozen BK196.out 1; obtain ⟨Ao12, co12, eo12⟩ := Kd.R_slice HO195.out; subst eo12))
 go_loopg [5, 7] k (fun kq v5 v7 w' => ∃ (x5_1 : List (S48)) (x7_1 : Int), v7 = .int .i64 x7_1 ∧ Aside0 (modillionref05_Out.l0 kq a1 x5_1 x7_1 t192 t193 = some r) ∧ Aside0 (kq ≤ k) ∧ Aside0 (Kd.R k48 48 w' w.heap.size (fun k_ => some k_ ≠ ((.slice Ao12 t193.length co12) : Value).ownBlock) v5 x5_1) ∧ Aside0 (Kd.R k48 48 w' w.heap.size (fun k_ => some k_ ≠ (v5 : Value).ownBlock) (.slice Ao12 t193.length co12) t193) ∧ Aside0 (w'.heap[gb188]? = some (.cells #[.int .i64 a0_0, (.slice A0_1 l0_1.length c0_1)] 24 (0, 0))) ∧ Aside0 (w'.heap[gb196]? = some (.cells #[.int .i64 t192, (.slice Ao12 t193.length co12)] 24 (0, 0))) ∧ Aside0 (Below w.heap.size w w'))
 case atStart => exact ⟨(y189), (0), (by first | rfl | (simp; done) | (simp [*]; done)), H', ⟨Nat.le_refl _⟩, ⟨by (with_reducible repeat (first | apply Kd.R_alloc | apply Kd.R_drewN | apply Kd.R_drew)); exact Kd.R_mono (Kd.R_far (p := ⟨gb196, 1, none⟩) (Kd.R_far (p := ⟨gb196, 0, none⟩) (Kd.R_types HO191.out BK196.out (by decide)) (fun _ hk => hk.2) (.int .i64 t192)) (fun _ hk => hk.2) (.slice Ao12 t193.length co12)) (fun _ hk => hk.1.2)⟩, ⟨by (with_reducible repeat (first | apply Kd.R_alloc | apply Kd.R_drewN | apply Kd.R_drew)); exact Kd.R_mono (Kd.R_far (p := ⟨gb196, 1, none⟩) (Kd.R_far (p := ⟨gb196, 0, none⟩) (Kd.R_types HO195.out BK196.out (by decide)) (fun _ hk => hk.2) (.int .i64 t192)) (fun _ hk => hk.2) (.slice Ao12 t193.length co12)) (fun _ hk => hk.1.2)⟩, ⟨kF NB188_196.out BK188.out⟩, ⟨by (with_reducible repeat (first | refine blk_drewN ?_ _ | refine blk_drew ?_ | refine blk_alloc ?_ _)); refine blk_put (cs := #[.int .i64 t192, .slice none 0 0]) ?_ 1 _ rfl; refine blk_put (cs := #[.int .i64 0, .slice none 0 0]) ?_ 0 _ rfl; exact kA BK196.out⟩, ⟨kB HB.out⟩⟩
 case round =>
  clear H'
  try clear c1
  try clear p2
  try clear c5
  try clear c7
  try clear c10
  try clear hcz11_0
  try clear hcz11_1
  try clear hcz7_0
  try clear hcz7_1
  try clear hfz11_0
  try clear hfz11_1
  try clear hfz7_0
  try clear hfz7_1
  obtain ⟨x5_1, x7_1, rfl, HA, HK1, HO_5, HO_197001, BK188, BK196, HB⟩ := hrel
  cases gk with
  | zero => exact absurd HA.out (by simp [modillionref05_Out.l0])
  | succ k1 =>
   have H := HA.out
   clear HA
   simp only [modillionref05_Out.l0] at H
   by_cases c13 : x7_1 < (t193.length : Int)
   ·rw [if_pos c13] at H
    have c13b0 := decide_eq_true c13
    clear c13
    obtain ⟨c14, H⟩ := iteS16 H
    have c14b0 : decide (0 ≤ x7_1) = true := decide_eq_true c14
    clear c14
    by_cases c15 : ((rd_T48 t193 x7_1).f0) = a1
    ·rw [if_pos c15] at H
     have c15b0 : (((rd_T48 t193 x7_1).f0) == a1) = true := beq_iff_eq.mpr c15
     have c15b1 : (((rd_T48 t193 x7_1).f0) != a1) = false := bne_eq_false_iff_eq.mpr c15
     clear c15
     obtain ⟨c16, H⟩ := iteS16 H
     have LMc16 := Aside0.mk c16
     clear c16
     obtain ⟨y199, hy199⟩ : ∃ y_ : List (S48), y_ = (x5_1 ++ [(⟨(rd_T48 t193 x7_1).f0, (rd_T48 t193 x7_1).f1, (rd_T48 t193 x7_1).f2⟩ : S48)]) := ⟨_, rfl⟩
     replace H : (modillionref05_Out.l0 k1 a1 y199 (wrap64 (x7_1 + 1)) t192 t193) = some r := by first | (rw [hy199]; with_reducible exact H) | (have H2_ := (Option.bind_some _ _).symm.trans H; rw [hy199]; with_reducible exact H2_) | (have H2_ := (Option.bind_some _ _).symm.trans H; with_reducible exact H2_) | with_reducible exact H | (rw [hy199]; exact H) | exact H
     have Ny199 := Aside0.mk hy199
     clear hy199
     have H' := Aside0.mk H
     clear H
     have := NB196_188.out
     have := NB188_196.out
     obtain ⟨_, _, _, _⟩ := q2z wr BK196.out
     have p197 : 0 ≤ (x7_1 : Int) := of_decide_eq_true (by first | (with_reducible assumption) | assumption)
     have q197 : x7_1 < (t193.length : Int) := of_decide_eq_true (by first | (with_reducible assumption) | assumption)
     obtain ⟨ad197, e197, hx197_0, hx197_1, hx197_2⟩ := at_T48 (Kd.R_reads' HO_197001.out).2.2 x7_1 p197 q197
     cases e197
     replace p197 := eq_true p197
     replace q197 := eq_true q197
     have p198 : 0 ≤ (x7_1 : Int) := of_decide_eq_true (by first | (with_reducible assumption) | assumption)
     have q198 : x7_1 < (t193.length : Int) := of_decide_eq_true (by first | (with_reducible assumption) | assumption)
     obtain ⟨ad198, e198, hx198_0, hx198_1, hx198_2⟩ := at_T48 (Kd.R_reads' HO_197001.out).2.2 x7_1 p198 q198
     obtain rfl : ad197 = ad198 := (by injection e198)
     replace p198 := eq_true p198
     replace q198 := eq_true q198
     go_wp2_with (first | ((with_reducible refine gate_builtin (b := .append) (xs := #[.tmp 26, .tmp 32]) rfl ?_); at_builtin; refine Kd.R_append k48 (w0 := w) w.heap.size rfl (.tmp 26) (.tmp 32) 22 48 (.agg #[(.int .i64 0), (.int .i64 0), (.int .i64 0)]) 24 rfl Tryz.underlying22 info48 rfl (by decide) (by omega) u5 x5_1 (⟨(rd_T48 t193 x7_1).f0, (rd_T48 t193 x7_1).f1, (rd_T48 t193 x7_1).f2⟩ : S48) [.int .i64 ((rd_T48 t193 x7_1).f0), .int .i64 ((rd_T48 t193 x7_1).f1), .int .i64 ((rd_T48 t193 x7_1).f2)] (fun k_ => some k_ ≠ (.slice (some ad197) t193.length co12 : Value).ownBlock) (fun _ => False) rfl rfl ?aP (fun _ hk => hk.elim) ?aF ?aO ?aB ?aS ?aL ?_; (case aP => exact k48_mkM _ _ _ (⟨(rd_T48 t193 x7_1).f0, (rd_T48 t193 x7_1).f1, (rd_T48 t193 x7_1).f2⟩ : S48)); (case aB => exact (kB HB.out)); (case aF => exact (fun k_ hk => Kd.fresh' (Kd.R_lt (kR HO_197001.out)) k_ hk)); (case aO => exact (kR HO_5.out)); (case aS => exact (below_size (kB HB.out))); (case aL => have := LMc16.out; omega); intro v200 w19 ho hb hg hat; rw [← Ny199.out] at ho; have n0_ := Aside0.mk (Kd.R_after (ok := (fun _ => True)) (by (with_reducible repeat (first | apply Kd.R_alloc | apply Kd.R_drewN | apply Kd.R_drew)); exact Kd.R_mono HO_197001.out (fun _ hk => ⟨trivial, hk⟩)) hg hat); have n1_ := Aside0.mk (blk_grown (g := gb188) (o := .cells #[.int .i64 a0_0, .slice A0_1 l0_1.length c0_1] 24 (0, 0)) (kA BK188.out) hg (Kd.R_ne HO_5.out BK188.out (by decide))); have n2_ := Aside0.mk (blk_grown (g := gb196) (o := .cells #[.int .i64 t192, .slice (some ad197) t193.length co12] 24 (0, 0)) (kA BK196.out) hg (Kd.R_ne HO_5.out BK196.out (by decide))); have n3_ := Aside0.mk (hb); have n4_ := Aside0.mk (ho); clear HO_197001; clear BK188; clear BK196; clear HB; clear HO_5; have HO_197001 := n0_; have BK188 := n1_; have BK196 := n2_; have HB := n3_; have HO201 := n4_; clear n0_ n1_ n2_ n3_ n4_; clear ho hb hg hat))
     go_roundg k1
     case measure => have := HK1.out; omega
     case rel => exact ⟨(y199), (wrap64 (x7_1 + 1)), (by first | rfl | (simp; done) | (simp [*]; done)), H', ⟨by have := HK1.out; omega⟩, ⟨kR HO201.out⟩, ⟨by (with_reducible repeat (first | apply Kd.R_alloc | apply Kd.R_drewN | apply Kd.R_drew)); exact Kd.R_mono HO_197001.out (fun _ hk => hk.2)⟩, ⟨kA BK188.out⟩, ⟨kA BK196.out⟩, ⟨kB HB.out⟩⟩
    ·rw [if_neg c15] at H
     have c15b0 : (((rd_T48 t193 x7_1).f0) == a1) = false := beq_eq_false_iff_ne.mpr c15
     have c15b1 : (((rd_T48 t193 x7_1).f0) != a1) = true := bne_iff_ne.mpr c15
     have H' := Aside0.mk H
     clear H
     have := NB196_188.out
     have := NB188_196.out
     obtain ⟨_, _, _, _⟩ := q2z wr BK196.out
     have p197 : 0 ≤ (x7_1 : Int) := of_decide_eq_true (by first | (with_reducible assumption) | assumption)
     have q197 : x7_1 < (t193.length : Int) := of_decide_eq_true (by first | (with_reducible assumption) | assumption)
     obtain ⟨ad197, e197, hx197_0, hx197_1, hx197_2⟩ := at_T48 (Kd.R_reads' HO_197001.out).2.2 x7_1 p197 q197
     cases e197
     replace p197 := eq_true p197
     replace q197 := eq_true q197
     go_wp2
     go_roundg k1
     case measure => have := HK1.out; omega
     case rel => exact ⟨(x5_1), (wrap64 (x7_1 + 1)), (by first | rfl | (simp; done) | (simp [*]; done)), H', ⟨by have := HK1.out; omega⟩, ⟨kR HO_5.out⟩, ⟨kR HO_197001.out⟩, ⟨kA BK188.out⟩, ⟨kA BK196.out⟩, ⟨kB HB.out⟩⟩
   ·rw [if_neg c13] at H
    have c13b0 := decide_eq_false c13
    clear c13
    obtain rfl := Option.some.inj H
    have := NB196_188.out
    have := NB188_196.out
    obtain ⟨_, _, _, _⟩ := q2z wr BK196.out
    go_wp2
    go_ret
    exact ⟨_, by first | rfl | (simp [errW_none, errW_some] <;> rfl) | (simp [*, errW_none, errW_some] <;> rfl), by (with_reducible repeat (first | apply Kd.R_alloc | apply Kd.R_drewN | apply Kd.R_drew)); exact Kd.R_mono HO_5.out (fun _ hk => trivial), by exact kB HB.out⟩

end Go.Proofs.YtpndhkeoljoapaaGreat.P
