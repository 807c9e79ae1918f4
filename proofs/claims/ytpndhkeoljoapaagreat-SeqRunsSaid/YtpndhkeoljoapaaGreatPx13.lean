/- What these Go functions compute, as Lean functions, and that they do. No condition. -/
import Derived.Test.YtpndhkeoljoapaaGreatPx0
namespace Go.Proofs.YtpndhkeoljoapaaGreat.P
open Go.RowKit Go.Proofs.YtpndhkeoljoapaaGreatW.PrintWords Go.Proofs.YtpndhkeoljoapaaGreatW.PrintLast Go.Proofs.YtpndhkeoljoapaaGreatW.PrintMore
attribute [local go_sem] max2_int min2_int max_two min_two max_three min_three max_four min_four   -- for this text's walks alone
set_option linter.unusedVariables false
set_option linter.unusedSimpArgs false
set_option linter.unnecessarySimpa false
theorem iteS13 {α : Type} {c : Prop} [Decidable c] {a : Option α} {r : α} (h : (if c then a else none) = some r) : c ∧ a = some r := by
 by_cases hc : c
 ·rw [if_pos hc] at h; exact ⟨hc, h⟩
 ·rw [if_neg hc] at h; cases h

/-! ### modillionref05_Check: function 36 -/
mutual
def modillionref05_Check.j0 : Nat → Bool → Int → List (S48) → Option (Int)
 | 0, _, _, _ => none
 | k + 1, x20, x171000, x171001 => if x20 = true then (some 50) else (modillionref05_Check.l0 k false 0 x171000 x171001)
def modillionref05_Check.l0 : Nat → Bool → Int → Int → List (S48) → Option (Int)
 | 0, _, _, _, _ => none
 | k + 1, x3, x4, x171000, x171001 => if x4 < (x171001.length : Int) then (if 0 ≤ x4 then (if ((rd_T48 x171001 x4).f0) < 0 then (modillionref05_Check.j2 k x3 x4 true x171000 x171001 ((rd_T48 x171001 x4).f0) ((rd_T48 x171001 x4).f1) ((rd_T48 x171001 x4).f2)) else (if ((rd_T48 x171001 x4).f0) ≥ x171000 then (modillionref05_Check.j2 k x3 x4 true x171000 x171001 ((rd_T48 x171001 x4).f0) ((rd_T48 x171001 x4).f1) ((rd_T48 x171001 x4).f2)) else (if ((rd_T48 x171001 x4).f1) < 0 then (modillionref05_Check.j2 k x3 x4 true x171000 x171001 ((rd_T48 x171001 x4).f0) ((rd_T48 x171001 x4).f1) ((rd_T48 x171001 x4).f2)) else (if ((rd_T48 x171001 x4).f1) ≥ x171000 then (modillionref05_Check.j2 k x3 x4 true x171000 x171001 ((rd_T48 x171001 x4).f0) ((rd_T48 x171001 x4).f1) ((rd_T48 x171001 x4).f2)) else (if ((rd_T48 x171001 x4).f2) < 0 then (modillionref05_Check.j2 k x3 x4 true x171000 x171001 ((rd_T48 x171001 x4).f0) ((rd_T48 x171001 x4).f1) ((rd_T48 x171001 x4).f2)) else (modillionref05_Check.j2 k x3 x4 (decide (((rd_T48 x171001 x4).f2) > 1048576)) x171000 x171001 ((rd_T48 x171001 x4).f0) ((rd_T48 x171001 x4).f1) ((rd_T48 x171001 x4).f2))))))) else (none)) else (if x3 = true then (some 51) else (some 0))
def modillionref05_Check.j2 : Nat → Bool → Int → Bool → Int → List (S48) → Int → Int → Int → Option (Int)
 | 0, _, _, _, _, _, _, _, _ => none
 | k + 1, x3, x4, x64, x171000, x171001, x173000, x173001, x173002 => if x64 = true then (some 50) else (modillionref05_Check.l1 k x3 x4 0 x171000 x171001 x173000 x173001 x173002)
def modillionref05_Check.l1 : Nat → Bool → Int → Int → Int → List (S48) → Int → Int → Int → Option (Int)
 | 0, _, _, _, _, _, _, _, _ => none
 | k + 1, x3, x4, x6, x171000, x171001, x173000, x173001, x173002 => if x6 < x4 then (if x3 = true then (modillionref05_Check.l1 k true x4 (wrap64 (x6 + 1)) x171000 x171001 x173000 x173001 x173002) else (if 0 ≤ x6 then (if x6 < (x171001.length : Int) then (if ((rd_T48 x171001 x6).f0) = x173000 then (modillionref05_Check.l1 k (((rd_T48 x171001 x6).f1) == x173001) x4 (wrap64 (x6 + 1)) x171000 x171001 x173000 x173001 x173002) else (modillionref05_Check.l1 k false x4 (wrap64 (x6 + 1)) x171000 x171001 x173000 x173001 x173002)) else (none)) else (none))) else (modillionref05_Check.l0 k x3 (wrap64 (x4 + 1)) x171000 x171001)
end
def modillionref05_Check.f (k : Nat) (a0_0 : Int) (l0_1 : List (S48)) : Option (Int) := if a0_0 < 1 then (modillionref05_Check.j0 k true a0_0 l0_1) else (if a0_0 > 64 then (modillionref05_Check.j0 k true a0_0 l0_1) else (modillionref05_Check.j0 k (decide ((l0_1.length : Int) > 512)) a0_0 l0_1))
theorem modillionref05_Check.mono_l : ∀ k, (∀ y0 y1 y2, LeO (modillionref05_Check.j0 k y0 y1 y2) (modillionref05_Check.j0 (k + 1) y0 y1 y2)) ∧ (∀ y0 y1 y2 y3, LeO (modillionref05_Check.l0 k y0 y1 y2 y3) (modillionref05_Check.l0 (k + 1) y0 y1 y2 y3)) ∧ (∀ y0 y1 y2 y3 y4 y5 y6 y7, LeO (modillionref05_Check.j2 k y0 y1 y2 y3 y4 y5 y6 y7) (modillionref05_Check.j2 (k + 1) y0 y1 y2 y3 y4 y5 y6 y7)) ∧ (∀ y0 y1 y2 y3 y4 y5 y6 y7, LeO (modillionref05_Check.l1 k y0 y1 y2 y3 y4 y5 y6 y7) (modillionref05_Check.l1 (k + 1) y0 y1 y2 y3 y4 y5 y6 y7))
 | 0 => ⟨fun _ _ _ r h => by simp [modillionref05_Check.j0] at h, fun _ _ _ _ r h => by simp [modillionref05_Check.l0] at h, fun _ _ _ _ _ _ _ _ r h => by simp [modillionref05_Check.j2] at h, fun _ _ _ _ _ _ _ _ r h => by simp [modillionref05_Check.l1] at h⟩
 | k + 1 => by
  obtain ⟨ih0, ih1, ih2, ih3⟩ := modillionref05_Check.mono_l k
  refine ⟨?_, ?_, ?_, ?_⟩
  all_goals
   intros
   (first | unfold modillionref05_Check.j0 | unfold modillionref05_Check.l0 | unfold modillionref05_Check.j2 | unfold modillionref05_Check.l1)
   repeat' first
   | (with_reducible exact ih0 _ _ _)
   | (with_reducible exact ih1 _ _ _ _)
   | (with_reducible exact ih2 _ _ _ _ _ _ _ _)
   | (with_reducible exact ih3 _ _ _ _ _ _ _ _)
   | (with_reducible exact LeO.refl _)
   | (with_reducible exact LeO.none _)
   | (with_reducible refine LeO.ite ?_ ?_)
   | (with_reducible refine LeO.bind ?_ (fun _ => ?_))
   | exact ih0 _ _ _
   | exact ih1 _ _ _ _
   | exact ih2 _ _ _ _ _ _ _ _
   | exact ih3 _ _ _ _ _ _ _ _
   | exact LeO.none _
   | refine LeO.ite ?_ ?_
   | refine LeO.bind ?_ (fun _ => ?_)
theorem modillionref05_Check.mono : ∀ a0 a1 k, LeO (modillionref05_Check.f k a0 a1) (modillionref05_Check.f (k + 1) a0 a1) := by
 intro a0 a1 k
 obtain ⟨ih0, ih1, ih2, ih3⟩ := modillionref05_Check.mono_l k
 unfold modillionref05_Check.f
 repeat' first
   | (with_reducible exact ih0 _ _ _)
   | (with_reducible exact ih1 _ _ _ _)
   | (with_reducible exact ih2 _ _ _ _ _ _ _ _)
   | (with_reducible exact ih3 _ _ _ _ _ _ _ _)
   | (with_reducible exact LeO.refl _)
   | (with_reducible exact LeO.none _)
   | (with_reducible refine LeO.ite ?_ ?_)
   | (with_reducible refine LeO.bind ?_ (fun _ => ?_))
   | exact ih0 _ _ _
   | exact ih1 _ _ _ _
   | exact ih2 _ _ _ _ _ _ _ _
   | exact ih3 _ _ _ _ _ _ _ _
   | exact LeO.none _
   | refine LeO.ite ?_ ?_
   | refine LeO.bind ?_ (fun _ => ?_)
set_option maxHeartbeats 8000000 in
set_option maxRecDepth 100000 in
theorem modillionref05_Check.calls (k : Nat) (a0_0 : Int) (A0_1 : Option Addr) (c0_1 : Nat) (l0_1 : List (S48)) (r : Int) (w : World) (hr0_1 : Kd.C k48 w A0_1 l0_1.length l0_1) (hc0_1 : l0_1.length ≤ c0_1) (h : modillionref05_Check.f k a0_0 l0_1 = some r) :
  Calls Tryz.prog 36 #[.agg #[.int .i64 a0_0, .slice A0_1 l0_1.length c0_1]] w fun e w' => e = .returned (.int .i64 r) ∧ Below w.heap.size w w' := by
 have hu24 := Tryz.underlying24
 have hu48 := Tryz.underlying48
 have HR0_1 := Aside0.mk hr0_1
 have HC0_1 := Aside0.mk hc0_1
 clear hr0_1 hc0_1
 have HB := Aside0.mk (Below.refl w.heap.size w)
 have H : (if a0_0 < 1 then (modillionref05_Check.j0 k true a0_0 l0_1) else (if a0_0 > 64 then (modillionref05_Check.j0 k true a0_0 l0_1) else (modillionref05_Check.j0 k (decide ((l0_1.length : Int) > 512)) a0_0 l0_1))) = some r := h
 clear h
 have HC2 := Aside0.mk H
 clear H
 go_enter Tryz.func36, Tryz.ntmps36
 go_upto_region 1 with (first | ((with_reducible refine gate_dst (N := 1) rfl ?_); (try (refine gate_guard (by rfl) ?_; dsimp only)); refine bE_ #[.int .i64 a0_0, .slice A0_1 l0_1.length c0_1] 24 ?_; intro gb170 hg w3 hbox hb; have BK170 := Aside0.mk hbox; have GW170 := gS hg HB; have GE170 := gS hg HB; replace HB := bS HB hb; clear hb hbox hg))
 repeat (go_quiet (first | ((with_reducible refine gate_dst (N := 1) rfl ?_); (try (refine gate_guard (by rfl) ?_; dsimp only)); refine bE_ #[.int .i64 a0_0, .slice A0_1 l0_1.length c0_1] 24 ?_; intro gb170 hg w3 hbox hb; have BK170 := Aside0.mk hbox; have GW170 := gS hg HB; have GE170 := gS hg HB; replace HB := bS HB hb; clear hb hbox hg)); go_upto_region 1 with (first | ((with_reducible refine gate_dst (N := 1) rfl ?_); (try (refine gate_guard (by rfl) ?_; dsimp only)); refine bE_ #[.int .i64 a0_0, .slice A0_1 l0_1.length c0_1] 24 ?_; intro gb170 hg w3 hbox hb; have BK170 := Aside0.mk hbox; have GW170 := gS hg HB; have GE170 := gS hg HB; replace HB := bS HB hb; clear hb hbox hg)))
 (try simp only [Act.put, List.setIfInBounds_toArray, List.set_cons_zero, List.set_cons_succ])
 go_cut [20] (fun v20 wc => ∃ (kq : Nat) (x20_1 : Bool), v20 = .bool x20_1 ∧ Aside0 (modillionref05_Check.j0 kq x20_1 a0_0 l0_1 = some r) ∧ Aside0 (kq ≤ k) ∧ Aside0 (wc.heap[gb170]? = some (.cells #[.int .i64 a0_0, (.slice A0_1 l0_1.length c0_1)] 24 (0, 0))) ∧ Aside0 (Below w.heap.size w wc))
 case first =>
  have H := HC2.out
  clear HC2
  by_cases c4 : a0_0 < 1
  ·rw [if_pos c4] at H
   have c4b0 := decide_eq_true c4
   clear c4
   (first | rw [c4b0] | (simp only [i64_w, i32_w]; rw [c4b0]) | skip)
   have H' := Aside0.mk H
   clear H
   obtain ⟨hcz5_0, hcz5_1, hfz5_0, hfz5_1⟩ := q2z w3 BK170.out
   go_wp2
   repeat (go_quiet (fail); try go_wp2)
   go_meet
   case rel => exact ⟨_, (true), (by first | rfl | (simp; done) | (simp [*]; done)), H', ⟨by first | omega | exact Nat.le_refl _⟩, ⟨kA BK170.out⟩, ⟨kB HB.out⟩⟩
  ·rw [if_neg c4] at H
   have c4b0 := decide_eq_false c4
   clear c4
   (first | rw [c4b0] | (simp only [i64_w, i32_w]; rw [c4b0]) | skip)
   by_cases c6 : a0_0 > 64
   ·rw [if_pos c6] at H
    have c6b0 : decide (64 < a0_0) = true := decide_eq_true c6
    clear c6
    have H' := Aside0.mk H
    clear H
    obtain ⟨hcz7_0, hcz7_1, hfz7_0, hfz7_1⟩ := q2z w3 BK170.out
    go_wp2
    repeat (go_quiet (fail); try go_wp2)
    go_meet
    case rel => exact ⟨_, (true), (by first | rfl | (simp; done) | (simp [*]; done)), H', ⟨by first | omega | exact Nat.le_refl _⟩, ⟨kA BK170.out⟩, ⟨kB HB.out⟩⟩
   ·rw [if_neg c6] at H
    have c6b0 : decide (64 < a0_0) = false := decide_eq_false c6
    clear c6
    have H' := Aside0.mk H
    clear H
    obtain ⟨hcz8_0, hcz8_1, hfz8_0, hfz8_1⟩ := q2z w3 BK170.out
    go_wp2
    repeat (go_quiet (fail); try go_wp2)
    go_meet
    case rel => exact ⟨_, (decide ((l0_1.length : Int) > 512)), (by first | rfl | (simp; done) | (simp [*]; done)), H', ⟨by first | omega | exact Nat.le_refl _⟩, ⟨kA BK170.out⟩, ⟨kB HB.out⟩⟩
 case rest =>
  clear HC2
  try clear p2
  try clear c3
  try clear c4
  try clear c4b0
  try clear c6
  try clear c6b0
  try clear hcz5_0
  try clear hcz5_1
  try clear hcz7_0
  try clear hcz7_1
  try clear hcz8_0
  try clear hcz8_1
  try clear hfz5_0
  try clear hfz5_1
  try clear hfz7_0
  try clear hfz7_1
  try clear hfz8_0
  try clear hfz8_1
  obtain ⟨kq, x20_1, rfl, HA, HJ1, BK170, HB⟩ := hcut
  cases kq with
  | zero => exact absurd HA.out (by simp [modillionref05_Check.j0])
  | succ kj1 =>
   have H := HA.out
   clear HA
   simp only [modillionref05_Check.j0] at H
   by_cases c9 : x20_1 = true
   ·subst c9
    have H1 : (some 50) = some r := by rw [if_pos rfl] at H; exact H
    clear H
    have H := H1
    clear H1
    obtain rfl := Option.some.inj H
    go_wp2
    repeat (go_quiet (fail); try go_wp2)
    go_ret
    exact ⟨by first | rfl | (simp [errW_none, errW_some] <;> rfl) | (simp [*, errW_none, errW_some] <;> rfl), by exact kB HB.out⟩
   ·replace c9 := Bool.eq_false_iff.mpr c9
    subst c9
    have H1 : (modillionref05_Check.l0 kj1 false 0 a0_0 l0_1) = some r := by rw [if_neg (show ¬ (false = true) by decide)] at H; exact H
    clear H
    have H := H1
    clear H1
    have H' := Aside0.mk H
    clear H
    go_wp2
    repeat (go_quiet (fail); try go_wp2)
    go_loopg [3, 4] kj1 (fun kq v3 v4 w' => ∃ (x3_2 : Bool) (x4_2 : Int), v3 = .bool x3_2 ∧ v4 = .int .i64 x4_2 ∧ Aside0 (modillionref05_Check.l0 kq x3_2 x4_2 a0_0 l0_1 = some r) ∧ Aside0 (kq ≤ kj1) ∧ Aside0 (w'.heap[gb170]? = some (.cells #[.int .i64 a0_0, (.slice A0_1 l0_1.length c0_1)] 24 (0, 0))) ∧ Aside0 (Below w.heap.size w w'))
    case atStart => exact ⟨(false), (0), (by first | rfl | (simp; done) | (simp [*]; done)), (by first | rfl | (simp; done) | (simp [*]; done)), H', ⟨Nat.le_refl _⟩, ⟨kA BK170.out⟩, ⟨kB HB.out⟩⟩
    case round =>
     clear H'
     try clear p2
     try clear c3
     try clear c4
     try clear c4b0
     try clear c6
     try clear c6b0
     try clear c9
     try clear hcz5_0
     try clear hcz5_1
     try clear hcz7_0
     try clear hcz7_1
     try clear hcz8_0
     try clear hcz8_1
     try clear hfz5_0
     try clear hfz5_1
     try clear hfz7_0
     try clear hfz7_1
     try clear hfz8_0
     try clear hfz8_1
     try clear p2
     obtain ⟨x3_2, x4_2, rfl, rfl, HA, HK2, BK170, HB⟩ := hrel
     cases gk with
     | zero => exact absurd HA.out (by simp [modillionref05_Check.l0])
     | succ k2 =>
      have H := HA.out
      clear HA
      simp only [modillionref05_Check.l0] at H
      by_cases c10 : x4_2 < (l0_1.length : Int)
      ·rw [if_pos c10] at H
       have c10b0 := decide_eq_true c10
       clear c10
       obtain ⟨c11, H⟩ := iteS13 H
       have c11b0 := decide_eq_true c11
       clear c11
       have HC12 := Aside0.mk H
       clear H
       obtain ⟨hcz13_0, hcz13_1, hfz13_0, hfz13_1⟩ := q2z wr BK170.out
       have p171 : 0 ≤ (x4_2 : Int) := of_decide_eq_true (by first | (with_reducible assumption) | assumption)
       have q171 : x4_2 < (l0_1.length : Int) := of_decide_eq_true (by first | (with_reducible assumption) | assumption)
       obtain ⟨ad171, e171, hx171_0, hx171_1, hx171_2⟩ := at_T48 HR0_1.out x4_2 p171 q171
       cases e171
       replace hx171_0 := (HB.out.cell (World.block_lt_of_cell? w _ hx171_0)).trans hx171_0
       replace hx171_1 := (HB.out.cell (World.block_lt_of_cell? w _ hx171_1)).trans hx171_1
       replace hx171_2 := (HB.out.cell (World.block_lt_of_cell? w _ hx171_2)).trans hx171_2
       replace p171 := eq_true p171
       replace q171 := eq_true q171
       go_upto_region 8 with (first | ((with_reducible refine gate_dst (N := 5) rfl ?_); (try (refine gate_guard (by rfl) ?_; dsimp only)); refine bE_ #[.int .i64 0, .int .i64 0, .int .i64 0] 48 ?_; intro gb172 hg w14 hbox hb; have BK172 := Aside0.mk hbox; have GW172 := gS hg HB; have GE172 := gS hg HB; have NB170_172 := nL hg BK170; have NB172_170 := nG hg BK170; replace BK170 := aS BK170 hb; replace HB := bS HB hb; clear hb hbox hg; have hnb15 := NB172_170.out; have hnc15 := NB170_172.out; have hcz16_0 : w14.cell? ⟨gb172, 0, none⟩ = some (.int .i64 0) := (blk_cell BK172.out 0).trans rfl; have hcz16_1 : w14.cell? ⟨gb172, 1, none⟩ = some (.int .i64 0) := (blk_cell BK172.out 1).trans rfl; have hcz16_2 : w14.cell? ⟨gb172, 2, none⟩ = some (.int .i64 0) := (blk_cell BK172.out 2).trans rfl; have hfz16_0 := blk_frozen BK172.out 0; have hfz16_1 := blk_frozen BK172.out 1; have hfz16_2 := blk_frozen BK172.out 2))
       repeat (go_quiet (first | ((with_reducible refine gate_dst (N := 5) rfl ?_); (try (refine gate_guard (by rfl) ?_; dsimp only)); refine bE_ #[.int .i64 0, .int .i64 0, .int .i64 0] 48 ?_; intro gb172 hg w14 hbox hb; have BK172 := Aside0.mk hbox; have GW172 := gS hg HB; have GE172 := gS hg HB; have NB170_172 := nL hg BK170; have NB172_170 := nG hg BK170; replace BK170 := aS BK170 hb; replace HB := bS HB hb; clear hb hbox hg; have hnb15 := NB172_170.out; have hnc15 := NB170_172.out; have hcz16_0 : w14.cell? ⟨gb172, 0, none⟩ = some (.int .i64 0) := (blk_cell BK172.out 0).trans rfl; have hcz16_1 : w14.cell? ⟨gb172, 1, none⟩ = some (.int .i64 0) := (blk_cell BK172.out 1).trans rfl; have hcz16_2 : w14.cell? ⟨gb172, 2, none⟩ = some (.int .i64 0) := (blk_cell BK172.out 2).trans rfl; have hfz16_0 := blk_frozen BK172.out 0; have hfz16_1 := blk_frozen BK172.out 1; have hfz16_2 := blk_frozen BK172.out 2)); go_upto_region 8 with (first | ((with_reducible refine gate_dst (N := 5) rfl ?_); (try (refine gate_guard (by rfl) ?_; dsimp only)); refine bE_ #[.int .i64 0, .int .i64 0, .int .i64 0] 48 ?_; intro gb172 hg w14 hbox hb; have BK172 := Aside0.mk hbox; have GW172 := gS hg HB; have GE172 := gS hg HB; have NB170_172 := nL hg BK170; have NB172_170 := nG hg BK170; replace BK170 := aS BK170 hb; replace HB := bS HB hb; clear hb hbox hg; have hnb15 := NB172_170.out; have hnc15 := NB170_172.out; have hcz16_0 : w14.cell? ⟨gb172, 0, none⟩ = some (.int .i64 0) := (blk_cell BK172.out 0).trans rfl; have hcz16_1 : w14.cell? ⟨gb172, 1, none⟩ = some (.int .i64 0) := (blk_cell BK172.out 1).trans rfl; have hcz16_2 : w14.cell? ⟨gb172, 2, none⟩ = some (.int .i64 0) := (blk_cell BK172.out 2).trans rfl; have hfz16_0 := blk_frozen BK172.out 0; have hfz16_1 := blk_frozen BK172.out 1; have hfz16_2 := blk_frozen BK172.out 2)))
       (try simp only [Act.put, List.setIfInBounds_toArray, List.set_cons_zero, List.set_cons_succ])
       go_cut [64] (fun v64 wc => ∃ (kq : Nat) (x64_11 : Bool), v64 = .bool x64_11 ∧ Aside0 (modillionref05_Check.j2 kq x3_2 x4_2 x64_11 a0_0 l0_1 ((rd_T48 l0_1 x4_2).f0) ((rd_T48 l0_1 x4_2).f1) ((rd_T48 l0_1 x4_2).f2) = some r) ∧ Aside0 (kq ≤ k2) ∧ Aside0 (wc.heap[gb170]? = some (.cells #[.int .i64 a0_0, (.slice (some ad171) l0_1.length c0_1)] 24 (0, 0))) ∧ Aside0 (wc.heap[gb172]? = some (.cells #[.int .i64 ((rd_T48 l0_1 x4_2).f0), .int .i64 ((rd_T48 l0_1 x4_2).f1), .int .i64 ((rd_T48 l0_1 x4_2).f2)] 48 (0, 0))) ∧ Aside0 (Below w.heap.size w wc))
       case first =>
        have H := HC12.out
        clear HC12
        by_cases c17 : ((rd_T48 l0_1 x4_2).f0) < 0
        ·rw [if_pos c17] at H
         have c17b0 := decide_eq_true c17
         clear c17
         (first | rw [c17b0] | (simp only [i64_w, i32_w]; rw [c17b0]) | skip)
         have H' := Aside0.mk H
         clear H
         have := NB172_170.out
         have := NB170_172.out
         obtain ⟨hcz19_0, hcz19_1, hcz19_2, hfz19_0, hfz19_1, hfz19_2⟩ := q3z w14 BK172.out
         go_wp2
         repeat (go_quiet (fail); try go_wp2)
         go_meet
         case rel => exact ⟨_, (true), (by first | rfl | (simp; done) | (simp [*]; done)), H', ⟨by have := HJ1.out; have := HK2.out; first | omega | exact Nat.le_refl _⟩, ⟨kF NB170_172.out BK170.out⟩, ⟨by (with_reducible repeat (first | refine blk_drewN ?_ _ | refine blk_drew ?_ | refine blk_alloc ?_ _)); refine blk_put (cs := #[.int .i64 ((rd_T48 l0_1 x4_2).f0), .int .i64 ((rd_T48 l0_1 x4_2).f1), .int .i64 0]) ?_ 2 _ rfl; refine blk_put (cs := #[.int .i64 ((rd_T48 l0_1 x4_2).f0), .int .i64 0, .int .i64 0]) ?_ 1 _ rfl; refine blk_put (cs := #[.int .i64 0, .int .i64 0, .int .i64 0]) ?_ 0 _ rfl; exact kA BK172.out⟩, ⟨kB HB.out⟩⟩
        ·rw [if_neg c17] at H
         have c17b0 := decide_eq_false c17
         clear c17
         (first | rw [c17b0] | (simp only [i64_w, i32_w]; rw [c17b0]) | skip)
         by_cases c20 : ((rd_T48 l0_1 x4_2).f0) ≥ a0_0
         ·rw [if_pos c20] at H
          have c20b0 : decide (a0_0 ≤ ((rd_T48 l0_1 x4_2).f0)) = true := decide_eq_true c20
          clear c20
          have H' := Aside0.mk H
          clear H
          have := NB172_170.out
          have := NB170_172.out
          obtain ⟨hcz22_0, hcz22_1, hcz22_2, hfz22_0, hfz22_1, hfz22_2⟩ := q3z w14 BK172.out
          obtain ⟨hcz23_0, hcz23_1, hfz23_0, hfz23_1⟩ := q2z w14 BK170.out
          go_wp2
          repeat (go_quiet (fail); try go_wp2)
          go_meet
          case rel => exact ⟨_, (true), (by first | rfl | (simp; done) | (simp [*]; done)), H', ⟨by have := HJ1.out; have := HK2.out; first | omega | exact Nat.le_refl _⟩, ⟨kF NB170_172.out BK170.out⟩, ⟨by (with_reducible repeat (first | refine blk_drewN ?_ _ | refine blk_drew ?_ | refine blk_alloc ?_ _)); refine blk_put (cs := #[.int .i64 ((rd_T48 l0_1 x4_2).f0), .int .i64 ((rd_T48 l0_1 x4_2).f1), .int .i64 0]) ?_ 2 _ rfl; refine blk_put (cs := #[.int .i64 ((rd_T48 l0_1 x4_2).f0), .int .i64 0, .int .i64 0]) ?_ 1 _ rfl; refine blk_put (cs := #[.int .i64 0, .int .i64 0, .int .i64 0]) ?_ 0 _ rfl; exact kA BK172.out⟩, ⟨kB HB.out⟩⟩
         ·rw [if_neg c20] at H
          have c20b0 : decide (a0_0 ≤ ((rd_T48 l0_1 x4_2).f0)) = false := decide_eq_false c20
          clear c20
          by_cases c24 : ((rd_T48 l0_1 x4_2).f1) < 0
          ·rw [if_pos c24] at H
           have c24b0 := decide_eq_true c24
           clear c24
           have H' := Aside0.mk H
           clear H
           have := NB172_170.out
           have := NB170_172.out
           obtain ⟨hcz26_0, hcz26_1, hcz26_2, hfz26_0, hfz26_1, hfz26_2⟩ := q3z w14 BK172.out
           obtain ⟨hcz27_0, hcz27_1, hfz27_0, hfz27_1⟩ := q2z w14 BK170.out
           go_wp2
           repeat (go_quiet (fail); try go_wp2)
           go_meet
           case rel => exact ⟨_, (true), (by first | rfl | (simp; done) | (simp [*]; done)), H', ⟨by have := HJ1.out; have := HK2.out; first | omega | exact Nat.le_refl _⟩, ⟨kF NB170_172.out BK170.out⟩, ⟨by (with_reducible repeat (first | refine blk_drewN ?_ _ | refine blk_drew ?_ | refine blk_alloc ?_ _)); refine blk_put (cs := #[.int .i64 ((rd_T48 l0_1 x4_2).f0), .int .i64 ((rd_T48 l0_1 x4_2).f1), .int .i64 0]) ?_ 2 _ rfl; refine blk_put (cs := #[.int .i64 ((rd_T48 l0_1 x4_2).f0), .int .i64 0, .int .i64 0]) ?_ 1 _ rfl; refine blk_put (cs := #[.int .i64 0, .int .i64 0, .int .i64 0]) ?_ 0 _ rfl; exact kA BK172.out⟩, ⟨kB HB.out⟩⟩
          ·rw [if_neg c24] at H
           have c24b0 := decide_eq_false c24
           clear c24
           by_cases c28 : ((rd_T48 l0_1 x4_2).f1) ≥ a0_0
           ·rw [if_pos c28] at H
            have c28b0 : decide (a0_0 ≤ ((rd_T48 l0_1 x4_2).f1)) = true := decide_eq_true c28
            clear c28
            have H' := Aside0.mk H
            clear H
            have := NB172_170.out
            have := NB170_172.out
            obtain ⟨hcz30_0, hcz30_1, hcz30_2, hfz30_0, hfz30_1, hfz30_2⟩ := q3z w14 BK172.out
            obtain ⟨hcz31_0, hcz31_1, hfz31_0, hfz31_1⟩ := q2z w14 BK170.out
            go_wp2
            repeat (go_quiet (fail); try go_wp2)
            go_meet
            case rel => exact ⟨_, (true), (by first | rfl | (simp; done) | (simp [*]; done)), H', ⟨by have := HJ1.out; have := HK2.out; first | omega | exact Nat.le_refl _⟩, ⟨kF NB170_172.out BK170.out⟩, ⟨by (with_reducible repeat (first | refine blk_drewN ?_ _ | refine blk_drew ?_ | refine blk_alloc ?_ _)); refine blk_put (cs := #[.int .i64 ((rd_T48 l0_1 x4_2).f0), .int .i64 ((rd_T48 l0_1 x4_2).f1), .int .i64 0]) ?_ 2 _ rfl; refine blk_put (cs := #[.int .i64 ((rd_T48 l0_1 x4_2).f0), .int .i64 0, .int .i64 0]) ?_ 1 _ rfl; refine blk_put (cs := #[.int .i64 0, .int .i64 0, .int .i64 0]) ?_ 0 _ rfl; exact kA BK172.out⟩, ⟨kB HB.out⟩⟩
           ·rw [if_neg c28] at H
            have c28b0 : decide (a0_0 ≤ ((rd_T48 l0_1 x4_2).f1)) = false := decide_eq_false c28
            clear c28
            by_cases c32 : ((rd_T48 l0_1 x4_2).f2) < 0
            ·rw [if_pos c32] at H
             have c32b0 := decide_eq_true c32
             clear c32
             have H' := Aside0.mk H
             clear H
             have := NB172_170.out
             have := NB170_172.out
             obtain ⟨hcz34_0, hcz34_1, hcz34_2, hfz34_0, hfz34_1, hfz34_2⟩ := q3z w14 BK172.out
             obtain ⟨hcz35_0, hcz35_1, hfz35_0, hfz35_1⟩ := q2z w14 BK170.out
             go_wp2
             repeat (go_quiet (fail); try go_wp2)
             go_meet
             case rel => exact ⟨_, (true), (by first | rfl | (simp; done) | (simp [*]; done)), H', ⟨by have := HJ1.out; have := HK2.out; first | omega | exact Nat.le_refl _⟩, ⟨kF NB170_172.out BK170.out⟩, ⟨by (with_reducible repeat (first | refine blk_drewN ?_ _ | refine blk_drew ?_ | refine blk_alloc ?_ _)); refine blk_put (cs := #[.int .i64 ((rd_T48 l0_1 x4_2).f0), .int .i64 ((rd_T48 l0_1 x4_2).f1), .int .i64 0]) ?_ 2 _ rfl; refine blk_put (cs := #[.int .i64 ((rd_T48 l0_1 x4_2).f0), .int .i64 0, .int .i64 0]) ?_ 1 _ rfl; refine blk_put (cs := #[.int .i64 0, .int .i64 0, .int .i64 0]) ?_ 0 _ rfl; exact kA BK172.out⟩, ⟨kB HB.out⟩⟩
            ·rw [if_neg c32] at H
             have c32b0 := decide_eq_false c32
             clear c32
             have H' := Aside0.mk H
             clear H
             have := NB172_170.out
             have := NB170_172.out
             obtain ⟨hcz37_0, hcz37_1, hcz37_2, hfz37_0, hfz37_1, hfz37_2⟩ := q3z w14 BK172.out
             obtain ⟨hcz38_0, hcz38_1, hfz38_0, hfz38_1⟩ := q2z w14 BK170.out
             go_wp2
             repeat (go_quiet (fail); try go_wp2)
             go_meet
             case rel => exact ⟨_, (decide (((rd_T48 l0_1 x4_2).f2) > 1048576)), (by first | rfl | (simp; done) | (simp [*]; done)), H', ⟨by have := HJ1.out; have := HK2.out; first | omega | exact Nat.le_refl _⟩, ⟨kF NB170_172.out BK170.out⟩, ⟨by (with_reducible repeat (first | refine blk_drewN ?_ _ | refine blk_drew ?_ | refine blk_alloc ?_ _)); refine blk_put (cs := #[.int .i64 ((rd_T48 l0_1 x4_2).f0), .int .i64 ((rd_T48 l0_1 x4_2).f1), .int .i64 0]) ?_ 2 _ rfl; refine blk_put (cs := #[.int .i64 ((rd_T48 l0_1 x4_2).f0), .int .i64 0, .int .i64 0]) ?_ 1 _ rfl; refine blk_put (cs := #[.int .i64 0, .int .i64 0, .int .i64 0]) ?_ 0 _ rfl; exact kA BK172.out⟩, ⟨kB HB.out⟩⟩
       case rest =>
        clear HC12
        try clear c1
        try clear p1
        try clear q1
        try clear hx1
        try clear c2
        try clear p2
        try clear c3
        try clear c4
        try clear c4b0
        try clear c6
        try clear c6b0
        try clear c9
        try clear c10
        try clear c10b0
        try clear c11
        try clear c11b0
        try clear c15
        try clear c17
        try clear c17b0
        try clear p17
        try clear q17
        try clear hx17
        try clear c18
        try clear c20
        try clear c20b0
        try clear c21
        try clear c24
        try clear c24b0
        try clear c25
        try clear c28
        try clear c28b0
        try clear c29
        try clear c32
        try clear c32b0
        try clear c33
        try clear c36
        try clear hcz13_0
        try clear hcz13_1
        try clear hcz16_0
        try clear hcz16_1
        try clear hcz16_2
        try clear hcz19_0
        try clear hcz19_1
        try clear hcz19_2
        try clear hcz22_0
        try clear hcz22_1
        try clear hcz22_2
        try clear hcz23_0
        try clear hcz23_1
        try clear hcz26_0
        try clear hcz26_1
        try clear hcz26_2
        try clear hcz27_0
        try clear hcz27_1
        try clear hcz30_0
        try clear hcz30_1
        try clear hcz30_2
        try clear hcz31_0
        try clear hcz31_1
        try clear hcz34_0
        try clear hcz34_1
        try clear hcz34_2
        try clear hcz35_0
        try clear hcz35_1
        try clear hcz37_0
        try clear hcz37_1
        try clear hcz37_2
        try clear hcz38_0
        try clear hcz38_1
        try clear hcz5_0
        try clear hcz5_1
        try clear hcz7_0
        try clear hcz7_1
        try clear hcz8_0
        try clear hcz8_1
        try clear hfz13_0
        try clear hfz13_1
        try clear hfz16_0
        try clear hfz16_1
        try clear hfz16_2
        try clear hfz19_0
        try clear hfz19_1
        try clear hfz19_2
        try clear hfz22_0
        try clear hfz22_1
        try clear hfz22_2
        try clear hfz23_0
        try clear hfz23_1
        try clear hfz26_0
        try clear hfz26_1
        try clear hfz26_2
        try clear hfz27_0
        try clear hfz27_1
        try clear hfz30_0
        try clear hfz30_1
        try clear hfz30_2
        try clear hfz31_0
        try clear hfz31_1
        try clear hfz34_0
        try clear hfz34_1
        try clear hfz34_2
        try clear hfz35_0
        try clear hfz35_1
        try clear hfz37_0
        try clear hfz37_1
        try clear hfz37_2
        try clear hfz38_0
        try clear hfz38_1
        try clear hfz5_0
        try clear hfz5_1
        try clear hfz7_0
        try clear hfz7_1
        try clear hfz8_0
        try clear hfz8_1
        try clear hx171_0
        try clear hx171_1
        try clear hx171_2
        try clear p171
        try clear p2
        try clear q171
        obtain ⟨kq, x64_11, rfl, HA, HJ11, BK170, BK172, HB⟩ := hcut
        cases kq with
        | zero => exact absurd HA.out (by simp [modillionref05_Check.j2])
        | succ kj11 =>
         have H := HA.out
         clear HA
         simp only [modillionref05_Check.j2] at H
         by_cases c39 : x64_11 = true
         ·subst c39
          have H1 : (some 50) = some r := by rw [if_pos rfl] at H; exact H
          clear H
          have H := H1
          clear H1
          obtain rfl := Option.some.inj H
          go_wp2
          repeat (go_quiet (fail); try go_wp2)
          go_ret
          exact ⟨by first | rfl | (simp [errW_none, errW_some] <;> rfl) | (simp [*, errW_none, errW_some] <;> rfl), by exact kB HB.out⟩
         ·replace c39 := Bool.eq_false_iff.mpr c39
          subst c39
          have H1 : (modillionref05_Check.l1 kj11 x3_2 x4_2 0 a0_0 l0_1 ((rd_T48 l0_1 x4_2).f0) ((rd_T48 l0_1 x4_2).f1) ((rd_T48 l0_1 x4_2).f2)) = some r := by rw [if_neg (show ¬ (false = true) by decide)] at H; exact H
          clear H
          have H := H1
          clear H1
          have H' := Aside0.mk H
          clear H
          go_wp2
          repeat (go_quiet (fail); try go_wp2)
          go_loopg [3, 6] kj11 (fun kq v3 v6 w' => ∃ (x3_4 : Bool) (x6_4 : Int), v3 = .bool x3_4 ∧ v6 = .int .i64 x6_4 ∧ Aside0 (modillionref05_Check.l1 kq x3_4 x4_2 x6_4 a0_0 l0_1 ((rd_T48 l0_1 x4_2).f0) ((rd_T48 l0_1 x4_2).f1) ((rd_T48 l0_1 x4_2).f2) = some r) ∧ Aside0 (kq ≤ kj11) ∧ Aside0 (w'.heap[gb170]? = some (.cells #[.int .i64 a0_0, (.slice (some ad171) l0_1.length c0_1)] 24 (0, 0))) ∧ Aside0 (w'.heap[gb172]? = some (.cells #[.int .i64 ((rd_T48 l0_1 x4_2).f0), .int .i64 ((rd_T48 l0_1 x4_2).f1), .int .i64 ((rd_T48 l0_1 x4_2).f2)] 48 (0, 0))) ∧ Aside0 (Below w.heap.size w w'))
          case atStart => exact ⟨(x3_2), (0), (by first | rfl | (simp; done) | (simp [*]; done)), (by first | rfl | (simp; done) | (simp [*]; done)), H', ⟨Nat.le_refl _⟩, ⟨kA BK170.out⟩, ⟨kA BK172.out⟩, ⟨kB HB.out⟩⟩
          case round =>
           clear H'
           try clear c1
           try clear p1
           try clear q1
           try clear hx1
           try clear c2
           try clear p2
           try clear c3
           try clear c4
           try clear c4b0
           try clear c6
           try clear c6b0
           try clear c9
           try clear c10
           try clear c10b0
           try clear c11
           try clear c11b0
           try clear c15
           try clear c17
           try clear c17b0
           try clear p17
           try clear q17
           try clear hx17
           try clear c18
           try clear c20
           try clear c20b0
           try clear c21
           try clear c24
           try clear c24b0
           try clear c25
           try clear c28
           try clear c28b0
           try clear c29
           try clear c32
           try clear c32b0
           try clear c33
           try clear c36
           try clear c39
           try clear hcz13_0
           try clear hcz13_1
           try clear hcz16_0
           try clear hcz16_1
           try clear hcz16_2
           try clear hcz19_0
           try clear hcz19_1
           try clear hcz19_2
           try clear hcz22_0
           try clear hcz22_1
           try clear hcz22_2
           try clear hcz23_0
           try clear hcz23_1
           try clear hcz26_0
           try clear hcz26_1
           try clear hcz26_2
           try clear hcz27_0
           try clear hcz27_1
           try clear hcz30_0
           try clear hcz30_1
           try clear hcz30_2
           try clear hcz31_0
           try clear hcz31_1
           try clear hcz34_0
           try clear hcz34_1
           try clear hcz34_2
           try clear hcz35_0
           try clear hcz35_1
           try clear hcz37_0
           try clear hcz37_1
           try clear hcz37_2
           try clear hcz38_0
           try clear hcz38_1
           try clear hcz5_0
           try clear hcz5_1
           try clear hcz7_0
           try clear hcz7_1
           try clear hcz8_0
           try clear hcz8_1
           try clear hfz13_0
           try clear hfz13_1
           try clear hfz16_0
           try clear hfz16_1
           try clear hfz16_2
           try clear hfz19_0
           try clear hfz19_1
           try clear hfz19_2
           try clear hfz22_0
           try clear hfz22_1
           try clear hfz22_2
           try clear hfz23_0
           try clear hfz23_1
           try clear hfz26_0
           try clear hfz26_1
           try clear hfz26_2
           try clear hfz27_0
           try clear hfz27_1
           try clear hfz30_0
           try clear hfz30_1
           try clear hfz30_2
           try clear hfz31_0
           try clear hfz31_1
           try clear hfz34_0
           try clear hfz34_1
           try clear hfz34_2
           try clear hfz35_0
           try clear hfz35_1
           try clear hfz37_0
           try clear hfz37_1
           try clear hfz37_2
           try clear hfz38_0
           try clear hfz38_1
           try clear hfz5_0
           try clear hfz5_1
           try clear hfz7_0
           try clear hfz7_1
           try clear hfz8_0
           try clear hfz8_1
           try clear hx171_0
           try clear hx171_1
           try clear hx171_2
           try clear p1
           try clear p17
           try clear p171
           try clear p2
           try clear q1
           try clear q17
           try clear q171
           obtain ⟨x3_4, x6_4, rfl, rfl, HA, HK4, BK170, BK172, HB⟩ := hrel
           cases gk with
           | zero => exact absurd HA.out (by simp [modillionref05_Check.l1])
           | succ k4 =>
            have H := HA.out
            clear HA
            simp only [modillionref05_Check.l1] at H
            by_cases c40 : x6_4 < x4_2
            ·rw [if_pos c40] at H
             have c40b0 := decide_eq_true c40
             clear c40
             by_cases c41 : x3_4 = true
             ·subst c41
              have H1 : (modillionref05_Check.l1 k4 true x4_2 (wrap64 (x6_4 + 1)) a0_0 l0_1 ((rd_T48 l0_1 x4_2).f0) ((rd_T48 l0_1 x4_2).f1) ((rd_T48 l0_1 x4_2).f2)) = some r := by rw [if_pos rfl] at H; exact H
              clear H
              have H := H1
              clear H1
              have H' := Aside0.mk H
              clear H
              go_wp2
              repeat (go_quiet (fail); try go_wp2)
              go_roundg k4
              case measure => have := HJ1.out; have := HK2.out; have := HJ11.out; have := HK4.out; omega
              case rel => exact ⟨(true), (wrap64 (x6_4 + 1)), (by first | rfl | (simp; done) | (simp [*]; done)), (by first | rfl | (simp; done) | (simp [*]; done)), H', ⟨by have := HJ1.out; have := HK2.out; have := HJ11.out; have := HK4.out; omega⟩, ⟨kA BK170.out⟩, ⟨kA BK172.out⟩, ⟨kB HB.out⟩⟩
             ·replace c41 := Bool.eq_false_iff.mpr c41
              subst c41
              have H1 : (if 0 ≤ x6_4 then (if x6_4 < (l0_1.length : Int) then (if ((rd_T48 l0_1 x6_4).f0) = ((rd_T48 l0_1 x4_2).f0) then (modillionref05_Check.l1 k4 (((rd_T48 l0_1 x6_4).f1) == ((rd_T48 l0_1 x4_2).f1)) x4_2 (wrap64 (x6_4 + 1)) a0_0 l0_1 ((rd_T48 l0_1 x4_2).f0) ((rd_T48 l0_1 x4_2).f1) ((rd_T48 l0_1 x4_2).f2)) else (modillionref05_Check.l1 k4 false x4_2 (wrap64 (x6_4 + 1)) a0_0 l0_1 ((rd_T48 l0_1 x4_2).f0) ((rd_T48 l0_1 x4_2).f1) ((rd_T48 l0_1 x4_2).f2))) else (none)) else (none)) = some r := by rw [if_neg (show ¬ (false = true) by decide)] at H; exact H
              clear H
              have H := H1
              clear H1
              obtain ⟨c42, H⟩ := iteS13 H
              have c42b0 := decide_eq_true c42
              clear c42
              obtain ⟨c43, H⟩ := iteS13 H
              have c43b0 := decide_eq_true c43
              clear c43
              by_cases c44 : ((rd_T48 l0_1 x6_4).f0) = ((rd_T48 l0_1 x4_2).f0)
              ·rw [if_pos c44] at H
               have c44b0 : (((rd_T48 l0_1 x6_4).f0) == ((rd_T48 l0_1 x4_2).f0)) = true := beq_iff_eq.mpr c44
               have c44b1 : (((rd_T48 l0_1 x6_4).f0) != ((rd_T48 l0_1 x4_2).f0)) = false := bne_eq_false_iff_eq.mpr c44
               clear c44
               have H' := Aside0.mk H
               clear H
               have := NB170_172.out
               have := NB172_170.out
               obtain ⟨_, _, _, _⟩ := q2z wr BK170.out
               have p173 : 0 ≤ (x6_4 : Int) := of_decide_eq_true (by first | (with_reducible assumption) | assumption)
               have q173 : x6_4 < (l0_1.length : Int) := of_decide_eq_true (by first | (with_reducible assumption) | assumption)
               obtain ⟨ad173, e173, hx173_0, hx173_1, hx173_2⟩ := at_T48 HR0_1.out x6_4 p173 q173
               obtain rfl : ad171 = ad173 := (by injection e173)
               replace hx173_0 := (HB.out.cell (World.block_lt_of_cell? w _ hx173_0)).trans hx173_0
               replace hx173_1 := (HB.out.cell (World.block_lt_of_cell? w _ hx173_1)).trans hx173_1
               replace hx173_2 := (HB.out.cell (World.block_lt_of_cell? w _ hx173_2)).trans hx173_2
               replace p173 := eq_true p173
               replace q173 := eq_true q173
               obtain ⟨_, _, _, _, _, _⟩ := q3z wr BK172.out
               have p174 : 0 ≤ (x6_4 : Int) := of_decide_eq_true (by first | (with_reducible assumption) | assumption)
               have q174 : x6_4 < (l0_1.length : Int) := of_decide_eq_true (by first | (with_reducible assumption) | assumption)
               obtain ⟨ad174, e174, hx174_0, hx174_1, hx174_2⟩ := at_T48 HR0_1.out x6_4 p174 q174
               obtain rfl : ad171 = ad174 := (by injection e174)
               replace hx174_0 := (HB.out.cell (World.block_lt_of_cell? w _ hx174_0)).trans hx174_0
               replace hx174_1 := (HB.out.cell (World.block_lt_of_cell? w _ hx174_1)).trans hx174_1
               replace hx174_2 := (HB.out.cell (World.block_lt_of_cell? w _ hx174_2)).trans hx174_2
               replace p174 := eq_true p174
               replace q174 := eq_true q174
               go_wp2
               repeat (go_quiet (fail); try go_wp2)
               go_roundg k4
               case measure => have := HJ1.out; have := HK2.out; have := HJ11.out; have := HK4.out; omega
               case rel => exact ⟨((((rd_T48 l0_1 x6_4).f1) == ((rd_T48 l0_1 x4_2).f1))), (wrap64 (x6_4 + 1)), (by first | rfl | (simp; done) | (simp [*]; done)), (by first | rfl | (simp; done) | (simp [*]; done)), H', ⟨by have := HJ1.out; have := HK2.out; have := HJ11.out; have := HK4.out; omega⟩, ⟨kA BK170.out⟩, ⟨kA BK172.out⟩, ⟨kB HB.out⟩⟩
              ·rw [if_neg c44] at H
               have c44b0 : (((rd_T48 l0_1 x6_4).f0) == ((rd_T48 l0_1 x4_2).f0)) = false := beq_eq_false_iff_ne.mpr c44
               have c44b1 : (((rd_T48 l0_1 x6_4).f0) != ((rd_T48 l0_1 x4_2).f0)) = true := bne_iff_ne.mpr c44
               have H' := Aside0.mk H
               clear H
               have := NB170_172.out
               have := NB172_170.out
               obtain ⟨_, _, _, _⟩ := q2z wr BK170.out
               have p173 : 0 ≤ (x6_4 : Int) := of_decide_eq_true (by first | (with_reducible assumption) | assumption)
               have q173 : x6_4 < (l0_1.length : Int) := of_decide_eq_true (by first | (with_reducible assumption) | assumption)
               obtain ⟨ad173, e173, hx173_0, hx173_1, hx173_2⟩ := at_T48 HR0_1.out x6_4 p173 q173
               obtain rfl : ad171 = ad173 := (by injection e173)
               replace hx173_0 := (HB.out.cell (World.block_lt_of_cell? w _ hx173_0)).trans hx173_0
               replace hx173_1 := (HB.out.cell (World.block_lt_of_cell? w _ hx173_1)).trans hx173_1
               replace hx173_2 := (HB.out.cell (World.block_lt_of_cell? w _ hx173_2)).trans hx173_2
               replace p173 := eq_true p173
               replace q173 := eq_true q173
               obtain ⟨_, _, _, _, _, _⟩ := q3z wr BK172.out
               go_wp2
               repeat (go_quiet (fail); try go_wp2)
               go_roundg k4
               case measure => have := HJ1.out; have := HK2.out; have := HJ11.out; have := HK4.out; omega
               case rel => exact ⟨(false), (wrap64 (x6_4 + 1)), (by first | rfl | (simp; done) | (simp [*]; done)), (by first | rfl | (simp; done) | (simp [*]; done)), H', ⟨by have := HJ1.out; have := HK2.out; have := HJ11.out; have := HK4.out; omega⟩, ⟨kA BK170.out⟩, ⟨kA BK172.out⟩, ⟨kB HB.out⟩⟩
            ·rw [if_neg c40] at H
             have c40b0 := decide_eq_false c40
             clear c40
             have H' := Aside0.mk H
             clear H
             go_wp2
             repeat (go_quiet (fail); try go_wp2)
             go_roundg k4
             case measure => have := HJ1.out; have := HK2.out; have := HJ11.out; have := HK4.out; omega
             case rel => exact ⟨(x3_4), (wrap64 (x4_2 + 1)), (by first | rfl | (simp; done) | (simp [*]; done)), (by first | rfl | (simp; done) | (simp [*]; done)), H', ⟨by have := HJ1.out; have := HK2.out; have := HJ11.out; have := HK4.out; omega⟩, ⟨kA BK170.out⟩, ⟨kB HB.out⟩⟩
      ·rw [if_neg c10] at H
       have c10b0 := decide_eq_false c10
       clear c10
       by_cases c51 : x3_2 = true
       ·subst c51
        have H1 : (some 51) = some r := by rw [if_pos rfl] at H; exact H
        clear H
        have H := H1
        clear H1
        obtain rfl := Option.some.inj H
        obtain ⟨_, _, _, _⟩ := q2z wr BK170.out
        go_wp2
        repeat (go_quiet (fail); try go_wp2)
        go_ret
        exact ⟨by first | rfl | (simp [errW_none, errW_some] <;> rfl) | (simp [*, errW_none, errW_some] <;> rfl), by exact kB HB.out⟩
       ·replace c51 := Bool.eq_false_iff.mpr c51
        subst c51
        have H1 : (some 0) = some r := by rw [if_neg (show ¬ (false = true) by decide)] at H; exact H
        clear H
        have H := H1
        clear H1
        obtain rfl := Option.some.inj H
        obtain ⟨_, _, _, _⟩ := q2z wr BK170.out
        go_wp2
        repeat (go_quiet (fail); try go_wp2)
        go_ret
        exact ⟨by first | rfl | (simp [errW_none, errW_some] <;> rfl) | (simp [*, errW_none, errW_some] <;> rfl), by exact kB HB.out⟩

end Go.Proofs.YtpndhkeoljoapaaGreat.P
