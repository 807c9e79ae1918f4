/- What these Go functions compute, as Lean functions, and that they do. No condition. -/
import Derived.Test.YtpndhkeoljoapaaGreatPx0
import Derived.Test.YtpndhkeoljoapaaGreatPx10
import Derived.Test.YtpndhkeoljoapaaGreatPx11
namespace Go.Proofs.YtpndhkeoljoapaaGreat.P
open Go.RowKit Go.Proofs.YtpndhkeoljoapaaGreatW.PrintWords Go.Proofs.YtpndhkeoljoapaaGreatW.PrintLast Go.Proofs.YtpndhkeoljoapaaGreatW.PrintMore
attribute [local go_sem] max2_int min2_int max_two min_two max_three min_three max_four min_four   -- for this text's walks alone
set_option linter.unusedVariables false
set_option linter.unusedSimpArgs false
set_option linter.unnecessarySimpa false
theorem iteS12 {α : Type} {c : Prop} [Decidable c] {a : Option α} {r : α} (h : (if c then a else none) = some r) : c ∧ a = some r := by
 by_cases hc : c
 ·rw [if_pos hc] at h; exact ⟨hc, h⟩
 ·rw [if_neg hc] at h; cases h

/-! ### seq_Run: function 17 -/
mutual
def seq_Run.l0 : Nat → List (S50) → Int → Int → List (S48) → ByteArray → Int → Int → Option (List Int × Int × Int)
 | 0, _, _, _, _, _, _, _ => none
 | k + 1, x7, x9, x146000, x146001, x147000, x147001, x147002 => if x9 < x147002 then ((seq_Quiet.f x7).bind fun t151 => (seq_Run.j1 k x7 x9 (!t151) x146000 x146001 x147000 x147001 x147002)) else (seq_Run.j1 k x7 x9 false x146000 x146001 x147000 x147001 x147002)
def seq_Run.j1 : Nat → List (S50) → Int → Bool → Int → List (S48) → ByteArray → Int → Int → Option (List Int × Int × Int)
 | 0, _, _, _, _, _, _, _, _ => none
 | k + 1, x7, x9, x27, x146000, x146001, x147000, x147001, x147002 => if x27 = true then ((seq_Next.f x146000 x146001 x147000 x147001 x147002 x9 x7).bind fun bt152 => (if bt152.2.2 = 0 then (seq_Run.l0 k bt152.1 (wrap64 (x9 + 1)) x146000 x146001 x147000 x147001 x147002) else (some (([] : List Int), x9, bt152.2.2)))) else ((seq_Values.f k x7).bind fun t159 => (some (t159, x9, 0)))
end
def seq_Run.f (k : Nat) (a0_0 : Int) (l0_1 : List (S48)) (a1_0 : ByteArray) (a1_1 : Int) (a1_2 : Int) : Option (List Int × Int × Int) := (seq_Start.f k a0_0 l0_1 a1_0 a1_1 a1_2).bind fun bt147 => (if bt147.2 = 0 then (seq_Run.l0 k bt147.1 0 a0_0 l0_1 a1_0 a1_1 a1_2) else (some (([] : List Int), 0, bt147.2)))
theorem seq_Run.mono_l : ∀ k, (∀ y0 y1 y2 y3 y4 y5 y6, LeO (seq_Run.l0 k y0 y1 y2 y3 y4 y5 y6) (seq_Run.l0 (k + 1) y0 y1 y2 y3 y4 y5 y6)) ∧ (∀ y0 y1 y2 y3 y4 y5 y6 y7, LeO (seq_Run.j1 k y0 y1 y2 y3 y4 y5 y6 y7) (seq_Run.j1 (k + 1) y0 y1 y2 y3 y4 y5 y6 y7))
 | 0 => ⟨fun _ _ _ _ _ _ _ r h => by simp [seq_Run.l0] at h, fun _ _ _ _ _ _ _ _ r h => by simp [seq_Run.j1] at h⟩
 | k + 1 => by
  obtain ⟨ih0, ih1⟩ := seq_Run.mono_l k
  refine ⟨?_, ?_⟩
  all_goals
   intros
   (first | unfold seq_Run.l0 | unfold seq_Run.j1)
   repeat' first
   | (with_reducible exact ih0 _ _ _ _ _ _ _)
   | (with_reducible exact ih1 _ _ _ _ _ _ _ _)
   | (with_reducible exact seq_Start.mono _ _ _ _ _ _)
   | (with_reducible exact seq_Values.mono _ _)
   | (with_reducible exact LeO.refl _)
   | (with_reducible exact LeO.none _)
   | (with_reducible refine LeO.ite ?_ ?_)
   | (with_reducible refine LeO.bind ?_ (fun _ => ?_))
   | exact ih0 _ _ _ _ _ _ _
   | exact ih1 _ _ _ _ _ _ _ _
   | exact seq_Start.mono _ _ _ _ _ _
   | exact seq_Values.mono _ _
   | exact LeO.none _
   | refine LeO.ite ?_ ?_
   | refine LeO.bind ?_ (fun _ => ?_)
theorem seq_Run.mono : ∀ a0 a1 a2 a3 a4 k, LeO (seq_Run.f k a0 a1 a2 a3 a4) (seq_Run.f (k + 1) a0 a1 a2 a3 a4) := by
 intro a0 a1 a2 a3 a4 k
 obtain ⟨ih0, ih1⟩ := seq_Run.mono_l k
 unfold seq_Run.f
 repeat' first
   | (with_reducible exact ih0 _ _ _ _ _ _ _)
   | (with_reducible exact ih1 _ _ _ _ _ _ _ _)
   | (with_reducible exact seq_Start.mono _ _ _ _ _ _)
   | (with_reducible exact seq_Values.mono _ _)
   | (with_reducible exact LeO.refl _)
   | (with_reducible exact LeO.none _)
   | (with_reducible refine LeO.ite ?_ ?_)
   | (with_reducible refine LeO.bind ?_ (fun _ => ?_))
   | exact ih0 _ _ _ _ _ _ _
   | exact ih1 _ _ _ _ _ _ _ _
   | exact seq_Start.mono _ _ _ _ _ _
   | exact seq_Values.mono _ _
   | exact LeO.none _
   | refine LeO.ite ?_ ?_
   | refine LeO.bind ?_ (fun _ => ?_)
set_option maxHeartbeats 8000000 in
set_option maxRecDepth 100000 in
theorem seq_Run.calls (k : Nat) (a0_0 : Int) (A0_1 : Option Addr) (c0_1 : Nat) (l0_1 : List (S48)) (a1_0 : ByteArray) (a1_1 : Int) (a1_2 : Int) (r1 : List Int) (r2 : Int) (r3 : Int) (w : World) (hr0_1 : Kd.C k48 w A0_1 l0_1.length l0_1) (hc0_1 : l0_1.length ≤ c0_1) (h : seq_Run.f k a0_0 l0_1 a1_0 a1_1 a1_2 = some (r1, r2, r3)) :
  Calls Tryz.prog 17 #[.agg #[.int .i64 a0_0, .slice A0_1 l0_1.length c0_1], .agg #[.string a1_0, .int .i64 a1_1, .int .i64 a1_2]] w fun e w' => ∃ v0_ : Value, e = .returned (.tuple #[v0_, .int .i64 r2, .int .i64 r3]) ∧ Kd.R (Kd.int .i64) 2 w' w.heap.size (fun _ => True) v0_ r1 ∧ Below w.heap.size w w' := by
 have hu24 := Tryz.underlying24
 have hu26 := Tryz.underlying26
 have HR0_1 := Aside0.mk hr0_1
 have HC0_1 := Aside0.mk hc0_1
 clear hr0_1 hc0_1
 have HB := Aside0.mk (Below.refl w.heap.size w)
 have H : ((seq_Start.f k a0_0 l0_1 a1_0 a1_1 a1_2).bind fun bt147 => (if bt147.2 = 0 then (seq_Run.l0 k bt147.1 0 a0_0 l0_1 a1_0 a1_1 a1_2) else (some (([] : List Int), 0, bt147.2)))) = some (r1, r2, r3) := h
 clear h
 replace H := Option.bind_eq_some_iff.mp H
 obtain ⟨⟨t147, t150⟩, A30, H⟩ := H
 replace H : (if t150 = 0 then (seq_Run.l0 k t147 0 a0_0 l0_1 a1_0 a1_1 a1_2) else (some (([] : List Int), 0, t150))) = some (r1, r2, r3) := H
 have A3 := Aside0.mk A30
 clear A30
 by_cases c4 : t150 = 0
 ·rw [if_pos c4] at H
  have c4b0 : (t150 == 0) = true := beq_iff_eq.mpr c4
  have c4b1 : (t150 != 0) = false := bne_eq_false_iff_eq.mpr c4
  clear c4
  have H' := Aside0.mk H
  clear H
  go_enter Tryz.func17, Tryz.ntmps17
  go_wp2_with (first | ((with_reducible refine gate_dst (N := 2) rfl ?_); refine bE_ #[.int .i64 a0_0, .slice A0_1 l0_1.length c0_1] 24 ?_; intro gb145 hg w5 hbox hb; have BK145 := Aside0.mk hbox; have GW145 := gS hg HB; have GE145 := gS hg HB; replace HB := bS HB hb; clear hb hbox hg) | ((with_reducible refine gate_dst (N := 3) rfl ?_); refine bE_ #[.string a1_0, .int .i64 a1_1, .int .i64 a1_2] 26 ?_; intro gb146 hg w6 hbox hb; have BK146 := Aside0.mk hbox; have GW146 := gS hg HB; have GE146 := gS hg HB; have NB145_146 := nL hg BK145; have NB146_145 := nG hg BK145; replace BK145 := aS BK145 hb; replace HB := bS HB hb; clear hb hbox hg; have := NB145_146.out; have := NB146_145.out; have hcz8_0 : w6.cell? ⟨gb145, 0, none⟩ = some (.int .i64 a0_0) := (blk_cell BK145.out 0).trans rfl; have hcz8_1 : w6.cell? ⟨gb145, 1, none⟩ = some (.slice A0_1 l0_1.length c0_1) := (blk_cell BK145.out 1).trans rfl; have hfz8_0 := blk_frozen BK145.out 0; have hfz8_1 := blk_frozen BK145.out 1; have hcz9_0 : w6.cell? ⟨gb146, 0, none⟩ = some (.string a1_0) := (blk_cell BK146.out 0).trans rfl; have hcz9_1 : w6.cell? ⟨gb146, 1, none⟩ = some (.int .i64 a1_1) := (blk_cell BK146.out 1).trans rfl; have hcz9_2 : w6.cell? ⟨gb146, 2, none⟩ = some (.int .i64 a1_2) := (blk_cell BK146.out 2).trans rfl; have hfz9_0 := blk_frozen BK146.out 0; have hfz9_1 := blk_frozen BK146.out 1; have hfz9_2 := blk_frozen BK146.out 2) | ((with_reducible refine gate_callee (f := 16) rfl ?_); refine gL_ (some 13) Tryz.func16 #[.agg #[.int .i64 a0_0, .slice A0_1 l0_1.length c0_1], .agg #[.string a1_0, .int .i64 a1_1, .int .i64 a1_2]] ?_; (with_reducible refine (seq_Start.calls k a0_0 _ _ l0_1 a1_0 a1_1 a1_2 t147 t150 _ ?z1 ?z2 A3.out).mono ?_); (case z1 => exact kC HR0_1.out HB.out); (case z2 => exact HC0_1.out); rintro e w10 ⟨v148, rfl, ho0, hb⟩; refine ⟨_, rfl, ?_⟩; have HO149 := lS ho0 HB; replace BK145 := aS BK145 hb; replace BK146 := aS BK146 hb; replace HB := bS HB hb; clear hb ho0))
  go_loopg [7, 9] k (fun kq v7 v9 w' => ∃ (x7_1 : List (S50)) (x9_1 : Int), v9 = .int .i64 x9_1 ∧ Aside0 (seq_Run.l0 kq x7_1 x9_1 a0_0 l0_1 a1_0 a1_1 a1_2 = some (r1, r2, r3)) ∧ Aside0 (kq ≤ k) ∧ Aside0 (Kd.R k50 50 w' w.heap.size (fun _ => True) v7 x7_1) ∧ Aside0 (w'.heap[gb145]? = some (.cells #[.int .i64 a0_0, (.slice A0_1 l0_1.length c0_1)] 24 (0, 0))) ∧ Aside0 (w'.heap[gb146]? = some (.cells #[.string a1_0, .int .i64 a1_1, .int .i64 a1_2] 26 (0, 0))) ∧ Aside0 (Below w.heap.size w w'))
  case atStart => exact ⟨(t147), (0), (by first | rfl | (simp; done) | (simp [*]; done)), H', ⟨Nat.le_refl _⟩, ⟨kR HO149.out⟩, ⟨kA BK145.out⟩, ⟨kA BK146.out⟩, ⟨kB HB.out⟩⟩
  case round =>
   clear H'
   try clear c1
   try clear p2
   try clear c4
   try clear c4b0
   try clear c4b1
   try clear c7
   try clear hcz8_0
   try clear hcz8_1
   try clear hcz9_0
   try clear hcz9_1
   try clear hcz9_2
   try clear hfz8_0
   try clear hfz8_1
   try clear hfz9_0
   try clear hfz9_1
   try clear hfz9_2
   obtain ⟨x7_1, x9_1, rfl, HA, HK1, HO_7, BK145, BK146, HB⟩ := hrel
   cases gk with
   | zero => exact absurd HA.out (by simp [seq_Run.l0])
   | succ k1 =>
    have H := HA.out
    clear HA
    simp only [seq_Run.l0] at H
    have HC11 := Aside0.mk H
    clear H
    go_upto_region 5 with (fail)
    go_cut [27] (fun v27 wc => ∃ (kq : Nat) (x27_10 : Bool), v27 = .bool x27_10 ∧ Aside0 (seq_Run.j1 kq x7_1 x9_1 x27_10 a0_0 l0_1 a1_0 a1_1 a1_2 = some (r1, r2, r3)) ∧ Aside0 (kq ≤ k1) ∧ Aside0 (Kd.R k50 50 wc w.heap.size (fun _ => True) u7 x7_1) ∧ Aside0 (wc.heap[gb145]? = some (.cells #[.int .i64 a0_0, (.slice A0_1 l0_1.length c0_1)] 24 (0, 0))) ∧ Aside0 (wc.heap[gb146]? = some (.cells #[.string a1_0, .int .i64 a1_1, .int .i64 a1_2] 26 (0, 0))) ∧ Aside0 (Below w.heap.size w wc))
    case first =>
     have H := HC11.out
     clear HC11
     by_cases c12 : x9_1 < a1_2
     ·rw [if_pos c12] at H
      have c12b0 := decide_eq_true c12
      clear c12
      (first | rw [c12b0] | (simp only [i64_w, i32_w]; rw [c12b0]) | skip)
      replace H := Option.bind_eq_some_iff.mp H
      obtain ⟨t151, A130, H⟩ := H
      replace H : (seq_Run.j1 k1 x7_1 x9_1 (!t151) a0_0 l0_1 a1_0 a1_1 a1_2) = some (r1, r2, r3) := H
      have A13 := Aside0.mk A130
      clear A130
      have H' := Aside0.mk H
      clear H
      have := NB146_145.out
      have := NB145_146.out
      obtain ⟨hcz15_0, hcz15_1, hcz15_2, hfz15_0, hfz15_1, hfz15_2⟩ := q3z wr BK146.out
      obtain ⟨Ao16, co16, eo16⟩ := Kd.R_slice HO_7.out
      subst eo16
      go_wp2_with (first | (go_at_call 11; (with_reducible refine (seq_Quiet.calls _ _ x7_1 t151 _ ?z1 ?z2 A13.out).mono ?_); (case z1 => exact kD (Kd.R_reads' HO_7.out).2.2); (case z2 => exact (Kd.R_reads' HO_7.out).2.1); rintro e w17 ⟨rfl, hb⟩; replace HO_7 := rS HO_7 hb; replace BK145 := aS BK145 hb; replace BK146 := aS BK146 hb; replace HB := bS HB hb; clear hb))
      go_meet
      case rel => exact ⟨_, (!t151), (by first | rfl | (simp; done) | (simp [*]; done)), H', ⟨by have := HK1.out; first | omega | exact Nat.le_refl _⟩, ⟨kR HO_7.out⟩, ⟨kA BK145.out⟩, ⟨kA BK146.out⟩, ⟨kB HB.out⟩⟩
     ·rw [if_neg c12] at H
      have c12b0 := decide_eq_false c12
      clear c12
      (first | rw [c12b0] | (simp only [i64_w, i32_w]; rw [c12b0]) | skip)
      have H' := Aside0.mk H
      clear H
      have := NB146_145.out
      have := NB145_146.out
      obtain ⟨hcz19_0, hcz19_1, hcz19_2, hfz19_0, hfz19_1, hfz19_2⟩ := q3z wr BK146.out
      go_wp2
      go_meet
      case rel => exact ⟨_, (false), (by first | rfl | (simp; done) | (simp [*]; done)), H', ⟨by have := HK1.out; first | omega | exact Nat.le_refl _⟩, ⟨kR HO_7.out⟩, ⟨kA BK145.out⟩, ⟨kA BK146.out⟩, ⟨kB HB.out⟩⟩
    case rest =>
     clear HC11
     try clear c1
     try clear p2
     try clear c4
     try clear c4b0
     try clear c4b1
     try clear c7
     try clear c12
     try clear c12b0
     try clear c14
     try clear c16
     try clear c17
     try clear c18
     try clear hcz15_0
     try clear hcz15_1
     try clear hcz15_2
     try clear hcz19_0
     try clear hcz19_1
     try clear hcz19_2
     try clear hcz8_0
     try clear hcz8_1
     try clear hcz9_0
     try clear hcz9_1
     try clear hcz9_2
     try clear hfz15_0
     try clear hfz15_1
     try clear hfz15_2
     try clear hfz19_0
     try clear hfz19_1
     try clear hfz19_2
     try clear hfz8_0
     try clear hfz8_1
     try clear hfz9_0
     try clear hfz9_1
     try clear hfz9_2
     try clear p2
     obtain ⟨kq, x27_10, rfl, HA, HJ10, HO_7, BK145, BK146, HB⟩ := hcut
     cases kq with
     | zero => exact absurd HA.out (by simp [seq_Run.j1])
     | succ kj10 =>
      have H := HA.out
      clear HA
      simp only [seq_Run.j1] at H
      by_cases c20 : x27_10 = true
      ·subst c20
       have H1 : ((seq_Next.f a0_0 l0_1 a1_0 a1_1 a1_2 x9_1 x7_1).bind fun bt152 => (if bt152.2.2 = 0 then (seq_Run.l0 kj10 bt152.1 (wrap64 (x9_1 + 1)) a0_0 l0_1 a1_0 a1_1 a1_2) else (some (([] : List Int), x9_1, bt152.2.2)))) = some (r1, r2, r3) := by rw [if_pos rfl] at H; exact H
       clear H
       have H := H1
       clear H1
       replace H := Option.bind_eq_some_iff.mp H
       obtain ⟨⟨t152, t155, t158⟩, A210, H⟩ := H
       replace H : (if t158 = 0 then (seq_Run.l0 kj10 t152 (wrap64 (x9_1 + 1)) a0_0 l0_1 a1_0 a1_1 a1_2) else (some (([] : List Int), x9_1, t158))) = some (r1, r2, r3) := H
       have A21 := Aside0.mk A210
       clear A210
       by_cases c22 : t158 = 0
       ·rw [if_pos c22] at H
        have c22b0 : (t158 == 0) = true := beq_iff_eq.mpr c22
        have c22b1 : (t158 != 0) = false := bne_eq_false_iff_eq.mpr c22
        clear c22
        have H' := Aside0.mk H
        clear H
        have := NB145_146.out
        have := NB146_145.out
        obtain ⟨_, _, _, _⟩ := q2z wc BK145.out
        obtain ⟨_, _, _, _, _, _⟩ := q3z wc BK146.out
        obtain ⟨Ao26, co26, eo26⟩ := Kd.R_slice HO_7.out
        subst eo26
        go_wp2_with (first | ((with_reducible refine gate_callee (f := 6) rfl ?_); refine gL_ (some 33) Tryz.func6 #[.agg #[.int .i64 a0_0, .slice A0_1 l0_1.length c0_1], .agg #[.string a1_0, .int .i64 a1_1, .int .i64 a1_2], .int .i64 x9_1, .slice Ao26 x7_1.length co26] ?_; (with_reducible refine (seq_Next.calls a0_0 _ _ l0_1 a1_0 a1_1 a1_2 x9_1 _ _ x7_1 t152 t155 t158 _ ?z1 ?z2 ?z3 ?z4 A21.out).mono ?_); (case z1 => exact kC HR0_1.out HB.out); (case z2 => exact HC0_1.out); (case z3 => exact kD (Kd.R_reads' HO_7.out).2.2); (case z4 => exact (Kd.R_reads' HO_7.out).2.1); rintro e w27 ⟨v153, v156, rfl, ho0, ho1, hb⟩; refine ⟨_, rfl, ?_⟩; have HO154 := Aside0.mk (Kd.R_lower (Kd.R_new' ho0 (Kd.R_lt (kR HO_7.out))) (below_size (kB HB.out))); have HO157 := lS ho1 HB; replace HO_7 := Aside0.mk (Kd.R_elder' (kR HO_7.out) (Kd.R_base ho0) hb); replace BK145 := aS BK145 hb; replace BK146 := aS BK146 hb; replace HB := bS HB hb; clear hb ho0 ho1))
        go_roundg kj10
        case measure => have := HK1.out; have := HJ10.out; omega
        case rel => exact ⟨(t152), (wrap64 (x9_1 + 1)), (by first | rfl | (simp; done) | (simp [*]; done)), H', ⟨by have := HK1.out; have := HJ10.out; omega⟩, ⟨by (with_reducible repeat (first | apply Kd.R_alloc | apply Kd.R_drewN | apply Kd.R_drew)); exact Kd.R_mono HO154.out (fun _ hk => trivial)⟩, ⟨kA BK145.out⟩, ⟨kA BK146.out⟩, ⟨kB HB.out⟩⟩
       ·rw [if_neg c22] at H
        have c22b0 : (t158 == 0) = false := beq_eq_false_iff_ne.mpr c22
        have c22b1 : (t158 != 0) = true := bne_iff_ne.mpr c22
        simp only [Option.some.injEq, Prod.mk.injEq] at H
        obtain ⟨rfl, rfl, rfl⟩ := H
        have := NB145_146.out
        have := NB146_145.out
        obtain ⟨_, _, _, _⟩ := q2z wc BK145.out
        obtain ⟨_, _, _, _, _, _⟩ := q3z wc BK146.out
        obtain ⟨Ao31, co31, eo31⟩ := Kd.R_slice HO_7.out
        subst eo31
        go_wp2_with (first | ((with_reducible refine gate_callee (f := 6) rfl ?_); refine gL_ (some 33) Tryz.func6 #[.agg #[.int .i64 a0_0, .slice A0_1 l0_1.length c0_1], .agg #[.string a1_0, .int .i64 a1_1, .int .i64 a1_2], .int .i64 x9_1, .slice Ao31 x7_1.length co31] ?_; (with_reducible refine (seq_Next.calls a0_0 _ _ l0_1 a1_0 a1_1 a1_2 x9_1 _ _ x7_1 t152 t155 t158 _ ?z1 ?z2 ?z3 ?z4 A21.out).mono ?_); (case z1 => exact kC HR0_1.out HB.out); (case z2 => exact HC0_1.out); (case z3 => exact kD (Kd.R_reads' HO_7.out).2.2); (case z4 => exact (Kd.R_reads' HO_7.out).2.1); rintro e w32 ⟨v153, v156, rfl, ho0, ho1, hb⟩; refine ⟨_, rfl, ?_⟩; have HO154 := Aside0.mk (Kd.R_lower (Kd.R_new' ho0 (Kd.R_lt (kR HO_7.out))) (below_size (kB HB.out))); have HO157 := lS ho1 HB; replace HO_7 := Aside0.mk (Kd.R_elder' (kR HO_7.out) (Kd.R_base ho0) hb); replace BK145 := aS BK145 hb; replace BK146 := aS BK146 hb; replace HB := bS HB hb; clear hb ho0 ho1))
        go_ret3
        exact ⟨_, by first | rfl | (simp [errW_none, errW_some] <;> rfl) | (simp [*, errW_none, errW_some] <;> rfl), by first | exact Kd.R_nil _ _ _ _ _ | exact Kd.N_nil _ _ _ _ _ | exact Kd.V_nil _ _ _ _ _ | exact Kd.Q_nil _ _ _ _ _ | exact Kd.S_nil _ _ _ _ _, by exact kB HB.out⟩
      ·replace c20 := Bool.eq_false_iff.mpr c20
       subst c20
       have H1 : ((seq_Values.f kj10 x7_1).bind fun t159 => (some (t159, x9_1, 0))) = some (r1, r2, r3) := by rw [if_neg (show ¬ (false = true) by decide)] at H; exact H
       clear H
       have H := H1
       clear H1
       replace H := Option.bind_eq_some_iff.mp H
       obtain ⟨t159, A330, H⟩ := H
       replace H : (some (t159, x9_1, 0)) = some (r1, r2, r3) := H
       have A33 := Aside0.mk A330
       clear A330
       simp only [Option.some.injEq, Prod.mk.injEq] at H
       obtain ⟨rfl, rfl, rfl⟩ := H
       obtain ⟨Ao34, co34, eo34⟩ := Kd.R_slice HO_7.out
       subst eo34
       go_wp2_with (first | ((with_reducible refine gate_callee (f := 14) rfl ?_); refine gL_ (some 44) Tryz.func14 #[.slice Ao34 x7_1.length co34] ?_; (with_reducible refine (seq_Values.calls kj10 _ _ x7_1 t159 _ ?z1 ?z2 A33.out).mono ?_); (case z1 => exact kD (Kd.R_reads' HO_7.out).2.2); (case z2 => exact (Kd.R_reads' HO_7.out).2.1); rintro e w35 ⟨v160, rfl, ho0, hb⟩; refine ⟨_, rfl, ?_⟩; have HO161 := lS ho0 HB; replace HO_7 := rS HO_7 hb; replace BK145 := aS BK145 hb; replace BK146 := aS BK146 hb; replace HB := bS HB hb; clear hb ho0))
       go_ret3
       exact ⟨_, by first | rfl | (simp [errW_none, errW_some] <;> rfl) | (simp [*, errW_none, errW_some] <;> rfl), by exact kR HO161.out, by exact kB HB.out⟩
 ·rw [if_neg c4] at H
  have c4b0 : (t150 == 0) = false := beq_eq_false_iff_ne.mpr c4
  have c4b1 : (t150 != 0) = true := bne_iff_ne.mpr c4
  simp only [Option.some.injEq, Prod.mk.injEq] at H
  obtain ⟨rfl, rfl, rfl⟩ := H
  go_enter Tryz.func17, Tryz.ntmps17
  go_wp2_with (first | ((with_reducible refine gate_dst (N := 2) rfl ?_); refine bE_ #[.int .i64 a0_0, .slice A0_1 l0_1.length c0_1] 24 ?_; intro gb145 hg w36 hbox hb; have BK145 := Aside0.mk hbox; have GW145 := gS hg HB; have GE145 := gS hg HB; replace HB := bS HB hb; clear hb hbox hg) | ((with_reducible refine gate_dst (N := 3) rfl ?_); refine bE_ #[.string a1_0, .int .i64 a1_1, .int .i64 a1_2] 26 ?_; intro gb146 hg w37 hbox hb; have BK146 := Aside0.mk hbox; have GW146 := gS hg HB; have GE146 := gS hg HB; have NB145_146 := nL hg BK145; have NB146_145 := nG hg BK145; replace BK145 := aS BK145 hb; replace HB := bS HB hb; clear hb hbox hg; have := NB145_146.out; have := NB146_145.out; obtain ⟨_, _, _, _⟩ := q2z w37 BK145.out; obtain ⟨_, _, _, _, _, _⟩ := q3z w37 BK146.out) | ((with_reducible refine gate_callee (f := 16) rfl ?_); refine gL_ (some 13) Tryz.func16 #[.agg #[.int .i64 a0_0, .slice A0_1 l0_1.length c0_1], .agg #[.string a1_0, .int .i64 a1_1, .int .i64 a1_2]] ?_; (with_reducible refine (seq_Start.calls k a0_0 _ _ l0_1 a1_0 a1_1 a1_2 t147 t150 _ ?z1 ?z2 A3.out).mono ?_); (case z1 => exact kC HR0_1.out HB.out); (case z2 => exact HC0_1.out); rintro e w41 ⟨v148, rfl, ho0, hb⟩; refine ⟨_, rfl, ?_⟩; have HO149 := lS ho0 HB; replace BK145 := aS BK145 hb; replace BK146 := aS BK146 hb; replace HB := bS HB hb; clear hb ho0))
  go_ret3
  exact ⟨_, by first | rfl | (simp [errW_none, errW_some] <;> rfl) | (simp [*, errW_none, errW_some] <;> rfl), by first | exact Kd.R_nil _ _ _ _ _ | exact Kd.N_nil _ _ _ _ _ | exact Kd.V_nil _ _ _ _ _ | exact Kd.Q_nil _ _ _ _ _ | exact Kd.S_nil _ _ _ _ _, by exact kB HB.out⟩

/-! ### modillionlaw09_awake: function 5 (given) -/
section
def modillionlaw09_awake.f (k : Nat)  : Option (Bool) := (some (([(⟨0, 1, 0⟩ : S48), (⟨1, 2, 0⟩ : S48), (⟨2, 0, 0⟩ : S48)] : List (S48)) : List (S48))).bind fun y160 => ((seq_Start.f k 3 y160 (⟨#[108, 97, 98, 101, 108]⟩ : ByteArray) 0 9).bind fun bt165 => ((seq_Next.f 3 y160 (⟨#[108, 97, 98, 101, 108]⟩ : ByteArray) 0 9 0 bt165.1).bind fun bt169 => ((seq_Run.f k 3 y160 (⟨#[108, 97, 98, 101, 108]⟩ : ByteArray) 0 9).bind fun bt176 => (if bt165.2 = 0 then (if (bt165.1.length : Int) = 3 then (if bt169.2.2 = 0 then (if (bt169.1.length : Int) = 3 then (if (bt169.2.1.length : Int) = 3 then (if 1 < (bt169.1.length : Int) then (if (rd_T50 bt169.1 1).f3 = true then ((seq_Quiet.f bt169.1).bind fun t182 => (if t182 = true then (none) else ((modillionref09_Row.f k bt176.1 (([0, 0, 0] : List Int))).bind fun t186 => (if t186 = true then (if bt176.2.1 ≤ 4 then (if bt176.2.2 = 0 then ((seq_Values.f k bt165.1).bind fun t187 => ((modillionref09_Row.f k t187 (([0, 1, 2] : List Int))).bind fun t193 => (some t193))) else (none)) else (none)) else (none))))) else (none)) else (none)) else (none)) else (none)) else (none)) else (none)) else (none)))))
theorem modillionlaw09_awake.mono : ∀ k, LeO (modillionlaw09_awake.f k ) (modillionlaw09_awake.f (k + 1) ) := by
 intro  k
 unfold modillionlaw09_awake.f
 repeat' first
   | (with_reducible exact modillionref09_Row.mono _ _ _)
   | (with_reducible exact seq_Run.mono _ _ _ _ _ _)
   | (with_reducible exact seq_Start.mono _ _ _ _ _ _)
   | (with_reducible exact seq_Values.mono _ _)
   | (with_reducible exact LeO.refl _)
   | (with_reducible exact LeO.none _)
   | (with_reducible refine LeO.ite ?_ ?_)
   | (with_reducible refine LeO.bind ?_ (fun _ => ?_))
   | exact modillionref09_Row.mono _ _ _
   | exact seq_Run.mono _ _ _ _ _ _
   | exact seq_Start.mono _ _ _ _ _ _
   | exact seq_Values.mono _ _
   | exact LeO.none _
   | refine LeO.ite ?_ ?_
   | refine LeO.bind ?_ (fun _ => ?_)
set_option maxHeartbeats 8000000 in
set_option maxRecDepth 100000 in
theorem modillionlaw09_awake.calls (k : Nat)  (r : Bool) (w : World) (h : modillionlaw09_awake.f k  = some r) :
  Calls Tryz.prog 5 #[] w fun e w' => e = .returned (.bool r) ∧ Below w.heap.size w w' := by
 have hu45 := Tryz.underlying48
 have hu24 := Tryz.underlying24
 have hu26 := Tryz.underlying26
 have HB := Aside0.mk (Below.refl w.heap.size w)
 have H : ((some (([(⟨0, 1, 0⟩ : S48), (⟨1, 2, 0⟩ : S48), (⟨2, 0, 0⟩ : S48)] : List (S48)) : List (S48))).bind fun y160 => ((seq_Start.f k 3 y160 (⟨#[108, 97, 98, 101, 108]⟩ : ByteArray) 0 9).bind fun bt165 => ((seq_Next.f 3 y160 (⟨#[108, 97, 98, 101, 108]⟩ : ByteArray) 0 9 0 bt165.1).bind fun bt169 => ((seq_Run.f k 3 y160 (⟨#[108, 97, 98, 101, 108]⟩ : ByteArray) 0 9).bind fun bt176 => (if bt165.2 = 0 then (if (bt165.1.length : Int) = 3 then (if bt169.2.2 = 0 then (if (bt169.1.length : Int) = 3 then (if (bt169.2.1.length : Int) = 3 then (if 1 < (bt169.1.length : Int) then (if (rd_T50 bt169.1 1).f3 = true then ((seq_Quiet.f bt169.1).bind fun t182 => (if t182 = true then (none) else ((modillionref09_Row.f k bt176.1 (([0, 0, 0] : List Int))).bind fun t186 => (if t186 = true then (if bt176.2.1 ≤ 4 then (if bt176.2.2 = 0 then ((seq_Values.f k bt165.1).bind fun t187 => ((modillionref09_Row.f k t187 (([0, 1, 2] : List Int))).bind fun t193 => (some t193))) else (none)) else (none)) else (none))))) else (none)) else (none)) else (none)) else (none)) else (none)) else (none)) else (none)))))) = some r := h
 clear h
 obtain ⟨y160, hy160⟩ : ∃ y_ : List (S48), y_ = (([(⟨0, 1, 0⟩ : S48), (⟨1, 2, 0⟩ : S48), (⟨2, 0, 0⟩ : S48)] : List (S48))) := ⟨_, rfl⟩
 replace H : ((seq_Start.f k 3 y160 (⟨#[108, 97, 98, 101, 108]⟩ : ByteArray) 0 9).bind fun bt165 => ((seq_Next.f 3 y160 (⟨#[108, 97, 98, 101, 108]⟩ : ByteArray) 0 9 0 bt165.1).bind fun bt169 => ((seq_Run.f k 3 y160 (⟨#[108, 97, 98, 101, 108]⟩ : ByteArray) 0 9).bind fun bt176 => (if bt165.2 = 0 then (if (bt165.1.length : Int) = 3 then (if bt169.2.2 = 0 then (if (bt169.1.length : Int) = 3 then (if (bt169.2.1.length : Int) = 3 then (if 1 < (bt169.1.length : Int) then (if (rd_T50 bt169.1 1).f3 = true then ((seq_Quiet.f bt169.1).bind fun t182 => (if t182 = true then (none) else ((modillionref09_Row.f k bt176.1 (([0, 0, 0] : List Int))).bind fun t186 => (if t186 = true then (if bt176.2.1 ≤ 4 then (if bt176.2.2 = 0 then ((seq_Values.f k bt165.1).bind fun t187 => ((modillionref09_Row.f k t187 (([0, 1, 2] : List Int))).bind fun t193 => (some t193))) else (none)) else (none)) else (none))))) else (none)) else (none)) else (none)) else (none)) else (none)) else (none)) else (none))))) = some r := by first | (rw [hy160]; with_reducible exact H) | (have H2_ := (Option.bind_some _ _).symm.trans H; rw [hy160]; with_reducible exact H2_) | (have H2_ := (Option.bind_some _ _).symm.trans H; with_reducible exact H2_) | with_reducible exact H | (rw [hy160]; exact H) | exact H
 have Ny160 := Aside0.mk hy160
 clear hy160
 replace H := Option.bind_eq_some_iff.mp H
 obtain ⟨⟨t165, t168⟩, A10, H⟩ := H
 replace H : ((seq_Next.f 3 y160 (⟨#[108, 97, 98, 101, 108]⟩ : ByteArray) 0 9 0 t165).bind fun bt169 => ((seq_Run.f k 3 y160 (⟨#[108, 97, 98, 101, 108]⟩ : ByteArray) 0 9).bind fun bt176 => (if t168 = 0 then (if (t165.length : Int) = 3 then (if bt169.2.2 = 0 then (if (bt169.1.length : Int) = 3 then (if (bt169.2.1.length : Int) = 3 then (if 1 < (bt169.1.length : Int) then (if (rd_T50 bt169.1 1).f3 = true then ((seq_Quiet.f bt169.1).bind fun t182 => (if t182 = true then (none) else ((modillionref09_Row.f k bt176.1 (([0, 0, 0] : List Int))).bind fun t186 => (if t186 = true then (if bt176.2.1 ≤ 4 then (if bt176.2.2 = 0 then ((seq_Values.f k t165).bind fun t187 => ((modillionref09_Row.f k t187 (([0, 1, 2] : List Int))).bind fun t193 => (some t193))) else (none)) else (none)) else (none))))) else (none)) else (none)) else (none)) else (none)) else (none)) else (none)) else (none)))) = some r := H
 have A1 := Aside0.mk A10
 clear A10
 replace H := Option.bind_eq_some_iff.mp H
 obtain ⟨⟨t169, t172, t175⟩, A20, H⟩ := H
 replace H : ((seq_Run.f k 3 y160 (⟨#[108, 97, 98, 101, 108]⟩ : ByteArray) 0 9).bind fun bt176 => (if t168 = 0 then (if (t165.length : Int) = 3 then (if t175 = 0 then (if (t169.length : Int) = 3 then (if (t172.length : Int) = 3 then (if 1 < (t169.length : Int) then (if (rd_T50 t169 1).f3 = true then ((seq_Quiet.f t169).bind fun t182 => (if t182 = true then (none) else ((modillionref09_Row.f k bt176.1 (([0, 0, 0] : List Int))).bind fun t186 => (if t186 = true then (if bt176.2.1 ≤ 4 then (if bt176.2.2 = 0 then ((seq_Values.f k t165).bind fun t187 => ((modillionref09_Row.f k t187 (([0, 1, 2] : List Int))).bind fun t193 => (some t193))) else (none)) else (none)) else (none))))) else (none)) else (none)) else (none)) else (none)) else (none)) else (none)) else (none))) = some r := H
 have A2 := Aside0.mk A20
 clear A20
 replace H := Option.bind_eq_some_iff.mp H
 obtain ⟨⟨t176, t179, t180⟩, A30, H⟩ := H
 replace H : (if t168 = 0 then (if (t165.length : Int) = 3 then (if t175 = 0 then (if (t169.length : Int) = 3 then (if (t172.length : Int) = 3 then (if 1 < (t169.length : Int) then (if (rd_T50 t169 1).f3 = true then ((seq_Quiet.f t169).bind fun t182 => (if t182 = true then (none) else ((modillionref09_Row.f k t176 (([0, 0, 0] : List Int))).bind fun t186 => (if t186 = true then (if t179 ≤ 4 then (if t180 = 0 then ((seq_Values.f k t165).bind fun t187 => ((modillionref09_Row.f k t187 (([0, 1, 2] : List Int))).bind fun t193 => (some t193))) else (none)) else (none)) else (none))))) else (none)) else (none)) else (none)) else (none)) else (none)) else (none)) else (none)) = some r := H
 have A3 := Aside0.mk A30
 clear A30
 by_cases c4 : t168 = 0
 ·rw [if_pos c4] at H
  have c4b0 : (t168 == 0) = true := beq_iff_eq.mpr c4
  have c4b1 : (t168 != 0) = false := bne_eq_false_iff_eq.mpr c4
  clear c4
  by_cases c5 : (t165.length : Int) = 3
  ·rw [if_pos c5] at H
   have c5b0 : ((t165.length : Int) == 3) = true := beq_iff_eq.mpr c5
   have c5b1 : ((t165.length : Int) != 3) = false := bne_eq_false_iff_eq.mpr c5
   clear c5
   by_cases c6 : t175 = 0
   ·rw [if_pos c6] at H
    have c6b0 : (t175 == 0) = true := beq_iff_eq.mpr c6
    have c6b1 : (t175 != 0) = false := bne_eq_false_iff_eq.mpr c6
    clear c6
    by_cases c7 : (t169.length : Int) = 3
    ·rw [if_pos c7] at H
     have c7b0 : ((t169.length : Int) == 3) = true := beq_iff_eq.mpr c7
     have c7b1 : ((t169.length : Int) != 3) = false := bne_eq_false_iff_eq.mpr c7
     clear c7
     by_cases c8 : (t172.length : Int) = 3
     ·rw [if_pos c8] at H
      have c8b0 : ((t172.length : Int) == 3) = true := beq_iff_eq.mpr c8
      have c8b1 : ((t172.length : Int) != 3) = false := bne_eq_false_iff_eq.mpr c8
      clear c8
      by_cases c9 : 1 < (t169.length : Int)
      ·rw [if_pos c9] at H
       have c9b0 := decide_eq_true c9
       have c9b1 : decide (1 < t169.length) = true := decide_eq_true (by omega)
       clear c9
       obtain ⟨bq10, hbq10⟩ : ∃ b_ : Bool, b_ = ((rd_T50 t169 1).f3) := ⟨_, rfl⟩
       replace H : (if bq10 = true then ((seq_Quiet.f t169).bind fun t182 => (if t182 = true then (none) else ((modillionref09_Row.f k t176 (([0, 0, 0] : List Int))).bind fun t186 => (if t186 = true then (if t179 ≤ 4 then (if t180 = 0 then ((seq_Values.f k t165).bind fun t187 => ((modillionref09_Row.f k t187 (([0, 1, 2] : List Int))).bind fun t193 => (some t193))) else (none)) else (none)) else (none))))) else (none)) = some r := by rw [← hbq10] at H; exact H
       have Nbq10 := Aside0.mk hbq10
       clear hbq10
       by_cases c11 : bq10 = true
       ·subst c11
        have H1 : ((seq_Quiet.f t169).bind fun t182 => (if t182 = true then (none) else ((modillionref09_Row.f k t176 (([0, 0, 0] : List Int))).bind fun t186 => (if t186 = true then (if t179 ≤ 4 then (if t180 = 0 then ((seq_Values.f k t165).bind fun t187 => ((modillionref09_Row.f k t187 (([0, 1, 2] : List Int))).bind fun t193 => (some t193))) else (none)) else (none)) else (none))))) = some r := by rw [if_pos rfl] at H; exact H
        clear H
        have H := H1
        clear H1
        replace H := Option.bind_eq_some_iff.mp H
        obtain ⟨t182, A120, H⟩ := H
        replace H : (if t182 = true then (none) else ((modillionref09_Row.f k t176 (([0, 0, 0] : List Int))).bind fun t186 => (if t186 = true then (if t179 ≤ 4 then (if t180 = 0 then ((seq_Values.f k t165).bind fun t187 => ((modillionref09_Row.f k t187 (([0, 1, 2] : List Int))).bind fun t193 => (some t193))) else (none)) else (none)) else (none)))) = some r := H
        have A12 := Aside0.mk A120
        clear A120
        by_cases c13 : t182 = true
        ·rw [if_pos c13] at H; cases H
        ·replace c13 := Bool.eq_false_iff.mpr c13
         subst c13
         have H1 : ((modillionref09_Row.f k t176 (([0, 0, 0] : List Int))).bind fun t186 => (if t186 = true then (if t179 ≤ 4 then (if t180 = 0 then ((seq_Values.f k t165).bind fun t187 => ((modillionref09_Row.f k t187 (([0, 1, 2] : List Int))).bind fun t193 => (some t193))) else (none)) else (none)) else (none))) = some r := by rw [if_neg (show ¬ (false = true) by decide)] at H; exact H
         clear H
         have H := H1
         clear H1
         obtain ⟨y183, hy183⟩ : ∃ y_ : List Int, y_ = (([0, 0, 0] : List Int)) := ⟨_, rfl⟩
         replace H : ((modillionref09_Row.f k t176 y183).bind fun t186 => (if t186 = true then (if t179 ≤ 4 then (if t180 = 0 then ((seq_Values.f k t165).bind fun t187 => ((modillionref09_Row.f k t187 (([0, 1, 2] : List Int))).bind fun t193 => (some t193))) else (none)) else (none)) else (none))) = some r := by first | (rw [hy183]; with_reducible exact H) | (have H2_ := (Option.bind_some _ _).symm.trans H; rw [hy183]; with_reducible exact H2_) | (have H2_ := (Option.bind_some _ _).symm.trans H; with_reducible exact H2_) | with_reducible exact H | (rw [hy183]; exact H) | exact H
         have Ny183 := Aside0.mk hy183
         clear hy183
         replace H := Option.bind_eq_some_iff.mp H
         obtain ⟨t186, A340, H⟩ := H
         replace H : (if t186 = true then (if t179 ≤ 4 then (if t180 = 0 then ((seq_Values.f k t165).bind fun t187 => ((modillionref09_Row.f k t187 (([0, 1, 2] : List Int))).bind fun t193 => (some t193))) else (none)) else (none)) else (none)) = some r := H
         have A34 := Aside0.mk A340
         clear A340
         by_cases c35 : t186 = true
         ·subst c35
          have H1 : (if t179 ≤ 4 then (if t180 = 0 then ((seq_Values.f k t165).bind fun t187 => ((modillionref09_Row.f k t187 (([0, 1, 2] : List Int))).bind fun t193 => (some t193))) else (none)) else (none)) = some r := by rw [if_pos rfl] at H; exact H
          clear H
          have H := H1
          clear H1
          by_cases c36 : t179 ≤ 4
          ·rw [if_pos c36] at H
           have c36b0 := decide_eq_true c36
           clear c36
           by_cases c37 : t180 = 0
           ·rw [if_pos c37] at H
            have c37b0 : (t180 == 0) = true := beq_iff_eq.mpr c37
            have c37b1 : (t180 != 0) = false := bne_eq_false_iff_eq.mpr c37
            clear c37
            replace H := Option.bind_eq_some_iff.mp H
            obtain ⟨t187, A380, H⟩ := H
            replace H : ((modillionref09_Row.f k t187 (([0, 1, 2] : List Int))).bind fun t193 => (some t193)) = some r := H
            have A38 := Aside0.mk A380
            clear A380
            obtain ⟨y190, hy190⟩ : ∃ y_ : List Int, y_ = (([0, 1, 2] : List Int)) := ⟨_, rfl⟩
            replace H : ((modillionref09_Row.f k t187 y190).bind fun t193 => (some t193)) = some r := by first | (rw [hy190]; with_reducible exact H) | (have H2_ := (Option.bind_some _ _).symm.trans H; rw [hy190]; with_reducible exact H2_) | (have H2_ := (Option.bind_some _ _).symm.trans H; with_reducible exact H2_) | with_reducible exact H | (rw [hy190]; exact H) | exact H
            have Ny190 := Aside0.mk hy190
            clear hy190
            replace H := Option.bind_eq_some_iff.mp H
            obtain ⟨t193, A390, H⟩ := H
            replace H : (some t193) = some r := H
            have A39 := Aside0.mk A390
            clear A390
            obtain rfl := Option.some.inj H
            go_enter Tryz.func5, Tryz.ntmps5
            go_wp2_with (first | ((with_reducible refine gate_dst (N := 14) rfl ?_); (try (refine gate_guard (by rfl) ?_; dsimp only)); refine Kd.R_lit k48 _ 48 ?hg (N := 14) ?hd (xs := ([(⟨0, 1, 0⟩ : S48), (⟨1, 2, 0⟩ : S48), (⟨2, 0, 0⟩ : S48)] : List (S48))) (inner := [.int .i64 0, .int .i64 1, .int .i64 0, .int .i64 1, .int .i64 2, .int .i64 0, .int .i64 2, .int .i64 0, .int .i64 0]) (ok := fun _ => True) (okp := fun _ => True) ?hr ?hp (fun _ hk => hk) trivial (Below.refl _ _) (Nat.le_refl _) (by simp) ?_; (case hd => rfl); (case hg => rfl); (case hr => first | (go_simp; done) | (go_simp; rfl)); (case hp => exact (Reps.c3 (show Kd.M k48 _ _ _ (⟨0, 1, 0⟩ : S48) [.int .i64 0, .int .i64 1, .int .i64 0] from (k48_mkM _ _ _ (⟨0, 1, 0⟩ : S48) )) (Reps.c3 (show Kd.M k48 _ _ _ (⟨1, 2, 0⟩ : S48) [.int .i64 1, .int .i64 2, .int .i64 0] from (k48_mkM _ _ _ (⟨1, 2, 0⟩ : S48) )) (Reps.c3 (show Kd.M k48 _ _ _ (⟨2, 0, 0⟩ : S48) [.int .i64 2, .int .i64 0, .int .i64 0] from (k48_mkM _ _ _ (⟨2, 0, 0⟩ : S48) )) (Reps.none _ _))))); intro v161 w40 ho41 hb hg_ hnew_; clear hg_ hnew_; (first | rw [← Ny160.out] at ho41 | (simp only [Int.reduceToNat] at ho41; rw [← Ny160.out] at ho41)); have HO162 := lS ho41 HB; replace HB := bS HB hb; clear hb ho41; obtain ⟨Ao42, co42, eo42⟩ := Kd.R_slice HO162.out; subst eo42) | ((with_reducible refine gate_dst (N := 1) rfl ?_); (try (refine gate_guard (by rfl) ?_; dsimp only)); refine bE_ #[.int .i64 0, .slice none 0 0] 24 ?_; intro gb163 hg w43 hbox hb; have BK163 := Aside0.mk hbox; have GW163 := gS hg HB; have GE163 := gS hg HB; replace HO162 := rS HO162 hb; replace HB := bS HB hb; clear hb hbox hg; obtain ⟨_, _, _, _⟩ := q2z w43 BK163.out) | ((with_reducible refine gate_dst (N := 2) rfl ?_); (try (refine gate_guard (by rfl) ?_; dsimp only)); refine bE_ #[.string (⟨#[]⟩ : ByteArray), .int .i64 0, .int .i64 0] 26 ?_; intro gb164 hg w45 hbox hb; have BK164 := Aside0.mk hbox; have GW164 := gS hg HB; have GE164 := gS hg HB; have NB163_164 := Aside0.mk ((by rw [hg]; exact Nat.ne_of_lt (blk_lt (g := gb163) (o := .cells #[.int .i64 3, .slice Ao42 y160.length co42] 24 (0, 0)) (by (with_reducible repeat (first | refine blk_drewN ?_ _ | refine blk_drew ?_ | refine blk_alloc ?_ _)); refine blk_put (cs := #[.int .i64 3, .slice none 0 0]) ?_ 1 _ rfl; refine blk_put (cs := #[.int .i64 0, .slice none 0 0]) ?_ 0 _ rfl; exact kA BK163.out)) : gb163 ≠ gb164)); have NB164_163 := Aside0.mk ((by rw [hg]; exact Nat.ne_of_gt (blk_lt (g := gb163) (o := .cells #[.int .i64 3, .slice Ao42 y160.length co42] 24 (0, 0)) (by (with_reducible repeat (first | refine blk_drewN ?_ _ | refine blk_drew ?_ | refine blk_alloc ?_ _)); refine blk_put (cs := #[.int .i64 3, .slice none 0 0]) ?_ 1 _ rfl; refine blk_put (cs := #[.int .i64 0, .slice none 0 0]) ?_ 0 _ rfl; exact kA BK163.out)) : gb164 ≠ gb163)); replace HO162 := Aside0.mk (Kd.R_below (by (with_reducible repeat (first | apply Kd.R_alloc | apply Kd.R_drewN | apply Kd.R_drew)); exact (Kd.R_mono (Kd.R_far (p := ⟨gb163, 1, none⟩) (Kd.R_far (p := ⟨gb163, 0, none⟩) (Kd.R_types HO162.out BK163.out (by decide)) (fun _ hk => hk.2) (.int .i64 3)) (fun _ hk => hk.2) (.slice Ao42 y160.length co42)) (fun _ h_ => h_.1))) hb); replace BK163 := Aside0.mk (blk_below (g := gb163) (o := .cells #[.int .i64 3, .slice Ao42 y160.length co42] 24 (0, 0)) (by (with_reducible repeat (first | refine blk_drewN ?_ _ | refine blk_drew ?_ | refine blk_alloc ?_ _)); refine blk_put (cs := #[.int .i64 3, .slice none 0 0]) ?_ 1 _ rfl; refine blk_put (cs := #[.int .i64 0, .slice none 0 0]) ?_ 0 _ rfl; exact kA BK163.out) hb); replace HB := bS HB hb; clear hb hbox hg; have := NB164_163.out; have := NB163_164.out; obtain ⟨_, _, _, _, _, _⟩ := q3z w45 BK164.out; obtain ⟨_, _, _, _⟩ := q2z w45 BK163.out) | ((with_reducible refine gate_callee (f := 16) rfl ?_); refine gL_ (some 20) Tryz.func16 #[.agg #[.int .i64 3, .slice Ao42 y160.length co42], .agg #[.string (⟨#[108, 97, 98, 101, 108]⟩ : ByteArray), .int .i64 0, .int .i64 9]] ?_; (with_reducible refine (seq_Start.calls k 3 _ _ y160 (⟨#[108, 97, 98, 101, 108]⟩ : ByteArray) 0 9 t165 t168 _ ?z1 ?z2 A1.out).mono ?_); (case z1 => refine (Kd.R_reads' (e := 48) (base := w.heap.size) (ok := fun k_ => True) (n := y160.length) (c := co42) ?_).2.2; exact (by (with_reducible repeat (first | apply Kd.R_alloc | apply Kd.R_drewN | apply Kd.R_drew)); exact (Kd.R_mono (Kd.R_far (p := ⟨gb164, 2, none⟩) (Kd.R_far (p := ⟨gb164, 1, none⟩) (Kd.R_far (p := ⟨gb164, 0, none⟩) (Kd.R_types HO162.out BK164.out (by decide)) (fun _ hk => hk.2) (.string (⟨#[108, 97, 98, 101, 108]⟩ : ByteArray))) (fun _ hk => hk.2) (.int .i64 0)) (fun _ hk => hk.2) (.int .i64 9)) (fun _ h_ => h_.1)))); (case z2 => exact (Kd.R_reads' HO162.out).2.1); rintro e w49 ⟨v166, rfl, ho0, hb⟩; refine ⟨_, rfl, ?_⟩; have HO167 := lS ho0 HB; replace HO162 := Aside0.mk (Kd.R_below (by (with_reducible repeat (first | apply Kd.R_alloc | apply Kd.R_drewN | apply Kd.R_drew)); exact (Kd.R_mono (Kd.R_far (p := ⟨gb164, 2, none⟩) (Kd.R_far (p := ⟨gb164, 1, none⟩) (Kd.R_far (p := ⟨gb164, 0, none⟩) (Kd.R_types HO162.out BK164.out (by decide)) (fun _ hk => hk.2) (.string (⟨#[108, 97, 98, 101, 108]⟩ : ByteArray))) (fun _ hk => hk.2) (.int .i64 0)) (fun _ hk => hk.2) (.int .i64 9)) (fun _ h_ => h_.1))) hb); replace BK163 := Aside0.mk (blk_below (g := gb163) (o := .cells #[.int .i64 3, .slice Ao42 y160.length co42] 24 (0, 0)) (kF NB163_164.out BK163.out) hb); replace BK164 := Aside0.mk (blk_below (g := gb164) (o := .cells #[.string (⟨#[108, 97, 98, 101, 108]⟩ : ByteArray), .int .i64 0, .int .i64 9] 26 (0, 0)) (by (with_reducible repeat (first | refine blk_drewN ?_ _ | refine blk_drew ?_ | refine blk_alloc ?_ _)); refine blk_put (cs := #[.string (⟨#[108, 97, 98, 101, 108]⟩ : ByteArray), .int .i64 0, .int .i64 0]) ?_ 2 _ rfl; refine blk_put (cs := #[.string (⟨#[108, 97, 98, 101, 108]⟩ : ByteArray), .int .i64 0, .int .i64 0]) ?_ 1 _ rfl; refine blk_put (cs := #[.string (⟨#[]⟩ : ByteArray), .int .i64 0, .int .i64 0]) ?_ 0 _ rfl; exact kA BK164.out) hb); replace HB := bS HB hb; clear hb ho0; obtain ⟨_, _, _, _⟩ := q2z w49 BK163.out; obtain ⟨_, _, _, _, _, _⟩ := q3z w49 BK164.out; obtain ⟨Ao52, co52, eo52⟩ := Kd.R_slice HO167.out; subst eo52) | ((with_reducible refine gate_callee (f := 6) rfl ?_); refine gL_ (some 27) Tryz.func6 #[.agg #[.int .i64 3, .slice Ao42 y160.length co42], .agg #[.string (⟨#[108, 97, 98, 101, 108]⟩ : ByteArray), .int .i64 0, .int .i64 9], .int .i64 0, .slice Ao52 t165.length co52] ?_; (with_reducible refine (seq_Next.calls 3 _ _ y160 (⟨#[108, 97, 98, 101, 108]⟩ : ByteArray) 0 9 0 _ _ t165 t169 t172 t175 _ ?z1 ?z2 ?z3 ?z4 A2.out).mono ?_); (case z1 => exact kD (Kd.R_reads' HO162.out).2.2); (case z2 => exact (Kd.R_reads' HO162.out).2.1); (case z3 => exact kD (Kd.R_reads' HO167.out).2.2); (case z4 => exact (Kd.R_reads' HO167.out).2.1); rintro e w53 ⟨v170, v173, rfl, ho0, ho1, hb⟩; refine ⟨_, rfl, ?_⟩; have HO171 := Aside0.mk (Kd.R_lower (Kd.R_new' ho0 (Kd.R_lt (kR HO167.out))) (below_size (kB HB.out))); have HO174 := lS ho1 HB; replace HO162 := rS HO162 hb; replace HO167 := Aside0.mk (Kd.R_elder' (kR HO167.out) (Kd.R_base ho0) hb); replace BK163 := aS BK163 hb; replace BK164 := aS BK164 hb; replace HB := bS HB hb; clear hb ho0 ho1; obtain ⟨_, _, _, _⟩ := q2z w53 BK163.out; obtain ⟨_, _, _, _, _, _⟩ := q3z w53 BK164.out) | ((with_reducible refine gate_callee (f := 17) rfl ?_); refine gL_ (some 34) Tryz.func17 #[.agg #[.int .i64 3, .slice Ao42 y160.length co42], .agg #[.string (⟨#[108, 97, 98, 101, 108]⟩ : ByteArray), .int .i64 0, .int .i64 9]] ?_; (with_reducible refine (seq_Run.calls k 3 _ _ y160 (⟨#[108, 97, 98, 101, 108]⟩ : ByteArray) 0 9 t176 t179 t180 _ ?z1 ?z2 A3.out).mono ?_); (case z1 => exact kD (Kd.R_reads' HO162.out).2.2); (case z2 => exact (Kd.R_reads' HO162.out).2.1); rintro e w56 ⟨v177, rfl, ho0, hb⟩; refine ⟨_, rfl, ?_⟩; have HO178 := lS ho0 HB; replace HO162 := rS HO162 hb; replace HO167 := rS HO167 hb; replace HO171 := rS HO171 hb; replace HO174 := rS HO174 hb; replace BK163 := aS BK163 hb; replace BK164 := aS BK164 hb; replace HB := bS HB hb; clear hb ho0; obtain ⟨Ao57, co57, eo57⟩ := Kd.R_slice HO171.out; subst eo57; obtain ⟨Ao58, co58, eo58⟩ := Kd.R_slice HO174.out; subst eo58; have p181 : 0 ≤ (1 : Int) := (by omega); have q181 : 1 < (t169.length : Int) := of_decide_eq_true (by first | (with_reducible assumption) | assumption); obtain ⟨ad181, e181, hx181_0, hx181_1, hx181_2, hx181_3, hx181_4⟩ := at_T50 (Kd.R_reads' HO171.out).2.2 1 p181 q181; (try rw [← Nbq10.out] at hx181_2); (try rw [← Nbq10.out] at hx181_3); cases e181; (try simp only [show (1 : Int).toNat = 1 from rfl, Nat.reduceMul, Nat.reduceEqDiff, Go.Addr.add, ↓reduceIte] at hx181_0); (try simp only [show (1 : Int).toNat = 1 from rfl, Nat.reduceMul, Nat.reduceEqDiff, Go.Addr.add, ↓reduceIte] at hx181_1); (try simp only [show (1 : Int).toNat = 1 from rfl, Nat.reduceMul, Nat.reduceEqDiff, Go.Addr.add, ↓reduceIte] at hx181_2); (try simp only [show (1 : Int).toNat = 1 from rfl, Nat.reduceMul, Nat.reduceEqDiff, Go.Addr.add, ↓reduceIte] at hx181_3); (try simp only [show (1 : Int).toNat = 1 from rfl, Nat.reduceMul, Nat.reduceEqDiff, Go.Addr.add, ↓reduceIte] at hx181_4); have qi181 : (1 < t169.length) = True := eq_true (by omega); (try rw [show ((1 : Int)).toNat = 1 from rfl] at hx181_0); (try rw [show 1 * 5 = 5 from rfl] at hx181_0); (try rw [show ((1 : Int)).toNat = 1 from rfl] at hx181_1); (try rw [show 1 * 5 = 5 from rfl] at hx181_1); (try rw [show ((1 : Int)).toNat = 1 from rfl] at hx181_2); (try rw [show 1 * 5 = 5 from rfl] at hx181_2); (try rw [show ((1 : Int)).toNat = 1 from rfl] at hx181_3); (try rw [show 1 * 5 = 5 from rfl] at hx181_3); (try rw [show ((1 : Int)).toNat = 1 from rfl] at hx181_4); (try rw [show 1 * 5 = 5 from rfl] at hx181_4); replace p181 := eq_true p181; replace q181 := eq_true q181) | (go_at_call 11; (with_reducible refine (seq_Quiet.calls _ _ t169 false _ ?z1 ?z2 A12.out).mono ?_); (case z1 => exact kD (Kd.R_reads' HO171.out).2.2); (case z2 => exact (Kd.R_reads' HO171.out).2.1); rintro e w59 ⟨rfl, hb⟩; replace HO162 := rS HO162 hb; replace HO167 := rS HO167 hb; replace HO171 := rS HO171 hb; replace HO174 := rS HO174 hb; replace HO178 := rS HO178 hb; replace BK163 := aS BK163 hb; replace BK164 := aS BK164 hb; replace HB := bS HB hb; clear hb) | ((with_reducible refine gate_dst (N := 72) rfl ?_); (try (refine gate_guard (by rfl) ?_; dsimp only)); refine Kd.R_lit (Kd.int .i64) _ 2 ?hg (N := 72) ?hd (xs := ([0, 0, 0] : List Int)) (inner := [.int .i64 0, .int .i64 0, .int .i64 0]) (ok := fun _ => True) (okp := fun _ => True) ?hr ?hp (fun _ hk => hk) trivial (Below.refl _ _) (Nat.le_refl _) (by simp) ?_; (case hd => rfl); (case hg => rfl); (case hr => first | (go_simp; done) | (go_simp; rfl)); (case hp => exact (Reps.one (show Kd.M (Kd.int .i64) _ _ _ 0 [.int .i64 0] from rfl) (Reps.one (show Kd.M (Kd.int .i64) _ _ _ 0 [.int .i64 0] from rfl) (Reps.one (show Kd.M (Kd.int .i64) _ _ _ 0 [.int .i64 0] from rfl) (Reps.none _ _))))); intro v184 w60 ho61 hb hg_ hnew_; clear hg_ hnew_; (first | rw [← Ny183.out] at ho61 | (simp only [Int.reduceToNat] at ho61; rw [← Ny183.out] at ho61)); have HO185 := Aside0.mk (Kd.R_lower (Kd.R_new' ho61 (Kd.R_lt (kR HO178.out))) (below_size (kB HB.out))); replace HO162 := rS HO162 hb; replace HO167 := rS HO167 hb; replace HO171 := rS HO171 hb; replace HO174 := rS HO174 hb; replace HO178 := Aside0.mk (Kd.R_elder' (kR HO178.out) (Kd.R_base ho61) hb); replace BK163 := aS BK163 hb; replace BK164 := aS BK164 hb; replace HB := bS HB hb; clear hb ho61; obtain ⟨Ao62, co62, eo62⟩ := Kd.R_slice HO178.out; subst eo62; obtain ⟨Ao63, co63, eo63⟩ := Kd.R_slice HO185.out; subst eo63) | (go_at_call 13; (with_reducible refine (modillionref09_Row.calls k _ _ t176 _ _ y183 true _ ?z1 ?z2 ?z3 ?z4 A34.out).mono ?_); (case z1 => exact kD (Kd.R_reads' HO178.out).2.2); (case z2 => exact (Kd.R_reads' HO178.out).2.1); (case z3 => exact kD (Kd.R_reads' HO185.out).2.2); (case z4 => exact (Kd.R_reads' HO185.out).2.1); rintro e w' ⟨rfl, ⟨nd, rfl⟩⟩; (try clear A34); (try clear A34)) | (go_at_call 14; (with_reducible refine (seq_Values.calls k _ _ t165 t187 _ ?z1 ?z2 A38.out).mono ?_); (case z1 => exact kD (Kd.R_reads' HO167.out).2.2); (case z2 => exact (Kd.R_reads' HO167.out).2.1); rintro e w64 ⟨v188, rfl, ho0, hb⟩; have HO189 := Aside0.mk (Kd.R_lower (Kd.R_new' (Kd.R_new' ho0 (Kd.R_lt (kR HO178.out))) (Kd.R_lt (kR HO185.out))) (below_size (kB HB.out))); replace HO162 := rS HO162 hb; replace HO167 := rS HO167 hb; replace HO171 := rS HO171 hb; replace HO174 := rS HO174 hb; replace HO178 := Aside0.mk (Kd.R_elder' (kR HO178.out) (Kd.R_base ho0) hb); replace HO185 := Aside0.mk (Kd.R_elder' (kR HO185.out) (Kd.R_base ho0) hb); replace BK163 := aS BK163 hb; replace BK164 := aS BK164 hb; replace HB := bS HB hb; clear hb ho0) | ((with_reducible refine gate_dst (N := 86) rfl ?_); (try (refine gate_guard (by rfl) ?_; dsimp only)); refine Kd.R_lit (Kd.int .i64) _ 2 ?hg (N := 86) ?hd (xs := ([0, 1, 2] : List Int)) (inner := [.int .i64 0, .int .i64 1, .int .i64 2]) (ok := fun _ => True) (okp := fun _ => True) ?hr ?hp (fun _ hk => hk) trivial (Below.refl _ _) (Nat.le_refl _) (by simp) ?_; (case hd => rfl); (case hg => rfl); (case hr => first | (go_simp; done) | (go_simp; rfl)); (case hp => exact (Reps.one (show Kd.M (Kd.int .i64) _ _ _ 0 [.int .i64 0] from rfl) (Reps.one (show Kd.M (Kd.int .i64) _ _ _ 1 [.int .i64 1] from rfl) (Reps.one (show Kd.M (Kd.int .i64) _ _ _ 2 [.int .i64 2] from rfl) (Reps.none _ _))))); intro v191 w65 ho66 hb hg_ hnew_; clear hg_ hnew_; (first | rw [← Ny190.out] at ho66 | (simp only [Int.reduceToNat] at ho66; rw [← Ny190.out] at ho66)); have HO192 := Aside0.mk (Kd.R_lower (Kd.R_new' (Kd.R_new' (Kd.R_new' ho66 (Kd.R_lt (kR HO178.out))) (Kd.R_lt (kR HO185.out))) (Kd.R_lt (kR HO189.out))) (below_size (kB HB.out))); replace HO162 := rS HO162 hb; replace HO167 := rS HO167 hb; replace HO171 := rS HO171 hb; replace HO174 := rS HO174 hb; replace HO178 := Aside0.mk (Kd.R_elder' (kR HO178.out) (Kd.R_base ho66) hb); replace HO185 := Aside0.mk (Kd.R_elder' (kR HO185.out) (Kd.R_base ho66) hb); replace HO189 := Aside0.mk (Kd.R_elder' (kR HO189.out) (Kd.R_base ho66) hb); replace BK163 := aS BK163 hb; replace BK164 := aS BK164 hb; replace HB := bS HB hb; clear hb ho66; obtain ⟨Ao67, co67, eo67⟩ := Kd.R_slice HO189.out; subst eo67; obtain ⟨Ao68, co68, eo68⟩ := Kd.R_slice HO192.out; subst eo68) | (go_at_call 13; (with_reducible refine (modillionref09_Row.calls k _ _ t187 _ _ y190 t193 _ ?z1 ?z2 ?z3 ?z4 A39.out).mono ?_); (case z1 => exact kD (Kd.R_reads' HO189.out).2.2); (case z2 => exact (Kd.R_reads' HO189.out).2.1); (case z3 => exact kD (Kd.R_reads' HO192.out).2.2); (case z4 => exact (Kd.R_reads' HO192.out).2.1); rintro e w' ⟨rfl, ⟨nd, rfl⟩⟩; (try clear A39); (try clear A39)))
            go_ret
            exact ⟨by first | rfl | (simp [errW_none, errW_some] <;> rfl) | (simp [*, errW_none, errW_some] <;> rfl), by exact kB HB.out⟩
           ·rw [if_neg c37] at H; cases H
          ·rw [if_neg c36] at H; cases H
         ·rw [if_neg c35] at H; cases H
       ·rw [if_neg c11] at H; cases H
      ·rw [if_neg c9] at H; cases H
     ·rw [if_neg c8] at H; cases H
    ·rw [if_neg c7] at H; cases H
   ·rw [if_neg c6] at H; cases H
  ·rw [if_neg c5] at H; cases H
 ·rw [if_neg c4] at H; cases H
end

/-! ### modillionlaw09_Own: function 7 -/
def modillionlaw09_Own.f (a0_0 : Int) (l0_1 : List (S48)) : Option (Int × (List (S48))) := (some (([] : List (S48)) : List (S48))).bind fun y164 => (if y164.length + l0_1.length < 5864062014805 then (some (a0_0, (y164 ++ l0_1))) else (none))
def modillionlaw09_Own.T1 : Bool × List (List Nat × List Nat) := (true, [([], []), ([0], [0]), ([], []), ([], []), ([3], [3]), ([2, 4], [2, 4]), ([1, 5], [1, 5]), ([6, 5, 0, 1, 2, 3, 4, 5, 6], [6])])
def modillionlaw09_Own.B1 : List Nat := [0, 1, 0, 0, 8, 28, 63, 127]
theorem modillionlaw09_Own.tab1 : rtab .any (opsOf Tryz.f7 1) = modillionlaw09_Own.T1 := by kernel_rfl
theorem modillionlaw09_Own.bits1 : waitsOk modillionlaw09_Own.T1.2 modillionlaw09_Own.B1 = true := by kernel_rfl
set_option maxHeartbeats 8000000 in
set_option maxRecDepth 100000 in
theorem modillionlaw09_Own.calls (a0_0 : Int) (A0_1 : Option Addr) (c0_1 : Nat) (l0_1 : List (S48)) (r1 : Int) (r2 : List (S48)) (w : World) (hr0_1 : Kd.C k48 w A0_1 l0_1.length l0_1) (hc0_1 : l0_1.length ≤ c0_1) (h : modillionlaw09_Own.f a0_0 l0_1 = some (r1, r2)) :
  Calls Tryz.prog 7 #[.agg #[.int .i64 a0_0, .slice A0_1 l0_1.length c0_1]] w fun e w' => ∃ v1_ : Value, e = .returned (.agg #[.int .i64 r1, v1_]) ∧ Kd.R k48 48 w' w.heap.size (fun _ => True) v1_ r2 ∧ Below w.heap.size w w' := by
 have hu24 := Tryz.underlying24
 have HR0_1 := Aside0.mk hr0_1
 have HC0_1 := Aside0.mk hc0_1
 clear hr0_1 hc0_1
 have HB := Aside0.mk (Below.refl w.heap.size w)
 have H : ((some (([] : List (S48)) : List (S48))).bind fun y164 => (if y164.length + l0_1.length < 5864062014805 then (some (a0_0, (y164 ++ l0_1))) else (none))) = some (r1, r2) := h
 clear h
 obtain ⟨y164, hy164⟩ : ∃ y_ : List (S48), y_ = (([] : List (S48))) := ⟨_, rfl⟩
 replace H : (if y164.length + l0_1.length < 5864062014805 then (some (a0_0, (y164 ++ l0_1))) else (none)) = some (r1, r2) := by first | (rw [hy164]; with_reducible exact H) | (have H2_ := (Option.bind_some _ _).symm.trans H; rw [hy164]; with_reducible exact H2_) | (have H2_ := (Option.bind_some _ _).symm.trans H; with_reducible exact H2_) | with_reducible exact H | (rw [hy164]; exact H) | exact H
 have Ny164 := Aside0.mk hy164
 clear hy164
 obtain ⟨c2, H⟩ := iteS12 H
 have LMc2 := Aside0.mk c2
 clear c2
 obtain ⟨y167, hy167⟩ : ∃ y_ : List (S48), y_ = (y164 ++ l0_1) := ⟨_, rfl⟩
 replace H : (some (a0_0, y167)) = some (r1, r2) := by first | (rw [hy167]; with_reducible exact H) | (have H2_ := (Option.bind_some _ _).symm.trans H; rw [hy167]; with_reducible exact H2_) | (have H2_ := (Option.bind_some _ _).symm.trans H; with_reducible exact H2_) | with_reducible exact H | (rw [hy167]; exact H) | exact H
 have Ny167 := Aside0.mk hy167
 clear hy167
 simp only [Option.some.injEq, Prod.mk.injEq] at H
 obtain ⟨rfl, rfl⟩ := H
 go_enter Tryz.func7, Tryz.ntmps7
 try go_wp2_with (first | ((with_reducible refine gate_dst (N := 1) rfl ?_); refine bE_ #[.int .i64 a0_0, .slice A0_1 l0_1.length c0_1] 24 ?_; intro gb162 hg w3 hbox hb; have BK162 := Aside0.mk hbox; have GW162 := gS hg HB; have GE162 := gS hg HB; replace HB := bS HB hb; clear hb hbox hg) | ((with_reducible refine gate_dst (N := 2) rfl ?_); refine bE_ #[.int .i64 0, .slice none 0 0] 24 ?_; intro gb163 hg w4 hbox hb; have BK163 := Aside0.mk hbox; have GW163 := gS hg HB; have GE163 := gS hg HB; have NB162_163 := nL hg BK162; have NB163_162 := nG hg BK162; replace BK162 := aS BK162 hb; replace HB := bS HB hb; clear hb hbox hg))
 replace BK162 := Aside0.mk (blk_drew BK162.out)
 replace BK163 := Aside0.mk (blk_drew BK163.out)
 replace HB := Aside0.mk (below_drew1 HB.out)
 refine start_ (n := 8) (S := fun w' => w'.cell? ⟨gb162, 0, none⟩ = some (.int .i64 a0_0) ∧ w'.cell? ⟨gb162, 1, none⟩ = some (.slice A0_1 l0_1.length c0_1)) (ds := []) #[false, false, false, false, false, false, false, false] (by kernel_rfl) rfl rfl ⟨(blk_cell BK162.out 0).trans rfl, (blk_cell BK162.out 1).trans rfl⟩ (fun hHeld => ?_); refine with_tabW modillionlaw09_Own.tab1 modillionlaw09_Own.bits1 (fun HT_ HW_ => ?_)
 generalize w4.drew = w5 at BK162 BK163 HB hHeld ⊢
 refine pure_ (i := 0) (N := some 3) (v := ?_) (a' := ?_) #[true, false, false, false, false, false, false, false] rfl rfl (any_of HT_.out (by kernel_rfl)) (fun _ _ _ h => h) (Or.inl ⟨by rfl, ?_⟩) ?_ ?_
 rotate_left
 ·intro w'
  go_simp
  with_reducible rfl
 rotate_left
 ·simp only [Act.put, List.setIfInBounds_toArray, List.set_cons_zero, List.set_cons_succ, i64_w, i32_w]
  rfl
 refine pure_ (i := 3) (N := some 6) (v := ?_) (a' := ?_) #[true, false, false, true, false, false, false, false] rfl rfl (any_of HT_.out (by kernel_rfl)) (fun _ _ _ h => h) (Or.inl ⟨by rfl, ?_⟩) ?_ ?_
 rotate_left
 ·intro w'
  go_simp
  with_reducible rfl
 rotate_left
 ·simp only [Act.put, List.setIfInBounds_toArray, List.set_cons_zero, List.set_cons_succ, i64_w, i32_w]
  rfl
 refine take_ (i := 1) (N := some 4) (v := ?_) (a' := ?_) #[true, true, false, true, false, false, false, false] rfl rfl (take_ofW HT_.out HW_.out (by kernel_rfl)) (fun _ _ _ h => h) (Or.inl ⟨by rfl, ?_⟩) hHeld ?_ ?_
 rotate_left
 ·rintro w' ⟨s0, s1⟩
  go_simp
  with_reducible rfl
 rotate_left
 ·simp only [Act.put, List.setIfInBounds_toArray, List.set_cons_zero, List.set_cons_succ, i64_w, i32_w]
  rfl
 refine take_ (i := 4) (N := some 7) (v := ?_) (a' := ?_) #[true, true, false, true, true, false, false, false] rfl rfl (take_ofW HT_.out HW_.out (by kernel_rfl)) (fun _ _ _ h => h) (Or.inl ⟨by rfl, ?_⟩) hHeld ?_ ?_
 rotate_left
 ·rintro w' ⟨s0, s1⟩
  go_simp
  with_reducible rfl
 rotate_left
 ·simp only [Act.put, List.setIfInBounds_toArray, List.set_cons_zero, List.set_cons_succ, i64_w, i32_w]
  rfl
 refine one_ (i := 2) (N := some 5) #[true, true, true, true, true, false, false, false] rfl rfl (one_of HT_.out (by kernel_rfl)) (by decide) (fun K hK => ?_)
 refine Kd.R_lit_step k48 _ 48 ?hg (N := 5) ?hd (xs := ([] : List (S48))) (inner := []) (ok := fun _ => True) (okp := fun _ => True) ?hr ?hp (fun _ hk => hk) trivial (Below.refl _ _) (Nat.le_refl _) (by simp) ?_; (case hd => rfl); (case hg => rfl); (case hr => first | (go_simp; done) | (go_simp; rfl)); (case hp => exact (Reps.none _ _))
 intro v165 w6 ho7 hb hg_ hnew_
 clear hg_ hnew_
 (first | rw [← Ny164.out] at ho7 | (simp only [Int.reduceToNat] at ho7; rw [← Ny164.out] at ho7))
 have HO166 := lS ho7 HB
 replace BK162 := aS BK162 hb
 replace BK163 := aS BK163 hb
 replace HB := bS HB hb
 clear hb ho7
 refine hK.out _ _ ⟨(blk_cell BK162.out 0).trans rfl, (blk_cell BK162.out 1).trans rfl⟩ (fun hHeld => ?_)
 clear hK K
 refine norm_ (a' := ?_) ?_ ?_
 rotate_left
 ·show Act.put _ (some 5) _ = _
  simp only [Act.put, List.setIfInBounds_toArray, List.set_cons_zero, List.set_cons_succ, i64_w, i32_w]
  rfl
 refine one_ (i := 5) (N := some 8) #[true, true, true, true, true, true, false, false] rfl rfl (one_of HT_.out (by kernel_rfl)) (by decide) (fun K hK => ?_)
 refine Kd.R_append_rows_step k48 (w0 := w) w.heap.size (by rfl) (.tmp 5) (.tmp 7) 22 48 (.agg #[(.int .i64 0), (.int .i64 0), (.int .i64 0)]) 24 rfl Tryz.underlying22 info48 rfl (by decide) (by omega) v165 y164 l0_1 _ _ _ (fun _ => True) (fun _ => False) rfl rfl ?aO ?aR (fun _ _ h => h) (fun _ h => h.elim) ?aF ?aB ?aS ?aL ?_
 (case aR => exact kC HR0_1.out HB.out)
 (case aB => exact (kB HB.out))
 (case aF => exact (fun _ _ => trivial))
 (case aO => exact (kR HO166.out))
 (case aS => exact (below_size (kB HB.out)))
 (case aL => have := LMc2.out; omega)
 intro v168 w8 ho hb hg hat
 rw [← Ny167.out] at ho
 have n0_ := Aside0.mk (blk_grown (g := gb162) (o := .cells #[.int .i64 a0_0, .slice A0_1 l0_1.length c0_1] 24 (0, 0)) (kA BK162.out) hg (Kd.R_ne HO166.out BK162.out (by decide)))
 have n1_ := Aside0.mk (blk_grown (g := gb163) (o := .cells #[.int .i64 0, .slice none 0 0] 24 (0, 0)) (kA BK163.out) hg (Kd.R_ne HO166.out BK163.out (by decide)))
 have n2_ := Aside0.mk (hb)
 have n3_ := Aside0.mk (ho)
 clear BK162
 clear BK163
 clear HB
 clear HO166
 have BK162 := n0_
 have BK163 := n1_
 have HB := n2_
 have HO169 := n3_
 clear n0_ n1_ n2_ n3_
 clear ho hb hg hat
 obtain ⟨Ao9, co9, eo9⟩ := Kd.R_slice HO169.out
 (first | subst eo9 | (injection eo9 with f1_ f2_ f3_; have f4_ := f1_.symm; have f5_ := f3_.symm; clear f1_ f2_ f3_; subst f4_; subst f5_))
 refine hK.out _ _ ⟨(blk_cell BK162.out 0).trans rfl, (blk_cell BK162.out 1).trans rfl⟩ (fun hHeld => ?_)
 clear hK K
 refine norm_ (a' := ?_) ?_ ?_
 rotate_left
 ·show Act.put _ (some 8) _ = _
  simp only [Act.put, List.setIfInBounds_toArray, List.set_cons_zero, List.set_cons_succ, i64_w, i32_w]
  rfl
 refine pure_ (i := 6) (N := some 9) (v := ?_) (a' := ?_) #[true, true, true, true, true, true, true, false] rfl rfl (any_of HT_.out (by kernel_rfl)) (fun _ _ _ h => h) (Or.inl ⟨by rfl, ?_⟩) ?_ ?_
 rotate_left
 ·intro w'
  go_simp
  with_reducible rfl
 rotate_left
 ·simp only [Act.put, List.setIfInBounds_toArray, List.set_cons_zero, List.set_cons_succ, i64_w, i32_w]
  rfl
 refine one_ (i := 7) (N := none) #[true, true, true, true, true, true, true, true] rfl rfl (one_of HT_.out (by kernel_rfl)) (by decide) (fun K hK => ?_)
 have hs10 : w8.cell? ⟨gb163, 0, none⟩ = some (.int .i64 0) := (blk_cell BK163.out 0).trans rfl
 have hfs10 := blk_frozen BK163.out 0
 have hns10_0 := NB162_163.out
 have hms10_0 := NB163_162.out
 have hs11 : w8.cell? ⟨gb163, 1, none⟩ = some (.slice none 0 0) := (blk_cell BK163.out 1).trans rfl
 have hfs11 := blk_frozen BK163.out 1
 have hns11_0 := NB162_163.out
 have hms11_0 := NB163_162.out
 refine skip_ (w1 := ?_) (by rfl) rfl ?_ ?_
 rotate_left
 ·go_simp
  rfl
 refine hK.out _ _ ⟨((cell_far (p := ⟨gb163, _, none⟩) NB162_163.out _).trans (((cell_far (p := ⟨gb163, _, none⟩) NB162_163.out _).trans (hHeld.1)))), ((cell_far (p := ⟨gb163, _, none⟩) NB162_163.out _).trans (((cell_far (p := ⟨gb163, _, none⟩) NB162_163.out _).trans (hHeld.2))))⟩ (fun hHeld => ?_)
 clear hK K
 refine done_ (done_of HT_.out (by kernel_rfl)) ?_
 try go_wp2
 refine bodyPost_ret (results_cell_row rfl _ _ gb163 24 #[.int .i64 a0_0, .slice Ao9 y167.length co9] (0, 0) _ rfl (by (with_reducible repeat (first | refine blk_drewN ?_ _ | refine blk_drew ?_ | refine blk_alloc ?_ _)); refine blk_put (cs := #[.int .i64 a0_0, .slice none 0 0]) ?_ 1 _ rfl; refine blk_put (cs := #[.int .i64 0, .slice none 0 0]) ?_ 0 _ rfl; exact kA BK163.out) Tryz.underlying24 rfl (by kernel_rfl)) rfl ?_
 exact ⟨_, by first | rfl | (simp [errW_none, errW_some] <;> rfl) | (simp [*, errW_none, errW_some] <;> rfl), by (with_reducible repeat (first | apply Kd.R_alloc | apply Kd.R_drewN | apply Kd.R_drew)); exact Kd.R_mono (Kd.R_far (p := ⟨gb163, 1, none⟩) (Kd.R_far (p := ⟨gb163, 0, none⟩) (Kd.R_types HO169.out BK163.out (by decide)) (fun _ hk => hk.2) (.int .i64 a0_0)) (fun _ hk => hk.2) (.slice Ao9 y167.length co9)) (fun _ hk => trivial), by exact kB HB.out⟩

end Go.Proofs.YtpndhkeoljoapaaGreat.P
