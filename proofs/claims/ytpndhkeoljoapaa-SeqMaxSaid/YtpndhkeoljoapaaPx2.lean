/- What these Go functions compute, as Lean functions, and that they do. No condition. -/
import Derived.Test.YtpndhkeoljoapaaPx0
import Derived.Test.YtpndhkeoljoapaaPx1
namespace Go.Proofs.Ytpndhkeoljoapaa.P
open Go.RowKit Go.Proofs.YtpndhkeoljoapaaW.PrintWords Go.Proofs.YtpndhkeoljoapaaW.PrintLast Go.Proofs.YtpndhkeoljoapaaW.PrintMore
attribute [local go_sem] max2_int min2_int max_two min_two max_three min_three max_four min_four   -- for this text's walks alone
set_option linter.unusedVariables false
set_option linter.unusedSimpArgs false
set_option linter.unnecessarySimpa false
theorem iteS2 {α : Type} {c : Prop} [Decidable c] {a : Option α} {r : α} (h : (if c then a else none) = some r) : c ∧ a = some r := by
 by_cases hc : c
 ·rw [if_pos hc] at h; exact ⟨hc, h⟩
 ·rw [if_neg hc] at h; cases h

/-! ### slices_Contains_string_string: function 48 -/
def slices_Contains_string_string.f (k : Nat) (l0 : List ByteArray) (a1 : ByteArray) : Option (Bool) := (slices_Index_string_string.f k l0 a1).bind fun t102 => (some (decide (t102 ≥ 0)))
theorem slices_Contains_string_string.mono : ∀ a0 a1 k, LeO (slices_Contains_string_string.f k a0 a1) (slices_Contains_string_string.f (k + 1) a0 a1) := by
 intro a0 a1 k
 unfold slices_Contains_string_string.f
 repeat' first
   | (with_reducible exact slices_Index_string_string.mono _ _ _)
   | (with_reducible exact LeO.refl _)
   | (with_reducible exact LeO.none _)
   | (with_reducible refine LeO.ite ?_ ?_)
   | (with_reducible refine LeO.bind ?_ (fun _ => ?_))
   | exact slices_Index_string_string.mono _ _ _
   | exact LeO.none _
   | refine LeO.ite ?_ ?_
   | refine LeO.bind ?_ (fun _ => ?_)
set_option maxHeartbeats 8000000 in
set_option maxRecDepth 100000 in
theorem slices_Contains_string_string.calls (k : Nat) (A0 : Option Addr) (c0 : Nat) (l0 : List ByteArray) (a1 : ByteArray) (r : Bool) (w : World) (hr0 : Kd.C Kd.string w A0 l0.length l0) (hc0 : l0.length ≤ c0) (h : slices_Contains_string_string.f k l0 a1 = some r) :
  Calls Try.prog 48 #[.slice A0 l0.length c0, .string a1] w fun e w' => e = .returned (.bool r) ∧ Drawn0 w w' := by
 have HR0 := Aside0.mk hr0
 have HC0 := Aside0.mk hc0
 clear hr0 hc0
 have H : ((slices_Index_string_string.f k l0 a1).bind fun t102 => (some (decide (t102 ≥ 0)))) = some r := h
 clear h
 replace H := Option.bind_eq_some_iff.mp H
 obtain ⟨t102, A30, H⟩ := H
 replace H : (some (decide (t102 ≥ 0))) = some r := H
 have A3 := Aside0.mk A30
 clear A30
 obtain rfl := Option.some.inj H
 go_enter Try.func48, Try.ntmps48
 go_wp2_with (first | ((with_reducible refine gate_callee (f := 64) rfl ?_); refine goesL_ (some 7) rfl rfl Try.func64 (by kernel_rfl) rfl #[.slice A0 l0.length c0, .string a1] rfl (by (try simp only [List.map_toArray, List.map_cons, List.map_nil]); first | done | rfl | (simp only [List.length_drop, List.length_take]; rfl)) ?_; (with_reducible refine (slices_Index_string_string.calls k _ _ l0 a1 t102 _ ?side1 ?side2 A3.out).mono ?_); (case side1 => repeat (first | exact HR0.out | (with_reducible refine Kd.C_alloc ?_ _) | (with_reducible refine Kd.C_drewN ?_ _) | (with_reducible refine Kd.C_drew ?_))); (case side2 => exact HC0.out); rintro e w' ⟨rfl, ⟨nd, rfl⟩⟩; refine ⟨_, rfl, ?_⟩))
 go_ret
 exact ⟨by first | rfl | (simp; done) | (simp [*]; done), by repeat (first | exact Drawn0.refl _ | apply Drawn0.step)⟩

/-! ### prog_Known: function 32 -/
def prog_Known.f (k : Nat) (a0 : ByteArray) : Option (Bool) := (slices_Contains_string_string.f k (([(⟨#[109, 97, 120]⟩ : ByteArray), (⟨#[108, 97, 98, 101, 108]⟩ : ByteArray), (⟨#[115, 115, 115, 112]⟩ : ByteArray), (⟨#[98, 102, 115]⟩ : ByteArray), (⟨#[100, 101, 103, 114, 101, 101]⟩ : ByteArray), (⟨#[114, 97, 110, 107]⟩ : ByteArray), (⟨#[119, 97, 108, 107, 115]⟩ : ByteArray)] : List ByteArray)) a0).bind fun t106 => (some t106)
theorem prog_Known.mono : ∀ a0 k, LeO (prog_Known.f k a0) (prog_Known.f (k + 1) a0) := by
 intro a0 k
 unfold prog_Known.f
 repeat' first
   | (with_reducible exact slices_Contains_string_string.mono _ _ _)
   | (with_reducible exact LeO.refl _)
   | (with_reducible exact LeO.none _)
   | (with_reducible refine LeO.ite ?_ ?_)
   | (with_reducible refine LeO.bind ?_ (fun _ => ?_))
   | exact slices_Contains_string_string.mono _ _ _
   | exact LeO.none _
   | refine LeO.ite ?_ ?_
   | refine LeO.bind ?_ (fun _ => ?_)
set_option maxHeartbeats 8000000 in
set_option maxRecDepth 100000 in
theorem prog_Known.calls (k : Nat) (a0 : ByteArray) (r : Bool) (w : World) (h : prog_Known.f k a0 = some r) :
  Calls Try.prog 32 #[.string a0] w fun e w' => e = .returned (.bool r) ∧ Below w.heap.size w w' := by
 have HB := Aside0.mk (Below.refl w.heap.size w)
 have H : ((slices_Contains_string_string.f k (([(⟨#[109, 97, 120]⟩ : ByteArray), (⟨#[108, 97, 98, 101, 108]⟩ : ByteArray), (⟨#[115, 115, 115, 112]⟩ : ByteArray), (⟨#[98, 102, 115]⟩ : ByteArray), (⟨#[100, 101, 103, 114, 101, 101]⟩ : ByteArray), (⟨#[114, 97, 110, 107]⟩ : ByteArray), (⟨#[119, 97, 108, 107, 115]⟩ : ByteArray)] : List ByteArray)) a0).bind fun t106 => (some t106)) = some r := h
 clear h
 obtain ⟨y103, hy103⟩ : ∃ y_ : List ByteArray, y_ = (([(⟨#[109, 97, 120]⟩ : ByteArray), (⟨#[108, 97, 98, 101, 108]⟩ : ByteArray), (⟨#[115, 115, 115, 112]⟩ : ByteArray), (⟨#[98, 102, 115]⟩ : ByteArray), (⟨#[100, 101, 103, 114, 101, 101]⟩ : ByteArray), (⟨#[114, 97, 110, 107]⟩ : ByteArray), (⟨#[119, 97, 108, 107, 115]⟩ : ByteArray)] : List ByteArray)) := ⟨_, rfl⟩
 replace H : ((slices_Contains_string_string.f k y103 a0).bind fun t106 => (some t106)) = some r := by first | (rw [hy103]; with_reducible exact H) | (have H2_ := (Option.bind_some _ _).symm.trans H; rw [hy103]; with_reducible exact H2_) | (have H2_ := (Option.bind_some _ _).symm.trans H; with_reducible exact H2_) | with_reducible exact H | (rw [hy103]; exact H) | exact H
 have Ny103 := Aside0.mk hy103
 clear hy103
 replace H := Option.bind_eq_some_iff.mp H
 obtain ⟨t106, A20, H⟩ := H
 replace H : (some t106) = some r := H
 have A2 := Aside0.mk A20
 clear A20
 obtain rfl := Option.some.inj H
 go_enter Try.func32, Try.ntmps32
 go_wp2_with (first | ((with_reducible refine gate_dst (N := 3) rfl ?_); refine Kd.R_lit Kd.string _ 9 ?hg (N := 3) ?hd (xs := ([(⟨#[109, 97, 120]⟩ : ByteArray), (⟨#[108, 97, 98, 101, 108]⟩ : ByteArray), (⟨#[115, 115, 115, 112]⟩ : ByteArray), (⟨#[98, 102, 115]⟩ : ByteArray), (⟨#[100, 101, 103, 114, 101, 101]⟩ : ByteArray), (⟨#[114, 97, 110, 107]⟩ : ByteArray), (⟨#[119, 97, 108, 107, 115]⟩ : ByteArray)] : List ByteArray)) (inner := [.string (⟨#[109, 97, 120]⟩ : ByteArray), .string (⟨#[108, 97, 98, 101, 108]⟩ : ByteArray), .string (⟨#[115, 115, 115, 112]⟩ : ByteArray), .string (⟨#[98, 102, 115]⟩ : ByteArray), .string (⟨#[100, 101, 103, 114, 101, 101]⟩ : ByteArray), .string (⟨#[114, 97, 110, 107]⟩ : ByteArray), .string (⟨#[119, 97, 108, 107, 115]⟩ : ByteArray)]) (ok := fun _ => True) (okp := fun _ => True) ?hr ?hp (fun _ hk => hk) trivial (Below.refl _ _) (Nat.le_refl _) (by simp) ?_; (case hd => rfl); (case hg => rfl); (case hr => first | (go_simp; done) | (go_simp; rfl)); (case hp => exact (Reps.one (show Kd.M Kd.string _ _ _ (⟨#[109, 97, 120]⟩ : ByteArray) [.string (⟨#[109, 97, 120]⟩ : ByteArray)] from rfl) (Reps.one (show Kd.M Kd.string _ _ _ (⟨#[108, 97, 98, 101, 108]⟩ : ByteArray) [.string (⟨#[108, 97, 98, 101, 108]⟩ : ByteArray)] from rfl) (Reps.one (show Kd.M Kd.string _ _ _ (⟨#[115, 115, 115, 112]⟩ : ByteArray) [.string (⟨#[115, 115, 115, 112]⟩ : ByteArray)] from rfl) (Reps.one (show Kd.M Kd.string _ _ _ (⟨#[98, 102, 115]⟩ : ByteArray) [.string (⟨#[98, 102, 115]⟩ : ByteArray)] from rfl) (Reps.one (show Kd.M Kd.string _ _ _ (⟨#[100, 101, 103, 114, 101, 101]⟩ : ByteArray) [.string (⟨#[100, 101, 103, 114, 101, 101]⟩ : ByteArray)] from rfl) (Reps.one (show Kd.M Kd.string _ _ _ (⟨#[114, 97, 110, 107]⟩ : ByteArray) [.string (⟨#[114, 97, 110, 107]⟩ : ByteArray)] from rfl) (Reps.one (show Kd.M Kd.string _ _ _ (⟨#[119, 97, 108, 107, 115]⟩ : ByteArray) [.string (⟨#[119, 97, 108, 107, 115]⟩ : ByteArray)] from rfl) (Reps.none _ _))))))))); intro v104 w3 ho4 hb hg_ hnew_; clear hg_ hnew_; (first | rw [← Ny103.out] at ho4 | (simp only [Int.reduceToNat] at ho4; rw [← Ny103.out] at ho4)); have n0_ := Aside0.mk (Kd.R_lower ho4 (below_size (kB HB.out))); have n1_ := Aside0.mk (below_step (kB HB.out) hb); clear HB; have HO105 := n0_; have HB := n1_; clear n0_ n1_; clear hb ho4; obtain ⟨Ao5, co5, eo5⟩ := Kd.R_slice HO105.out; subst eo5) | ((with_reducible refine gate_callee (f := 48) rfl ?_); refine goesL_ (some 5) rfl rfl Try.func48 (by kernel_rfl) rfl #[.slice Ao5 y103.length co5, .string a0] rfl (by (try simp only [List.map_toArray, List.map_cons, List.map_nil]); first | done | rfl | (simp only [List.length_drop, List.length_take]; rfl)) ?_; (with_reducible refine (slices_Contains_string_string.calls k _ _ y103 a0 t106 _ ?side1 ?side2 A2.out).mono ?_); (case side1 => repeat (first | exact (Kd.R_reads' HO105.out).2.2 | (with_reducible refine Kd.C_alloc ?_ _) | (with_reducible refine Kd.C_drewN ?_ _) | (with_reducible refine Kd.C_drew ?_))); (case side2 => exact (Kd.R_reads' HO105.out).2.1); rintro e w' ⟨rfl, ⟨nd, rfl⟩⟩; refine ⟨_, rfl, ?_⟩))
 go_ret
 exact ⟨by first | rfl | (simp [errW_none, errW_some] <;> rfl) | (simp [*, errW_none, errW_some] <;> rfl), by exact kB HB.out⟩

/-! ### prog_Check: function 19 -/
def prog_Check.f (k : Nat) (a0_0 : Int) (l0_1 : List (S45)) (a1_0 : ByteArray) (a1_1 : Int) (a1_2 : Int) : Option (Int) := (graph_Check.f a0_0 l0_1).bind fun t109 => (if t109 = 0 then ((prog_Known.f k a1_0).bind fun t110 => (if t110 = true then (if a1_1 < 0 then (some 70) else (if a1_1 ≥ a0_0 then (some 70) else (if a1_2 < 1 then (some 70) else (if a1_2 > 64 then (some 70) else (some 0))))) else (some 70))) else (some 70))
theorem prog_Check.mono : ∀ a0 a1 a2 a3 a4 k, LeO (prog_Check.f k a0 a1 a2 a3 a4) (prog_Check.f (k + 1) a0 a1 a2 a3 a4) := by
 intro a0 a1 a2 a3 a4 k
 unfold prog_Check.f
 repeat' first
   | (with_reducible exact prog_Known.mono _ _)
   | (with_reducible exact LeO.refl _)
   | (with_reducible exact LeO.none _)
   | (with_reducible refine LeO.ite ?_ ?_)
   | (with_reducible refine LeO.bind ?_ (fun _ => ?_))
   | exact prog_Known.mono _ _
   | exact LeO.none _
   | refine LeO.ite ?_ ?_
   | refine LeO.bind ?_ (fun _ => ?_)
set_option maxHeartbeats 8000000 in
set_option maxRecDepth 100000 in
theorem prog_Check.calls (k : Nat) (a0_0 : Int) (A0_1 : Option Addr) (c0_1 : Nat) (l0_1 : List (S45)) (a1_0 : ByteArray) (a1_1 : Int) (a1_2 : Int) (r : Int) (w : World) (hr0_1 : Kd.C k45 w A0_1 l0_1.length l0_1) (hc0_1 : l0_1.length ≤ c0_1) (h : prog_Check.f k a0_0 l0_1 a1_0 a1_1 a1_2 = some r) :
  Calls Try.prog 19 #[.agg #[.int .i64 a0_0, .slice A0_1 l0_1.length c0_1], .agg #[.string a1_0, .int .i64 a1_1, .int .i64 a1_2]] w fun e w' => e = .returned (.int .i64 r) ∧ Below w.heap.size w w' := by
 have hu24 := Try.underlying24
 have hu26 := Try.underlying26
 have HR0_1 := Aside0.mk hr0_1
 have HC0_1 := Aside0.mk hc0_1
 clear hr0_1 hc0_1
 have HB := Aside0.mk (Below.refl w.heap.size w)
 have H : ((graph_Check.f a0_0 l0_1).bind fun t109 => (if t109 = 0 then ((prog_Known.f k a1_0).bind fun t110 => (if t110 = true then (if a1_1 < 0 then (some 70) else (if a1_1 ≥ a0_0 then (some 70) else (if a1_2 < 1 then (some 70) else (if a1_2 > 64 then (some 70) else (some 0))))) else (some 70))) else (some 70))) = some r := h
 clear h
 replace H := Option.bind_eq_some_iff.mp H
 obtain ⟨t109, A30, H⟩ := H
 replace H : (if t109 = 0 then ((prog_Known.f k a1_0).bind fun t110 => (if t110 = true then (if a1_1 < 0 then (some 70) else (if a1_1 ≥ a0_0 then (some 70) else (if a1_2 < 1 then (some 70) else (if a1_2 > 64 then (some 70) else (some 0))))) else (some 70))) else (some 70)) = some r := H
 have A3 := Aside0.mk A30
 clear A30
 by_cases c4 : t109 = 0
 ·rw [if_pos c4] at H
  have c4b0 : (t109 == 0) = true := beq_iff_eq.mpr c4
  have c4b1 : (t109 != 0) = false := bne_eq_false_iff_eq.mpr c4
  clear c4
  replace H := Option.bind_eq_some_iff.mp H
  obtain ⟨t110, A50, H⟩ := H
  replace H : (if t110 = true then (if a1_1 < 0 then (some 70) else (if a1_1 ≥ a0_0 then (some 70) else (if a1_2 < 1 then (some 70) else (if a1_2 > 64 then (some 70) else (some 0))))) else (some 70)) = some r := H
  have A5 := Aside0.mk A50
  clear A50
  by_cases c6 : t110 = true
  ·subst c6
   have H1 : (if a1_1 < 0 then (some 70) else (if a1_1 ≥ a0_0 then (some 70) else (if a1_2 < 1 then (some 70) else (if a1_2 > 64 then (some 70) else (some 0))))) = some r := by rw [if_pos rfl] at H; exact H
   clear H
   have H := H1
   clear H1
   by_cases c7 : a1_1 < 0
   ·rw [if_pos c7] at H
    have c7b0 := decide_eq_true c7
    clear c7
    obtain rfl := Option.some.inj H
    go_enter Try.func19, Try.ntmps19
    go_wp2_with (first | ((with_reducible refine gate_dst (N := 2) rfl ?_); refine box_event ?hg (N := 2) ?hd (cs := #[.int .i64 a0_0, .slice A0_1 l0_1.length c0_1]) (t := 24) ?hr ?_; (case hd => rfl); (case hg => rfl); (case hr => first | (go_simp; done) | (go_simp; rfl)); intro gb107 hg w8 hbox hb; have n0_ := Aside0.mk (below_step (kB HB.out) hb); have n1_ := Aside0.mk (hbox); have n2_ := Aside0.mk ((by rw [hg]; exact (below_size (kB HB.out)) : w.heap.size ≤ gb107)); have n3_ := Aside0.mk ((by rw [hg]; exact (below_size (kB HB.out)) : w.heap.size ≤ gb107)); clear HB; have HB := n0_; have BK107 := n1_; have GW107 := n2_; have GE107 := n3_; clear n0_ n1_ n2_ n3_; clear hb hbox hg) | ((with_reducible refine gate_dst (N := 3) rfl ?_); refine box_event ?hg (N := 3) ?hd (cs := #[.string a1_0, .int .i64 a1_1, .int .i64 a1_2]) (t := 26) ?hr ?_; (case hd => rfl); (case hg => rfl); (case hr => first | (go_simp; done) | (go_simp; rfl)); intro gb108 hg w9 hbox hb; have n0_ := Aside0.mk (blk_below (g := gb107) (o := .cells #[.int .i64 a0_0, .slice A0_1 l0_1.length c0_1] 24 (0, 0)) (kA BK107.out) hb); have n1_ := Aside0.mk (below_step (kB HB.out) hb); have n2_ := Aside0.mk (hbox); have n3_ := Aside0.mk ((by rw [hg]; exact (below_size (kB HB.out)) : w.heap.size ≤ gb108)); have n4_ := Aside0.mk ((by rw [hg]; exact (below_size (kB HB.out)) : w.heap.size ≤ gb108)); have n5_ := Aside0.mk ((by rw [hg]; exact Nat.ne_of_lt (blk_lt (g := gb107) (o := .cells #[.int .i64 a0_0, .slice A0_1 l0_1.length c0_1] 24 (0, 0)) (kA BK107.out)) : gb107 ≠ gb108)); have n6_ := Aside0.mk ((by rw [hg]; exact Nat.ne_of_gt (blk_lt (g := gb107) (o := .cells #[.int .i64 a0_0, .slice A0_1 l0_1.length c0_1] 24 (0, 0)) (kA BK107.out)) : gb108 ≠ gb107)); clear BK107; clear HB; have BK107 := n0_; have HB := n1_; have BK108 := n2_; have GW108 := n3_; have GE108 := n4_; have NB107_108 := n5_; have NB108_107 := n6_; clear n0_ n1_ n2_ n3_ n4_ n5_ n6_; clear hb hbox hg; have hnb10 := NB107_108.out; have hnc10 := NB108_107.out; have hcz11_0 : w9.cell? ⟨gb107, 0, none⟩ = some (.int .i64 a0_0) := (blk_cell BK107.out 0).trans rfl; have hcz11_1 : w9.cell? ⟨gb107, 1, none⟩ = some (.slice A0_1 l0_1.length c0_1) := (blk_cell BK107.out 1).trans rfl; have hfz11_0 := blk_frozen BK107.out 0; have hfz11_1 := blk_frozen BK107.out 1) | ((with_reducible refine gate_callee (f := 31) rfl ?_); refine goesL_ (some 6) rfl rfl Try.func31 (by kernel_rfl) rfl #[.agg #[.int .i64 a0_0, .slice A0_1 l0_1.length c0_1]] rfl (by (try simp only [List.map_toArray, List.map_cons, List.map_nil]); first | done | rfl | (simp only [List.length_drop, List.length_take]; rfl)) ?_; (with_reducible refine (graph_Check.calls a0_0 _ _ l0_1 t109 _ ?side1 ?side2 A3.out).mono ?_); (case side1 => repeat (first | exact (Kd.C_below HR0_1.out HB.out) | (with_reducible refine Kd.C_alloc ?_ _) | (with_reducible refine Kd.C_drewN ?_ _) | (with_reducible refine Kd.C_drew ?_))); (case side2 => exact HC0_1.out); rintro e w12 ⟨rfl, hb⟩; refine ⟨_, rfl, ?_⟩; have n0_ := Aside0.mk (blk_below (g := gb107) (o := .cells #[.int .i64 a0_0, .slice A0_1 l0_1.length c0_1] 24 (0, 0)) (kA BK107.out) hb); have n1_ := Aside0.mk (blk_below (g := gb108) (o := .cells #[.string a1_0, .int .i64 a1_1, .int .i64 a1_2] 26 (0, 0)) (kA BK108.out) hb); have n2_ := Aside0.mk (below_step (kB HB.out) hb); clear BK107; clear BK108; clear HB; have BK107 := n0_; have BK108 := n1_; have HB := n2_; clear n0_ n1_ n2_; (try clear hb); (try clear hb2); (try clear hk); (try clear hi); have hcz13_0 : w12.cell? ⟨gb108, 0, none⟩ = some (.string a1_0) := (blk_cell BK108.out 0).trans rfl; have hcz13_1 : w12.cell? ⟨gb108, 1, none⟩ = some (.int .i64 a1_1) := (blk_cell BK108.out 1).trans rfl; have hcz13_2 : w12.cell? ⟨gb108, 2, none⟩ = some (.int .i64 a1_2) := (blk_cell BK108.out 2).trans rfl; have hfz13_0 := blk_frozen BK108.out 0; have hfz13_1 := blk_frozen BK108.out 1; have hfz13_2 := blk_frozen BK108.out 2) | (go_at_call 32; (with_reducible refine (prog_Known.calls k a1_0 true _ A5.out).mono ?_); rintro e w14 ⟨rfl, hb⟩; have n0_ := Aside0.mk (blk_below (g := gb107) (o := .cells #[.int .i64 a0_0, .slice A0_1 l0_1.length c0_1] 24 (0, 0)) (kA BK107.out) hb); have n1_ := Aside0.mk (blk_below (g := gb108) (o := .cells #[.string a1_0, .int .i64 a1_1, .int .i64 a1_2] 26 (0, 0)) (kA BK108.out) hb); have n2_ := Aside0.mk (below_step (kB HB.out) hb); clear BK107; clear BK108; clear HB; have BK107 := n0_; have BK108 := n1_; have HB := n2_; clear n0_ n1_ n2_; (try clear hb); (try clear hb2); (try clear hk); (try clear hi); have hcz15_0 : w14.cell? ⟨gb108, 0, none⟩ = some (.string a1_0) := (blk_cell BK108.out 0).trans rfl; have hcz15_1 : w14.cell? ⟨gb108, 1, none⟩ = some (.int .i64 a1_1) := (blk_cell BK108.out 1).trans rfl; have hcz15_2 : w14.cell? ⟨gb108, 2, none⟩ = some (.int .i64 a1_2) := (blk_cell BK108.out 2).trans rfl; have hfz15_0 := blk_frozen BK108.out 0; have hfz15_1 := blk_frozen BK108.out 1; have hfz15_2 := blk_frozen BK108.out 2))
    go_ret
    exact ⟨by first | rfl | (simp [errW_none, errW_some] <;> rfl) | (simp [*, errW_none, errW_some] <;> rfl), by exact kB HB.out⟩
   ·rw [if_neg c7] at H
    have c7b0 := decide_eq_false c7
    clear c7
    by_cases c16 : a1_1 ≥ a0_0
    ·rw [if_pos c16] at H
     have c16b0 : decide (a0_0 ≤ a1_1) = true := decide_eq_true c16
     clear c16
     obtain rfl := Option.some.inj H
     go_enter Try.func19, Try.ntmps19
     go_wp2_with (first | ((with_reducible refine gate_dst (N := 2) rfl ?_); refine box_event ?hg (N := 2) ?hd (cs := #[.int .i64 a0_0, .slice A0_1 l0_1.length c0_1]) (t := 24) ?hr ?_; (case hd => rfl); (case hg => rfl); (case hr => first | (go_simp; done) | (go_simp; rfl)); intro gb107 hg w17 hbox hb; have n0_ := Aside0.mk (below_step (kB HB.out) hb); have n1_ := Aside0.mk (hbox); have n2_ := Aside0.mk ((by rw [hg]; exact (below_size (kB HB.out)) : w.heap.size ≤ gb107)); have n3_ := Aside0.mk ((by rw [hg]; exact (below_size (kB HB.out)) : w.heap.size ≤ gb107)); clear HB; have HB := n0_; have BK107 := n1_; have GW107 := n2_; have GE107 := n3_; clear n0_ n1_ n2_ n3_; clear hb hbox hg) | ((with_reducible refine gate_dst (N := 3) rfl ?_); refine box_event ?hg (N := 3) ?hd (cs := #[.string a1_0, .int .i64 a1_1, .int .i64 a1_2]) (t := 26) ?hr ?_; (case hd => rfl); (case hg => rfl); (case hr => first | (go_simp; done) | (go_simp; rfl)); intro gb108 hg w18 hbox hb; have n0_ := Aside0.mk (blk_below (g := gb107) (o := .cells #[.int .i64 a0_0, .slice A0_1 l0_1.length c0_1] 24 (0, 0)) (kA BK107.out) hb); have n1_ := Aside0.mk (below_step (kB HB.out) hb); have n2_ := Aside0.mk (hbox); have n3_ := Aside0.mk ((by rw [hg]; exact (below_size (kB HB.out)) : w.heap.size ≤ gb108)); have n4_ := Aside0.mk ((by rw [hg]; exact (below_size (kB HB.out)) : w.heap.size ≤ gb108)); have n5_ := Aside0.mk ((by rw [hg]; exact Nat.ne_of_lt (blk_lt (g := gb107) (o := .cells #[.int .i64 a0_0, .slice A0_1 l0_1.length c0_1] 24 (0, 0)) (kA BK107.out)) : gb107 ≠ gb108)); have n6_ := Aside0.mk ((by rw [hg]; exact Nat.ne_of_gt (blk_lt (g := gb107) (o := .cells #[.int .i64 a0_0, .slice A0_1 l0_1.length c0_1] 24 (0, 0)) (kA BK107.out)) : gb108 ≠ gb107)); clear BK107; clear HB; have BK107 := n0_; have HB := n1_; have BK108 := n2_; have GW108 := n3_; have GE108 := n4_; have NB107_108 := n5_; have NB108_107 := n6_; clear n0_ n1_ n2_ n3_ n4_ n5_ n6_; clear hb hbox hg; have hnb19 := NB107_108.out; have hnc19 := NB108_107.out; have hcz20_0 : w18.cell? ⟨gb107, 0, none⟩ = some (.int .i64 a0_0) := (blk_cell BK107.out 0).trans rfl; have hcz20_1 : w18.cell? ⟨gb107, 1, none⟩ = some (.slice A0_1 l0_1.length c0_1) := (blk_cell BK107.out 1).trans rfl; have hfz20_0 := blk_frozen BK107.out 0; have hfz20_1 := blk_frozen BK107.out 1) | ((with_reducible refine gate_callee (f := 31) rfl ?_); refine goesL_ (some 6) rfl rfl Try.func31 (by kernel_rfl) rfl #[.agg #[.int .i64 a0_0, .slice A0_1 l0_1.length c0_1]] rfl (by (try simp only [List.map_toArray, List.map_cons, List.map_nil]); first | done | rfl | (simp only [List.length_drop, List.length_take]; rfl)) ?_; (with_reducible refine (graph_Check.calls a0_0 _ _ l0_1 t109 _ ?side1 ?side2 A3.out).mono ?_); (case side1 => repeat (first | exact (Kd.C_below HR0_1.out HB.out) | (with_reducible refine Kd.C_alloc ?_ _) | (with_reducible refine Kd.C_drewN ?_ _) | (with_reducible refine Kd.C_drew ?_))); (case side2 => exact HC0_1.out); rintro e w21 ⟨rfl, hb⟩; refine ⟨_, rfl, ?_⟩; have n0_ := Aside0.mk (blk_below (g := gb107) (o := .cells #[.int .i64 a0_0, .slice A0_1 l0_1.length c0_1] 24 (0, 0)) (kA BK107.out) hb); have n1_ := Aside0.mk (blk_below (g := gb108) (o := .cells #[.string a1_0, .int .i64 a1_1, .int .i64 a1_2] 26 (0, 0)) (kA BK108.out) hb); have n2_ := Aside0.mk (below_step (kB HB.out) hb); clear BK107; clear BK108; clear HB; have BK107 := n0_; have BK108 := n1_; have HB := n2_; clear n0_ n1_ n2_; (try clear hb); (try clear hb2); (try clear hk); (try clear hi); have hcz22_0 : w21.cell? ⟨gb108, 0, none⟩ = some (.string a1_0) := (blk_cell BK108.out 0).trans rfl; have hcz22_1 : w21.cell? ⟨gb108, 1, none⟩ = some (.int .i64 a1_1) := (blk_cell BK108.out 1).trans rfl; have hcz22_2 : w21.cell? ⟨gb108, 2, none⟩ = some (.int .i64 a1_2) := (blk_cell BK108.out 2).trans rfl; have hfz22_0 := blk_frozen BK108.out 0; have hfz22_1 := blk_frozen BK108.out 1; have hfz22_2 := blk_frozen BK108.out 2) | (go_at_call 32; (with_reducible refine (prog_Known.calls k a1_0 true _ A5.out).mono ?_); rintro e w23 ⟨rfl, hb⟩; have n0_ := Aside0.mk (blk_below (g := gb107) (o := .cells #[.int .i64 a0_0, .slice A0_1 l0_1.length c0_1] 24 (0, 0)) (kA BK107.out) hb); have n1_ := Aside0.mk (blk_below (g := gb108) (o := .cells #[.string a1_0, .int .i64 a1_1, .int .i64 a1_2] 26 (0, 0)) (kA BK108.out) hb); have n2_ := Aside0.mk (below_step (kB HB.out) hb); clear BK107; clear BK108; clear HB; have BK107 := n0_; have BK108 := n1_; have HB := n2_; clear n0_ n1_ n2_; (try clear hb); (try clear hb2); (try clear hk); (try clear hi); have hcz24_0 : w23.cell? ⟨gb108, 0, none⟩ = some (.string a1_0) := (blk_cell BK108.out 0).trans rfl; have hcz24_1 : w23.cell? ⟨gb108, 1, none⟩ = some (.int .i64 a1_1) := (blk_cell BK108.out 1).trans rfl; have hcz24_2 : w23.cell? ⟨gb108, 2, none⟩ = some (.int .i64 a1_2) := (blk_cell BK108.out 2).trans rfl; have hfz24_0 := blk_frozen BK108.out 0; have hfz24_1 := blk_frozen BK108.out 1; have hfz24_2 := blk_frozen BK108.out 2; have hcz25_0 : w23.cell? ⟨gb107, 0, none⟩ = some (.int .i64 a0_0) := (blk_cell BK107.out 0).trans rfl; have hcz25_1 : w23.cell? ⟨gb107, 1, none⟩ = some (.slice A0_1 l0_1.length c0_1) := (blk_cell BK107.out 1).trans rfl; have hfz25_0 := blk_frozen BK107.out 0; have hfz25_1 := blk_frozen BK107.out 1))
     go_ret
     exact ⟨by first | rfl | (simp [errW_none, errW_some] <;> rfl) | (simp [*, errW_none, errW_some] <;> rfl), by exact kB HB.out⟩
    ·rw [if_neg c16] at H
     have c16b0 : decide (a0_0 ≤ a1_1) = false := decide_eq_false c16
     clear c16
     by_cases c26 : a1_2 < 1
     ·rw [if_pos c26] at H
      have c26b0 := decide_eq_true c26
      clear c26
      obtain rfl := Option.some.inj H
      go_enter Try.func19, Try.ntmps19
      go_wp2_with (first | ((with_reducible refine gate_dst (N := 2) rfl ?_); refine box_event ?hg (N := 2) ?hd (cs := #[.int .i64 a0_0, .slice A0_1 l0_1.length c0_1]) (t := 24) ?hr ?_; (case hd => rfl); (case hg => rfl); (case hr => first | (go_simp; done) | (go_simp; rfl)); intro gb107 hg w27 hbox hb; have n0_ := Aside0.mk (below_step (kB HB.out) hb); have n1_ := Aside0.mk (hbox); have n2_ := Aside0.mk ((by rw [hg]; exact (below_size (kB HB.out)) : w.heap.size ≤ gb107)); have n3_ := Aside0.mk ((by rw [hg]; exact (below_size (kB HB.out)) : w.heap.size ≤ gb107)); clear HB; have HB := n0_; have BK107 := n1_; have GW107 := n2_; have GE107 := n3_; clear n0_ n1_ n2_ n3_; clear hb hbox hg) | ((with_reducible refine gate_dst (N := 3) rfl ?_); refine box_event ?hg (N := 3) ?hd (cs := #[.string a1_0, .int .i64 a1_1, .int .i64 a1_2]) (t := 26) ?hr ?_; (case hd => rfl); (case hg => rfl); (case hr => first | (go_simp; done) | (go_simp; rfl)); intro gb108 hg w28 hbox hb; have n0_ := Aside0.mk (blk_below (g := gb107) (o := .cells #[.int .i64 a0_0, .slice A0_1 l0_1.length c0_1] 24 (0, 0)) (kA BK107.out) hb); have n1_ := Aside0.mk (below_step (kB HB.out) hb); have n2_ := Aside0.mk (hbox); have n3_ := Aside0.mk ((by rw [hg]; exact (below_size (kB HB.out)) : w.heap.size ≤ gb108)); have n4_ := Aside0.mk ((by rw [hg]; exact (below_size (kB HB.out)) : w.heap.size ≤ gb108)); have n5_ := Aside0.mk ((by rw [hg]; exact Nat.ne_of_lt (blk_lt (g := gb107) (o := .cells #[.int .i64 a0_0, .slice A0_1 l0_1.length c0_1] 24 (0, 0)) (kA BK107.out)) : gb107 ≠ gb108)); have n6_ := Aside0.mk ((by rw [hg]; exact Nat.ne_of_gt (blk_lt (g := gb107) (o := .cells #[.int .i64 a0_0, .slice A0_1 l0_1.length c0_1] 24 (0, 0)) (kA BK107.out)) : gb108 ≠ gb107)); clear BK107; clear HB; have BK107 := n0_; have HB := n1_; have BK108 := n2_; have GW108 := n3_; have GE108 := n4_; have NB107_108 := n5_; have NB108_107 := n6_; clear n0_ n1_ n2_ n3_ n4_ n5_ n6_; clear hb hbox hg; have hnb29 := NB107_108.out; have hnc29 := NB108_107.out; have hcz30_0 : w28.cell? ⟨gb107, 0, none⟩ = some (.int .i64 a0_0) := (blk_cell BK107.out 0).trans rfl; have hcz30_1 : w28.cell? ⟨gb107, 1, none⟩ = some (.slice A0_1 l0_1.length c0_1) := (blk_cell BK107.out 1).trans rfl; have hfz30_0 := blk_frozen BK107.out 0; have hfz30_1 := blk_frozen BK107.out 1) | ((with_reducible refine gate_callee (f := 31) rfl ?_); refine goesL_ (some 6) rfl rfl Try.func31 (by kernel_rfl) rfl #[.agg #[.int .i64 a0_0, .slice A0_1 l0_1.length c0_1]] rfl (by (try simp only [List.map_toArray, List.map_cons, List.map_nil]); first | done | rfl | (simp only [List.length_drop, List.length_take]; rfl)) ?_; (with_reducible refine (graph_Check.calls a0_0 _ _ l0_1 t109 _ ?side1 ?side2 A3.out).mono ?_); (case side1 => repeat (first | exact (Kd.C_below HR0_1.out HB.out) | (with_reducible refine Kd.C_alloc ?_ _) | (with_reducible refine Kd.C_drewN ?_ _) | (with_reducible refine Kd.C_drew ?_))); (case side2 => exact HC0_1.out); rintro e w31 ⟨rfl, hb⟩; refine ⟨_, rfl, ?_⟩; have n0_ := Aside0.mk (blk_below (g := gb107) (o := .cells #[.int .i64 a0_0, .slice A0_1 l0_1.length c0_1] 24 (0, 0)) (kA BK107.out) hb); have n1_ := Aside0.mk (blk_below (g := gb108) (o := .cells #[.string a1_0, .int .i64 a1_1, .int .i64 a1_2] 26 (0, 0)) (kA BK108.out) hb); have n2_ := Aside0.mk (below_step (kB HB.out) hb); clear BK107; clear BK108; clear HB; have BK107 := n0_; have BK108 := n1_; have HB := n2_; clear n0_ n1_ n2_; (try clear hb); (try clear hb2); (try clear hk); (try clear hi); have hcz32_0 : w31.cell? ⟨gb108, 0, none⟩ = some (.string a1_0) := (blk_cell BK108.out 0).trans rfl; have hcz32_1 : w31.cell? ⟨gb108, 1, none⟩ = some (.int .i64 a1_1) := (blk_cell BK108.out 1).trans rfl; have hcz32_2 : w31.cell? ⟨gb108, 2, none⟩ = some (.int .i64 a1_2) := (blk_cell BK108.out 2).trans rfl; have hfz32_0 := blk_frozen BK108.out 0; have hfz32_1 := blk_frozen BK108.out 1; have hfz32_2 := blk_frozen BK108.out 2) | (go_at_call 32; (with_reducible refine (prog_Known.calls k a1_0 true _ A5.out).mono ?_); rintro e w33 ⟨rfl, hb⟩; have n0_ := Aside0.mk (blk_below (g := gb107) (o := .cells #[.int .i64 a0_0, .slice A0_1 l0_1.length c0_1] 24 (0, 0)) (kA BK107.out) hb); have n1_ := Aside0.mk (blk_below (g := gb108) (o := .cells #[.string a1_0, .int .i64 a1_1, .int .i64 a1_2] 26 (0, 0)) (kA BK108.out) hb); have n2_ := Aside0.mk (below_step (kB HB.out) hb); clear BK107; clear BK108; clear HB; have BK107 := n0_; have BK108 := n1_; have HB := n2_; clear n0_ n1_ n2_; (try clear hb); (try clear hb2); (try clear hk); (try clear hi); have hcz34_0 : w33.cell? ⟨gb108, 0, none⟩ = some (.string a1_0) := (blk_cell BK108.out 0).trans rfl; have hcz34_1 : w33.cell? ⟨gb108, 1, none⟩ = some (.int .i64 a1_1) := (blk_cell BK108.out 1).trans rfl; have hcz34_2 : w33.cell? ⟨gb108, 2, none⟩ = some (.int .i64 a1_2) := (blk_cell BK108.out 2).trans rfl; have hfz34_0 := blk_frozen BK108.out 0; have hfz34_1 := blk_frozen BK108.out 1; have hfz34_2 := blk_frozen BK108.out 2; have hcz35_0 : w33.cell? ⟨gb107, 0, none⟩ = some (.int .i64 a0_0) := (blk_cell BK107.out 0).trans rfl; have hcz35_1 : w33.cell? ⟨gb107, 1, none⟩ = some (.slice A0_1 l0_1.length c0_1) := (blk_cell BK107.out 1).trans rfl; have hfz35_0 := blk_frozen BK107.out 0; have hfz35_1 := blk_frozen BK107.out 1))
      go_ret
      exact ⟨by first | rfl | (simp [errW_none, errW_some] <;> rfl) | (simp [*, errW_none, errW_some] <;> rfl), by exact kB HB.out⟩
     ·rw [if_neg c26] at H
      have c26b0 := decide_eq_false c26
      clear c26
      by_cases c36 : a1_2 > 64
      ·rw [if_pos c36] at H
       have c36b0 : decide (64 < a1_2) = true := decide_eq_true c36
       clear c36
       obtain rfl := Option.some.inj H
       go_enter Try.func19, Try.ntmps19
       go_wp2_with (first | ((with_reducible refine gate_dst (N := 2) rfl ?_); refine box_event ?hg (N := 2) ?hd (cs := #[.int .i64 a0_0, .slice A0_1 l0_1.length c0_1]) (t := 24) ?hr ?_; (case hd => rfl); (case hg => rfl); (case hr => first | (go_simp; done) | (go_simp; rfl)); intro gb107 hg w37 hbox hb; have n0_ := Aside0.mk (below_step (kB HB.out) hb); have n1_ := Aside0.mk (hbox); have n2_ := Aside0.mk ((by rw [hg]; exact (below_size (kB HB.out)) : w.heap.size ≤ gb107)); have n3_ := Aside0.mk ((by rw [hg]; exact (below_size (kB HB.out)) : w.heap.size ≤ gb107)); clear HB; have HB := n0_; have BK107 := n1_; have GW107 := n2_; have GE107 := n3_; clear n0_ n1_ n2_ n3_; clear hb hbox hg) | ((with_reducible refine gate_dst (N := 3) rfl ?_); refine box_event ?hg (N := 3) ?hd (cs := #[.string a1_0, .int .i64 a1_1, .int .i64 a1_2]) (t := 26) ?hr ?_; (case hd => rfl); (case hg => rfl); (case hr => first | (go_simp; done) | (go_simp; rfl)); intro gb108 hg w38 hbox hb; have n0_ := Aside0.mk (blk_below (g := gb107) (o := .cells #[.int .i64 a0_0, .slice A0_1 l0_1.length c0_1] 24 (0, 0)) (kA BK107.out) hb); have n1_ := Aside0.mk (below_step (kB HB.out) hb); have n2_ := Aside0.mk (hbox); have n3_ := Aside0.mk ((by rw [hg]; exact (below_size (kB HB.out)) : w.heap.size ≤ gb108)); have n4_ := Aside0.mk ((by rw [hg]; exact (below_size (kB HB.out)) : w.heap.size ≤ gb108)); have n5_ := Aside0.mk ((by rw [hg]; exact Nat.ne_of_lt (blk_lt (g := gb107) (o := .cells #[.int .i64 a0_0, .slice A0_1 l0_1.length c0_1] 24 (0, 0)) (kA BK107.out)) : gb107 ≠ gb108)); have n6_ := Aside0.mk ((by rw [hg]; exact Nat.ne_of_gt (blk_lt (g := gb107) (o := .cells #[.int .i64 a0_0, .slice A0_1 l0_1.length c0_1] 24 (0, 0)) (kA BK107.out)) : gb108 ≠ gb107)); clear BK107; clear HB; have BK107 := n0_; have HB := n1_; have BK108 := n2_; have GW108 := n3_; have GE108 := n4_; have NB107_108 := n5_; have NB108_107 := n6_; clear n0_ n1_ n2_ n3_ n4_ n5_ n6_; clear hb hbox hg; have hnb39 := NB107_108.out; have hnc39 := NB108_107.out; have hcz40_0 : w38.cell? ⟨gb107, 0, none⟩ = some (.int .i64 a0_0) := (blk_cell BK107.out 0).trans rfl; have hcz40_1 : w38.cell? ⟨gb107, 1, none⟩ = some (.slice A0_1 l0_1.length c0_1) := (blk_cell BK107.out 1).trans rfl; have hfz40_0 := blk_frozen BK107.out 0; have hfz40_1 := blk_frozen BK107.out 1) | ((with_reducible refine gate_callee (f := 31) rfl ?_); refine goesL_ (some 6) rfl rfl Try.func31 (by kernel_rfl) rfl #[.agg #[.int .i64 a0_0, .slice A0_1 l0_1.length c0_1]] rfl (by (try simp only [List.map_toArray, List.map_cons, List.map_nil]); first | done | rfl | (simp only [List.length_drop, List.length_take]; rfl)) ?_; (with_reducible refine (graph_Check.calls a0_0 _ _ l0_1 t109 _ ?side1 ?side2 A3.out).mono ?_); (case side1 => repeat (first | exact (Kd.C_below HR0_1.out HB.out) | (with_reducible refine Kd.C_alloc ?_ _) | (with_reducible refine Kd.C_drewN ?_ _) | (with_reducible refine Kd.C_drew ?_))); (case side2 => exact HC0_1.out); rintro e w41 ⟨rfl, hb⟩; refine ⟨_, rfl, ?_⟩; have n0_ := Aside0.mk (blk_below (g := gb107) (o := .cells #[.int .i64 a0_0, .slice A0_1 l0_1.length c0_1] 24 (0, 0)) (kA BK107.out) hb); have n1_ := Aside0.mk (blk_below (g := gb108) (o := .cells #[.string a1_0, .int .i64 a1_1, .int .i64 a1_2] 26 (0, 0)) (kA BK108.out) hb); have n2_ := Aside0.mk (below_step (kB HB.out) hb); clear BK107; clear BK108; clear HB; have BK107 := n0_; have BK108 := n1_; have HB := n2_; clear n0_ n1_ n2_; (try clear hb); (try clear hb2); (try clear hk); (try clear hi); have hcz42_0 : w41.cell? ⟨gb108, 0, none⟩ = some (.string a1_0) := (blk_cell BK108.out 0).trans rfl; have hcz42_1 : w41.cell? ⟨gb108, 1, none⟩ = some (.int .i64 a1_1) := (blk_cell BK108.out 1).trans rfl; have hcz42_2 : w41.cell? ⟨gb108, 2, none⟩ = some (.int .i64 a1_2) := (blk_cell BK108.out 2).trans rfl; have hfz42_0 := blk_frozen BK108.out 0; have hfz42_1 := blk_frozen BK108.out 1; have hfz42_2 := blk_frozen BK108.out 2) | (go_at_call 32; (with_reducible refine (prog_Known.calls k a1_0 true _ A5.out).mono ?_); rintro e w43 ⟨rfl, hb⟩; have n0_ := Aside0.mk (blk_below (g := gb107) (o := .cells #[.int .i64 a0_0, .slice A0_1 l0_1.length c0_1] 24 (0, 0)) (kA BK107.out) hb); have n1_ := Aside0.mk (blk_below (g := gb108) (o := .cells #[.string a1_0, .int .i64 a1_1, .int .i64 a1_2] 26 (0, 0)) (kA BK108.out) hb); have n2_ := Aside0.mk (below_step (kB HB.out) hb); clear BK107; clear BK108; clear HB; have BK107 := n0_; have BK108 := n1_; have HB := n2_; clear n0_ n1_ n2_; (try clear hb); (try clear hb2); (try clear hk); (try clear hi); have hcz44_0 : w43.cell? ⟨gb108, 0, none⟩ = some (.string a1_0) := (blk_cell BK108.out 0).trans rfl; have hcz44_1 : w43.cell? ⟨gb108, 1, none⟩ = some (.int .i64 a1_1) := (blk_cell BK108.out 1).trans rfl; have hcz44_2 : w43.cell? ⟨gb108, 2, none⟩ = some (.int .i64 a1_2) := (blk_cell BK108.out 2).trans rfl; have hfz44_0 := blk_frozen BK108.out 0; have hfz44_1 := blk_frozen BK108.out 1; have hfz44_2 := blk_frozen BK108.out 2; have hcz45_0 : w43.cell? ⟨gb107, 0, none⟩ = some (.int .i64 a0_0) := (blk_cell BK107.out 0).trans rfl; have hcz45_1 : w43.cell? ⟨gb107, 1, none⟩ = some (.slice A0_1 l0_1.length c0_1) := (blk_cell BK107.out 1).trans rfl; have hfz45_0 := blk_frozen BK107.out 0; have hfz45_1 := blk_frozen BK107.out 1))
       go_ret
       exact ⟨by first | rfl | (simp [errW_none, errW_some] <;> rfl) | (simp [*, errW_none, errW_some] <;> rfl), by exact kB HB.out⟩
      ·rw [if_neg c36] at H
       have c36b0 : decide (64 < a1_2) = false := decide_eq_false c36
       clear c36
       obtain rfl := Option.some.inj H
       go_enter Try.func19, Try.ntmps19
       go_wp2_with (first | ((with_reducible refine gate_dst (N := 2) rfl ?_); refine box_event ?hg (N := 2) ?hd (cs := #[.int .i64 a0_0, .slice A0_1 l0_1.length c0_1]) (t := 24) ?hr ?_; (case hd => rfl); (case hg => rfl); (case hr => first | (go_simp; done) | (go_simp; rfl)); intro gb107 hg w46 hbox hb; have n0_ := Aside0.mk (below_step (kB HB.out) hb); have n1_ := Aside0.mk (hbox); have n2_ := Aside0.mk ((by rw [hg]; exact (below_size (kB HB.out)) : w.heap.size ≤ gb107)); have n3_ := Aside0.mk ((by rw [hg]; exact (below_size (kB HB.out)) : w.heap.size ≤ gb107)); clear HB; have HB := n0_; have BK107 := n1_; have GW107 := n2_; have GE107 := n3_; clear n0_ n1_ n2_ n3_; clear hb hbox hg) | ((with_reducible refine gate_dst (N := 3) rfl ?_); refine box_event ?hg (N := 3) ?hd (cs := #[.string a1_0, .int .i64 a1_1, .int .i64 a1_2]) (t := 26) ?hr ?_; (case hd => rfl); (case hg => rfl); (case hr => first | (go_simp; done) | (go_simp; rfl)); intro gb108 hg w47 hbox hb; have n0_ := Aside0.mk (blk_below (g := gb107) (o := .cells #[.int .i64 a0_0, .slice A0_1 l0_1.length c0_1] 24 (0, 0)) (kA BK107.out) hb); have n1_ := Aside0.mk (below_step (kB HB.out) hb); have n2_ := Aside0.mk (hbox); have n3_ := Aside0.mk ((by rw [hg]; exact (below_size (kB HB.out)) : w.heap.size ≤ gb108)); have n4_ := Aside0.mk ((by rw [hg]; exact (below_size (kB HB.out)) : w.heap.size ≤ gb108)); have n5_ := Aside0.mk ((by rw [hg]; exact Nat.ne_of_lt (blk_lt (g := gb107) (o := .cells #[.int .i64 a0_0, .slice A0_1 l0_1.length c0_1] 24 (0, 0)) (kA BK107.out)) : gb107 ≠ gb108)); have n6_ := Aside0.mk ((by rw [hg]; exact Nat.ne_of_gt (blk_lt (g := gb107) (o := .cells #[.int .i64 a0_0, .slice A0_1 l0_1.length c0_1] 24 (0, 0)) (kA BK107.out)) : gb108 ≠ gb107)); clear BK107; clear HB; have BK107 := n0_; have HB := n1_; have BK108 := n2_; have GW108 := n3_; have GE108 := n4_; have NB107_108 := n5_; have NB108_107 := n6_; clear n0_ n1_ n2_ n3_ n4_ n5_ n6_; clear hb hbox hg; have hnb48 := NB107_108.out; have hnc48 := NB108_107.out; have hcz49_0 : w47.cell? ⟨gb107, 0, none⟩ = some (.int .i64 a0_0) := (blk_cell BK107.out 0).trans rfl; have hcz49_1 : w47.cell? ⟨gb107, 1, none⟩ = some (.slice A0_1 l0_1.length c0_1) := (blk_cell BK107.out 1).trans rfl; have hfz49_0 := blk_frozen BK107.out 0; have hfz49_1 := blk_frozen BK107.out 1) | ((with_reducible refine gate_callee (f := 31) rfl ?_); refine goesL_ (some 6) rfl rfl Try.func31 (by kernel_rfl) rfl #[.agg #[.int .i64 a0_0, .slice A0_1 l0_1.length c0_1]] rfl (by (try simp only [List.map_toArray, List.map_cons, List.map_nil]); first | done | rfl | (simp only [List.length_drop, List.length_take]; rfl)) ?_; (with_reducible refine (graph_Check.calls a0_0 _ _ l0_1 t109 _ ?side1 ?side2 A3.out).mono ?_); (case side1 => repeat (first | exact (Kd.C_below HR0_1.out HB.out) | (with_reducible refine Kd.C_alloc ?_ _) | (with_reducible refine Kd.C_drewN ?_ _) | (with_reducible refine Kd.C_drew ?_))); (case side2 => exact HC0_1.out); rintro e w50 ⟨rfl, hb⟩; refine ⟨_, rfl, ?_⟩; have n0_ := Aside0.mk (blk_below (g := gb107) (o := .cells #[.int .i64 a0_0, .slice A0_1 l0_1.length c0_1] 24 (0, 0)) (kA BK107.out) hb); have n1_ := Aside0.mk (blk_below (g := gb108) (o := .cells #[.string a1_0, .int .i64 a1_1, .int .i64 a1_2] 26 (0, 0)) (kA BK108.out) hb); have n2_ := Aside0.mk (below_step (kB HB.out) hb); clear BK107; clear BK108; clear HB; have BK107 := n0_; have BK108 := n1_; have HB := n2_; clear n0_ n1_ n2_; (try clear hb); (try clear hb2); (try clear hk); (try clear hi); have hcz51_0 : w50.cell? ⟨gb108, 0, none⟩ = some (.string a1_0) := (blk_cell BK108.out 0).trans rfl; have hcz51_1 : w50.cell? ⟨gb108, 1, none⟩ = some (.int .i64 a1_1) := (blk_cell BK108.out 1).trans rfl; have hcz51_2 : w50.cell? ⟨gb108, 2, none⟩ = some (.int .i64 a1_2) := (blk_cell BK108.out 2).trans rfl; have hfz51_0 := blk_frozen BK108.out 0; have hfz51_1 := blk_frozen BK108.out 1; have hfz51_2 := blk_frozen BK108.out 2) | (go_at_call 32; (with_reducible refine (prog_Known.calls k a1_0 true _ A5.out).mono ?_); rintro e w52 ⟨rfl, hb⟩; have n0_ := Aside0.mk (blk_below (g := gb107) (o := .cells #[.int .i64 a0_0, .slice A0_1 l0_1.length c0_1] 24 (0, 0)) (kA BK107.out) hb); have n1_ := Aside0.mk (blk_below (g := gb108) (o := .cells #[.string a1_0, .int .i64 a1_1, .int .i64 a1_2] 26 (0, 0)) (kA BK108.out) hb); have n2_ := Aside0.mk (below_step (kB HB.out) hb); clear BK107; clear BK108; clear HB; have BK107 := n0_; have BK108 := n1_; have HB := n2_; clear n0_ n1_ n2_; (try clear hb); (try clear hb2); (try clear hk); (try clear hi); have hcz53_0 : w52.cell? ⟨gb108, 0, none⟩ = some (.string a1_0) := (blk_cell BK108.out 0).trans rfl; have hcz53_1 : w52.cell? ⟨gb108, 1, none⟩ = some (.int .i64 a1_1) := (blk_cell BK108.out 1).trans rfl; have hcz53_2 : w52.cell? ⟨gb108, 2, none⟩ = some (.int .i64 a1_2) := (blk_cell BK108.out 2).trans rfl; have hfz53_0 := blk_frozen BK108.out 0; have hfz53_1 := blk_frozen BK108.out 1; have hfz53_2 := blk_frozen BK108.out 2; have hcz54_0 : w52.cell? ⟨gb107, 0, none⟩ = some (.int .i64 a0_0) := (blk_cell BK107.out 0).trans rfl; have hcz54_1 : w52.cell? ⟨gb107, 1, none⟩ = some (.slice A0_1 l0_1.length c0_1) := (blk_cell BK107.out 1).trans rfl; have hfz54_0 := blk_frozen BK107.out 0; have hfz54_1 := blk_frozen BK107.out 1))
       go_ret
       exact ⟨by first | rfl | (simp [errW_none, errW_some] <;> rfl) | (simp [*, errW_none, errW_some] <;> rfl), by exact kB HB.out⟩
  ·replace c6 := Bool.eq_false_iff.mpr c6
   subst c6
   have H1 : (some 70) = some r := by rw [if_neg (show ¬ (false = true) by decide)] at H; exact H
   clear H
   have H := H1
   clear H1
   obtain rfl := Option.some.inj H
   go_enter Try.func19, Try.ntmps19
   go_wp2_with (first | ((with_reducible refine gate_dst (N := 2) rfl ?_); refine box_event ?hg (N := 2) ?hd (cs := #[.int .i64 a0_0, .slice A0_1 l0_1.length c0_1]) (t := 24) ?hr ?_; (case hd => rfl); (case hg => rfl); (case hr => first | (go_simp; done) | (go_simp; rfl)); intro gb107 hg w55 hbox hb; have n0_ := Aside0.mk (below_step (kB HB.out) hb); have n1_ := Aside0.mk (hbox); have n2_ := Aside0.mk ((by rw [hg]; exact (below_size (kB HB.out)) : w.heap.size ≤ gb107)); have n3_ := Aside0.mk ((by rw [hg]; exact (below_size (kB HB.out)) : w.heap.size ≤ gb107)); clear HB; have HB := n0_; have BK107 := n1_; have GW107 := n2_; have GE107 := n3_; clear n0_ n1_ n2_ n3_; clear hb hbox hg) | ((with_reducible refine gate_dst (N := 3) rfl ?_); refine box_event ?hg (N := 3) ?hd (cs := #[.string a1_0, .int .i64 a1_1, .int .i64 a1_2]) (t := 26) ?hr ?_; (case hd => rfl); (case hg => rfl); (case hr => first | (go_simp; done) | (go_simp; rfl)); intro gb108 hg w56 hbox hb; have n0_ := Aside0.mk (blk_below (g := gb107) (o := .cells #[.int .i64 a0_0, .slice A0_1 l0_1.length c0_1] 24 (0, 0)) (kA BK107.out) hb); have n1_ := Aside0.mk (below_step (kB HB.out) hb); have n2_ := Aside0.mk (hbox); have n3_ := Aside0.mk ((by rw [hg]; exact (below_size (kB HB.out)) : w.heap.size ≤ gb108)); have n4_ := Aside0.mk ((by rw [hg]; exact (below_size (kB HB.out)) : w.heap.size ≤ gb108)); have n5_ := Aside0.mk ((by rw [hg]; exact Nat.ne_of_lt (blk_lt (g := gb107) (o := .cells #[.int .i64 a0_0, .slice A0_1 l0_1.length c0_1] 24 (0, 0)) (kA BK107.out)) : gb107 ≠ gb108)); have n6_ := Aside0.mk ((by rw [hg]; exact Nat.ne_of_gt (blk_lt (g := gb107) (o := .cells #[.int .i64 a0_0, .slice A0_1 l0_1.length c0_1] 24 (0, 0)) (kA BK107.out)) : gb108 ≠ gb107)); clear BK107; clear HB; have BK107 := n0_; have HB := n1_; have BK108 := n2_; have GW108 := n3_; have GE108 := n4_; have NB107_108 := n5_; have NB108_107 := n6_; clear n0_ n1_ n2_ n3_ n4_ n5_ n6_; clear hb hbox hg; have hnb57 := NB107_108.out; have hnc57 := NB108_107.out; have hcz58_0 : w56.cell? ⟨gb107, 0, none⟩ = some (.int .i64 a0_0) := (blk_cell BK107.out 0).trans rfl; have hcz58_1 : w56.cell? ⟨gb107, 1, none⟩ = some (.slice A0_1 l0_1.length c0_1) := (blk_cell BK107.out 1).trans rfl; have hfz58_0 := blk_frozen BK107.out 0; have hfz58_1 := blk_frozen BK107.out 1) | ((with_reducible refine gate_callee (f := 31) rfl ?_); refine goesL_ (some 6) rfl rfl Try.func31 (by kernel_rfl) rfl #[.agg #[.int .i64 a0_0, .slice A0_1 l0_1.length c0_1]] rfl (by (try simp only [List.map_toArray, List.map_cons, List.map_nil]); first | done | rfl | (simp only [List.length_drop, List.length_take]; rfl)) ?_; (with_reducible refine (graph_Check.calls a0_0 _ _ l0_1 t109 _ ?side1 ?side2 A3.out).mono ?_); (case side1 => repeat (first | exact (Kd.C_below HR0_1.out HB.out) | (with_reducible refine Kd.C_alloc ?_ _) | (with_reducible refine Kd.C_drewN ?_ _) | (with_reducible refine Kd.C_drew ?_))); (case side2 => exact HC0_1.out); rintro e w59 ⟨rfl, hb⟩; refine ⟨_, rfl, ?_⟩; have n0_ := Aside0.mk (blk_below (g := gb107) (o := .cells #[.int .i64 a0_0, .slice A0_1 l0_1.length c0_1] 24 (0, 0)) (kA BK107.out) hb); have n1_ := Aside0.mk (blk_below (g := gb108) (o := .cells #[.string a1_0, .int .i64 a1_1, .int .i64 a1_2] 26 (0, 0)) (kA BK108.out) hb); have n2_ := Aside0.mk (below_step (kB HB.out) hb); clear BK107; clear BK108; clear HB; have BK107 := n0_; have BK108 := n1_; have HB := n2_; clear n0_ n1_ n2_; (try clear hb); (try clear hb2); (try clear hk); (try clear hi); have hcz60_0 : w59.cell? ⟨gb108, 0, none⟩ = some (.string a1_0) := (blk_cell BK108.out 0).trans rfl; have hcz60_1 : w59.cell? ⟨gb108, 1, none⟩ = some (.int .i64 a1_1) := (blk_cell BK108.out 1).trans rfl; have hcz60_2 : w59.cell? ⟨gb108, 2, none⟩ = some (.int .i64 a1_2) := (blk_cell BK108.out 2).trans rfl; have hfz60_0 := blk_frozen BK108.out 0; have hfz60_1 := blk_frozen BK108.out 1; have hfz60_2 := blk_frozen BK108.out 2) | (go_at_call 32; (with_reducible refine (prog_Known.calls k a1_0 false _ A5.out).mono ?_); rintro e w61 ⟨rfl, hb⟩; have n0_ := Aside0.mk (blk_below (g := gb107) (o := .cells #[.int .i64 a0_0, .slice A0_1 l0_1.length c0_1] 24 (0, 0)) (kA BK107.out) hb); have n1_ := Aside0.mk (blk_below (g := gb108) (o := .cells #[.string a1_0, .int .i64 a1_1, .int .i64 a1_2] 26 (0, 0)) (kA BK108.out) hb); have n2_ := Aside0.mk (below_step (kB HB.out) hb); clear BK107; clear BK108; clear HB; have BK107 := n0_; have BK108 := n1_; have HB := n2_; clear n0_ n1_ n2_; (try clear hb); (try clear hb2); (try clear hk); (try clear hi)))
   go_ret
   exact ⟨by first | rfl | (simp [errW_none, errW_some] <;> rfl) | (simp [*, errW_none, errW_some] <;> rfl), by exact kB HB.out⟩
 ·rw [if_neg c4] at H
  have c4b0 : (t109 == 0) = false := beq_eq_false_iff_ne.mpr c4
  have c4b1 : (t109 != 0) = true := bne_iff_ne.mpr c4
  obtain rfl := Option.some.inj H
  go_enter Try.func19, Try.ntmps19
  go_wp2_with (first | ((with_reducible refine gate_dst (N := 2) rfl ?_); refine box_event ?hg (N := 2) ?hd (cs := #[.int .i64 a0_0, .slice A0_1 l0_1.length c0_1]) (t := 24) ?hr ?_; (case hd => rfl); (case hg => rfl); (case hr => first | (go_simp; done) | (go_simp; rfl)); intro gb107 hg w62 hbox hb; have n0_ := Aside0.mk (below_step (kB HB.out) hb); have n1_ := Aside0.mk (hbox); have n2_ := Aside0.mk ((by rw [hg]; exact (below_size (kB HB.out)) : w.heap.size ≤ gb107)); have n3_ := Aside0.mk ((by rw [hg]; exact (below_size (kB HB.out)) : w.heap.size ≤ gb107)); clear HB; have HB := n0_; have BK107 := n1_; have GW107 := n2_; have GE107 := n3_; clear n0_ n1_ n2_ n3_; clear hb hbox hg) | ((with_reducible refine gate_dst (N := 3) rfl ?_); refine box_event ?hg (N := 3) ?hd (cs := #[.string a1_0, .int .i64 a1_1, .int .i64 a1_2]) (t := 26) ?hr ?_; (case hd => rfl); (case hg => rfl); (case hr => first | (go_simp; done) | (go_simp; rfl)); intro gb108 hg w63 hbox hb; have n0_ := Aside0.mk (blk_below (g := gb107) (o := .cells #[.int .i64 a0_0, .slice A0_1 l0_1.length c0_1] 24 (0, 0)) (kA BK107.out) hb); have n1_ := Aside0.mk (below_step (kB HB.out) hb); have n2_ := Aside0.mk (hbox); have n3_ := Aside0.mk ((by rw [hg]; exact (below_size (kB HB.out)) : w.heap.size ≤ gb108)); have n4_ := Aside0.mk ((by rw [hg]; exact (below_size (kB HB.out)) : w.heap.size ≤ gb108)); have n5_ := Aside0.mk ((by rw [hg]; exact Nat.ne_of_lt (blk_lt (g := gb107) (o := .cells #[.int .i64 a0_0, .slice A0_1 l0_1.length c0_1] 24 (0, 0)) (kA BK107.out)) : gb107 ≠ gb108)); have n6_ := Aside0.mk ((by rw [hg]; exact Nat.ne_of_gt (blk_lt (g := gb107) (o := .cells #[.int .i64 a0_0, .slice A0_1 l0_1.length c0_1] 24 (0, 0)) (kA BK107.out)) : gb108 ≠ gb107)); clear BK107; clear HB; have BK107 := n0_; have HB := n1_; have BK108 := n2_; have GW108 := n3_; have GE108 := n4_; have NB107_108 := n5_; have NB108_107 := n6_; clear n0_ n1_ n2_ n3_ n4_ n5_ n6_; clear hb hbox hg; have hnb64 := NB107_108.out; have hnc64 := NB108_107.out; have hcz65_0 : w63.cell? ⟨gb107, 0, none⟩ = some (.int .i64 a0_0) := (blk_cell BK107.out 0).trans rfl; have hcz65_1 : w63.cell? ⟨gb107, 1, none⟩ = some (.slice A0_1 l0_1.length c0_1) := (blk_cell BK107.out 1).trans rfl; have hfz65_0 := blk_frozen BK107.out 0; have hfz65_1 := blk_frozen BK107.out 1) | ((with_reducible refine gate_callee (f := 31) rfl ?_); refine goesL_ (some 6) rfl rfl Try.func31 (by kernel_rfl) rfl #[.agg #[.int .i64 a0_0, .slice A0_1 l0_1.length c0_1]] rfl (by (try simp only [List.map_toArray, List.map_cons, List.map_nil]); first | done | rfl | (simp only [List.length_drop, List.length_take]; rfl)) ?_; (with_reducible refine (graph_Check.calls a0_0 _ _ l0_1 t109 _ ?side1 ?side2 A3.out).mono ?_); (case side1 => repeat (first | exact (Kd.C_below HR0_1.out HB.out) | (with_reducible refine Kd.C_alloc ?_ _) | (with_reducible refine Kd.C_drewN ?_ _) | (with_reducible refine Kd.C_drew ?_))); (case side2 => exact HC0_1.out); rintro e w66 ⟨rfl, hb⟩; refine ⟨_, rfl, ?_⟩; have n0_ := Aside0.mk (blk_below (g := gb107) (o := .cells #[.int .i64 a0_0, .slice A0_1 l0_1.length c0_1] 24 (0, 0)) (kA BK107.out) hb); have n1_ := Aside0.mk (blk_below (g := gb108) (o := .cells #[.string a1_0, .int .i64 a1_1, .int .i64 a1_2] 26 (0, 0)) (kA BK108.out) hb); have n2_ := Aside0.mk (below_step (kB HB.out) hb); clear BK107; clear BK108; clear HB; have BK107 := n0_; have BK108 := n1_; have HB := n2_; clear n0_ n1_ n2_; (try clear hb); (try clear hb2); (try clear hk); (try clear hi)))
  go_ret
  exact ⟨by first | rfl | (simp [errW_none, errW_some] <;> rfl) | (simp [*, errW_none, errW_some] <;> rfl), by exact kB HB.out⟩

/-! ### prog_First: function 20 (given) -/
/-- A vertex's value at first. -/
def firstV (t : List UInt8) (source v : Int) : Int := if t = [109, 97, 120] then (37 * v + 11) % 64 else if t = [108, 97, 98, 101, 108] then v else if (t == [98, 102, 115] || t == [115, 115, 115, 112]) = true then (if v = source then 0 else -1) else if t = [114, 97, 110, 107] then 65536 else if t = [119, 97, 108, 107, 115] then 1 else 0
def prog_First.f (a0_0 : ByteArray) (a0_1 a0_2 a1 : Int) : Option (Int × Int × Bool × Bool × Int) := if 0 ≤ a1 ∧ a1 ≤ 1048576 then (prog_Known.f 20 a0_0).bind fun b => if b = true then some (a1, firstV a0_0.toList a0_1 a1, true, false, 0) else some (0, 0, false, false, 0) else none
section
open Go.Shelf Go.Proofs.Ytpndhkeoljoapaa.Bridge
set_option maxHeartbeats 8000000 in
set_option maxRecDepth 100000 in
theorem prog_First.w_unknown (tag : ByteArray) (source steps v : Int) (w : World) (HK : ∀ W, Calls Try.prog 32 #[.string tag] W fun e w' => e = .returned (.bool false) ∧ Below W.heap.size W w')  :
  Calls Try.prog 20 #[.agg #[.string tag, .int .i64 source, .int .i64 steps], .int .i64 v] w fun e w' => e = .returned (.agg #[.int .i64 0, .int .i64 0, .bool false, .bool false, .int .i64 0]) ∧ Below w.heap.size w w' := by
 have hu1 := Try.underlying50
 have hu2 := Try.underlying26
 go_enter Try.func20, Try.ntmps20
 go_wp2_with (fail)
 refine (HK _).mono ?_
 rintro e w2 ⟨rfl, hb⟩
 have BK := Aside0.mk (blk_below (heap_alloc2_new _ _ _) hb)
 have hsz : Aside0 (w.heap.size + 2 ≤ w2.heap.size) := ⟨by have := hb.size; simp at this; omega⟩
 have HB2 : Aside0 (Below w.heap.size w w2) := ⟨by
  refine Below.trans ?_ (hb.mono ?_)
  ·repeat (first | exact Below.refl _ _ | apply below_alloc | apply pw_below_drewN)
  ·simp; omega⟩
 have j0 := (hb.cell (p := ⟨w.heap.size, 0, none⟩) (by simp; omega)).trans (show _ = some (.string tag) by first | (go_simp; done) | (go_simp; rfl))
 have j1 := (hb.cell (p := ⟨w.heap.size, 1, none⟩) (by simp; omega)).trans (show _ = some (.int .i64 source) by first | (go_simp; done) | (go_simp; rfl))
 have s0 : w2.cell? ⟨w.heap.size + 1, 0, none⟩ = some (.int .i64 0) := (blk_cell BK.out 0).trans rfl
 have f0 := blk_frozen BK.out 0
 have s1 : w2.cell? ⟨w.heap.size + 1, 1, none⟩ = some (.int .i64 0) := (blk_cell BK.out 1).trans rfl
 have f1 := blk_frozen BK.out 1
 have s2 : w2.cell? ⟨w.heap.size + 1, 2, none⟩ = some (.bool false) := (blk_cell BK.out 2).trans rfl
 have f2 := blk_frozen BK.out 2
 have s3 : w2.cell? ⟨w.heap.size + 1, 3, none⟩ = some (.bool false) := (blk_cell BK.out 3).trans rfl
 have f3 := blk_frozen BK.out 3
 have s4 : w2.cell? ⟨w.heap.size + 1, 4, none⟩ = some (.int .i64 0) := (blk_cell BK.out 4).trans rfl
 have f4 := blk_frozen BK.out 4
 clear hb HK
 go_wp2
 refine bodyPost_ret (results_cell_row rfl _ _ (w.heap.size + 1) 50 #[.int .i64 0, .int .i64 0, .bool false, .bool false, .int .i64 0] (0, 0) _ rfl ?hg Try.underlying50 rfl (by kernel_rfl)) rfl ?_
 case hg => exact (blk_put (blk_put (blk_put (blk_put (blk_put (BK).out 0 _ rfl) 1 _ rfl) 2 _ rfl) 3 _ rfl) 4 _ rfl)
 exact ⟨rfl, (below_set (below_set (below_set (below_set (below_set HB2.out (Nat.le_succ _)) (Nat.le_succ _)) (Nat.le_succ _)) (Nat.le_succ _)) (Nat.le_succ _))⟩
set_option maxHeartbeats 8000000 in
set_option maxRecDepth 100000 in
theorem prog_First.w_max (tag : ByteArray) (source steps v : Int) (w : World) (HK : ∀ W, Calls Try.prog 32 #[.string tag] W fun e w' => e = .returned (.bool true) ∧ Below W.heap.size W w') (ht : tag.toList = [109, 97, 120]) (h0 : 0 ≤ v ∧ v ≤ 1048576) :
  Calls Try.prog 20 #[.agg #[.string tag, .int .i64 source, .int .i64 steps], .int .i64 v] w fun e w' => e = .returned (.agg #[.int .i64 v, .int .i64 ((37 * v + 11) % 64), .bool true, .bool false, .int .i64 0]) ∧ Below w.heap.size w w' := by
 have hu1 := Try.underlying50
 have hu2 := Try.underlying26
 have e1 : wrap64 (37 * v) = 37 * v := by unfold wrap64; omega
 have e2 : wrap64 (37 * v + 11) = 37 * v + 11 := by unfold wrap64; omega
 have e3 : Int.tmod (37 * v + 11) 64 = (37 * v + 11) % 64 := Int.tmod_eq_emod_of_nonneg (by omega)
 have q0 : 0 ≤ 37 * v + 11 := by omega
 clear h0
 have t_max : (tag.toList == ([109, 97, 120] : List UInt8)) = true := by rw [ht]; rfl
 clear ht
 go_enter Try.func20, Try.ntmps20
 go_wp2_with (fail)
 refine (HK _).mono ?_
 rintro e w2 ⟨rfl, hb⟩
 have BK := Aside0.mk (blk_below (heap_alloc2_new _ _ _) hb)
 have hsz : Aside0 (w.heap.size + 2 ≤ w2.heap.size) := ⟨by have := hb.size; simp at this; omega⟩
 have HB2 : Aside0 (Below w.heap.size w w2) := ⟨by
  refine Below.trans ?_ (hb.mono ?_)
  ·repeat (first | exact Below.refl _ _ | apply below_alloc | apply pw_below_drewN)
  ·simp; omega⟩
 have j0 := (hb.cell (p := ⟨w.heap.size, 0, none⟩) (by simp; omega)).trans (show _ = some (.string tag) by first | (go_simp; done) | (go_simp; rfl))
 have j1 := (hb.cell (p := ⟨w.heap.size, 1, none⟩) (by simp; omega)).trans (show _ = some (.int .i64 source) by first | (go_simp; done) | (go_simp; rfl))
 have i0 : ∀ o, (w2.alloc o).cell? ⟨w.heap.size, 0, none⟩ = some (.string tag) := fun o => Bridge.cell_old j0
 have i1 : ∀ o, (w2.alloc o).cell? ⟨w.heap.size, 1, none⟩ = some (.int .i64 source) := fun o => Bridge.cell_old j1
 have BA : ∀ o, Aside0 ((w2.alloc o).heap[w.heap.size + 1]? = some (.cells #[.int .i64 0, .int .i64 0, .bool false, .bool false, .int .i64 0] 50 (0, 0))) := fun o => ⟨blk_alloc BK.out o⟩
 have s0 : ∀ o, (w2.alloc o).cell? ⟨w.heap.size + 1, 0, none⟩ = some (.int .i64 0) := fun o => (blk_cell (BA o).out 0).trans rfl
 have s1 : ∀ o, (w2.alloc o).cell? ⟨w.heap.size + 1, 1, none⟩ = some (.int .i64 0) := fun o => (blk_cell (BA o).out 1).trans rfl
 have s2 : ∀ o, (w2.alloc o).cell? ⟨w.heap.size + 1, 2, none⟩ = some (.bool false) := fun o => (blk_cell (BA o).out 2).trans rfl
 have s3 : ∀ o, (w2.alloc o).cell? ⟨w.heap.size + 1, 3, none⟩ = some (.bool false) := fun o => (blk_cell (BA o).out 3).trans rfl
 have s4 : ∀ o, (w2.alloc o).cell? ⟨w.heap.size + 1, 4, none⟩ = some (.int .i64 0) := fun o => (blk_cell (BA o).out 4).trans rfl
 have f0 : ∀ o, (w2.alloc o).frozen? ⟨w.heap.size + 1, 0, none⟩ = false := fun o => blk_frozen (BA o).out 0
 have f1 : ∀ o, (w2.alloc o).frozen? ⟨w.heap.size + 1, 1, none⟩ = false := fun o => blk_frozen (BA o).out 1
 have f2 : ∀ o, (w2.alloc o).frozen? ⟨w.heap.size + 1, 2, none⟩ = false := fun o => blk_frozen (BA o).out 2
 have f3 : ∀ o, (w2.alloc o).frozen? ⟨w.heap.size + 1, 3, none⟩ = false := fun o => blk_frozen (BA o).out 3
 have f4 : ∀ o, (w2.alloc o).frozen? ⟨w.heap.size + 1, 4, none⟩ = false := fun o => blk_frozen (BA o).out 4
 have hne : (w.heap.size + 1 == w2.heap.size) = false := beq_eq_false_iff_ne.mpr (by have := hsz.out; omega)
 clear hb HK
 go_wp2
 refine bodyPost_ret (results_cell_row rfl _ _ (w.heap.size + 1) 50 #[.int .i64 v, .int .i64 ((37 * v + 11) % 64), .bool true, .bool false, .int .i64 0] (0, 0) _ rfl ?hg Try.underlying50 rfl (by kernel_rfl)) rfl ?_
 case hg => exact (blk_put (blk_put (blk_put (blk_put (blk_put (BA _).out 0 _ rfl) 1 _ rfl) 2 _ rfl) 3 _ rfl) 4 _ rfl)
 exact ⟨rfl, (below_set (below_set (below_set (below_set (below_set (below_alloc HB2.out _) (Nat.le_succ _)) (Nat.le_succ _)) (Nat.le_succ _)) (Nat.le_succ _)) (Nat.le_succ _))⟩
set_option maxHeartbeats 8000000 in
set_option maxRecDepth 100000 in
theorem prog_First.w_label (tag : ByteArray) (source steps v : Int) (w : World) (HK : ∀ W, Calls Try.prog 32 #[.string tag] W fun e w' => e = .returned (.bool true) ∧ Below W.heap.size W w') (ht : tag.toList = [108, 97, 98, 101, 108]) :
  Calls Try.prog 20 #[.agg #[.string tag, .int .i64 source, .int .i64 steps], .int .i64 v] w fun e w' => e = .returned (.agg #[.int .i64 v, .int .i64 v, .bool true, .bool false, .int .i64 0]) ∧ Below w.heap.size w w' := by
 have hu1 := Try.underlying50
 have hu2 := Try.underlying26
 have t_max : (tag.toList == ([109, 97, 120] : List UInt8)) = false := by rw [ht]; rfl
 have t_label : (tag.toList == ([108, 97, 98, 101, 108] : List UInt8)) = true := by rw [ht]; rfl
 clear ht
 go_enter Try.func20, Try.ntmps20
 go_wp2_with (fail)
 refine (HK _).mono ?_
 rintro e w2 ⟨rfl, hb⟩
 have BK := Aside0.mk (blk_below (heap_alloc2_new _ _ _) hb)
 have hsz : Aside0 (w.heap.size + 2 ≤ w2.heap.size) := ⟨by have := hb.size; simp at this; omega⟩
 have HB2 : Aside0 (Below w.heap.size w w2) := ⟨by
  refine Below.trans ?_ (hb.mono ?_)
  ·repeat (first | exact Below.refl _ _ | apply below_alloc | apply pw_below_drewN)
  ·simp; omega⟩
 have j0 := (hb.cell (p := ⟨w.heap.size, 0, none⟩) (by simp; omega)).trans (show _ = some (.string tag) by first | (go_simp; done) | (go_simp; rfl))
 have j1 := (hb.cell (p := ⟨w.heap.size, 1, none⟩) (by simp; omega)).trans (show _ = some (.int .i64 source) by first | (go_simp; done) | (go_simp; rfl))
 have i0 : ∀ o, (w2.alloc o).cell? ⟨w.heap.size, 0, none⟩ = some (.string tag) := fun o => Bridge.cell_old j0
 have i1 : ∀ o, (w2.alloc o).cell? ⟨w.heap.size, 1, none⟩ = some (.int .i64 source) := fun o => Bridge.cell_old j1
 have BA : ∀ o, Aside0 ((w2.alloc o).heap[w.heap.size + 1]? = some (.cells #[.int .i64 0, .int .i64 0, .bool false, .bool false, .int .i64 0] 50 (0, 0))) := fun o => ⟨blk_alloc BK.out o⟩
 have s0 : ∀ o, (w2.alloc o).cell? ⟨w.heap.size + 1, 0, none⟩ = some (.int .i64 0) := fun o => (blk_cell (BA o).out 0).trans rfl
 have s1 : ∀ o, (w2.alloc o).cell? ⟨w.heap.size + 1, 1, none⟩ = some (.int .i64 0) := fun o => (blk_cell (BA o).out 1).trans rfl
 have s2 : ∀ o, (w2.alloc o).cell? ⟨w.heap.size + 1, 2, none⟩ = some (.bool false) := fun o => (blk_cell (BA o).out 2).trans rfl
 have s3 : ∀ o, (w2.alloc o).cell? ⟨w.heap.size + 1, 3, none⟩ = some (.bool false) := fun o => (blk_cell (BA o).out 3).trans rfl
 have s4 : ∀ o, (w2.alloc o).cell? ⟨w.heap.size + 1, 4, none⟩ = some (.int .i64 0) := fun o => (blk_cell (BA o).out 4).trans rfl
 have f0 : ∀ o, (w2.alloc o).frozen? ⟨w.heap.size + 1, 0, none⟩ = false := fun o => blk_frozen (BA o).out 0
 have f1 : ∀ o, (w2.alloc o).frozen? ⟨w.heap.size + 1, 1, none⟩ = false := fun o => blk_frozen (BA o).out 1
 have f2 : ∀ o, (w2.alloc o).frozen? ⟨w.heap.size + 1, 2, none⟩ = false := fun o => blk_frozen (BA o).out 2
 have f3 : ∀ o, (w2.alloc o).frozen? ⟨w.heap.size + 1, 3, none⟩ = false := fun o => blk_frozen (BA o).out 3
 have f4 : ∀ o, (w2.alloc o).frozen? ⟨w.heap.size + 1, 4, none⟩ = false := fun o => blk_frozen (BA o).out 4
 have hne : (w.heap.size + 1 == w2.heap.size) = false := beq_eq_false_iff_ne.mpr (by have := hsz.out; omega)
 clear hb HK
 go_wp2
 refine bodyPost_ret (results_cell_row rfl _ _ (w.heap.size + 1) 50 #[.int .i64 v, .int .i64 v, .bool true, .bool false, .int .i64 0] (0, 0) _ rfl ?hg Try.underlying50 rfl (by kernel_rfl)) rfl ?_
 case hg => exact (blk_put (blk_put (blk_put (blk_put (blk_put (BA _).out 0 _ rfl) 1 _ rfl) 2 _ rfl) 3 _ rfl) 4 _ rfl)
 exact ⟨rfl, (below_set (below_set (below_set (below_set (below_set (below_alloc HB2.out _) (Nat.le_succ _)) (Nat.le_succ _)) (Nat.le_succ _)) (Nat.le_succ _)) (Nat.le_succ _))⟩
set_option maxHeartbeats 8000000 in
set_option maxRecDepth 100000 in
theorem prog_First.w_bfs_at (tag : ByteArray) (source steps v : Int) (w : World) (HK : ∀ W, Calls Try.prog 32 #[.string tag] W fun e w' => e = .returned (.bool true) ∧ Below W.heap.size W w') (ht : tag.toList = [98, 102, 115]) (hs : v = source) :
  Calls Try.prog 20 #[.agg #[.string tag, .int .i64 source, .int .i64 steps], .int .i64 v] w fun e w' => e = .returned (.agg #[.int .i64 v, .int .i64 0, .bool true, .bool false, .int .i64 0]) ∧ Below w.heap.size w w' := by
 have hu1 := Try.underlying50
 have hu2 := Try.underlying26
 have z : (v != source) = false := bne_eq_false_iff_eq.mpr hs
 clear hs
 have t_max : (tag.toList == ([109, 97, 120] : List UInt8)) = false := by rw [ht]; rfl
 have t_label : (tag.toList == ([108, 97, 98, 101, 108] : List UInt8)) = false := by rw [ht]; rfl
 have t_bfs : (tag.toList == ([98, 102, 115] : List UInt8)) = true := by rw [ht]; rfl
 clear ht
 go_enter Try.func20, Try.ntmps20
 go_wp2_with (fail)
 refine (HK _).mono ?_
 rintro e w2 ⟨rfl, hb⟩
 have BK := Aside0.mk (blk_below (heap_alloc2_new _ _ _) hb)
 have hsz : Aside0 (w.heap.size + 2 ≤ w2.heap.size) := ⟨by have := hb.size; simp at this; omega⟩
 have HB2 : Aside0 (Below w.heap.size w w2) := ⟨by
  refine Below.trans ?_ (hb.mono ?_)
  ·repeat (first | exact Below.refl _ _ | apply below_alloc | apply pw_below_drewN)
  ·simp; omega⟩
 have j0 := (hb.cell (p := ⟨w.heap.size, 0, none⟩) (by simp; omega)).trans (show _ = some (.string tag) by first | (go_simp; done) | (go_simp; rfl))
 have j1 := (hb.cell (p := ⟨w.heap.size, 1, none⟩) (by simp; omega)).trans (show _ = some (.int .i64 source) by first | (go_simp; done) | (go_simp; rfl))
 have i0 : ∀ o, (w2.alloc o).cell? ⟨w.heap.size, 0, none⟩ = some (.string tag) := fun o => Bridge.cell_old j0
 have i1 : ∀ o, (w2.alloc o).cell? ⟨w.heap.size, 1, none⟩ = some (.int .i64 source) := fun o => Bridge.cell_old j1
 have BA : ∀ o, Aside0 ((w2.alloc o).heap[w.heap.size + 1]? = some (.cells #[.int .i64 0, .int .i64 0, .bool false, .bool false, .int .i64 0] 50 (0, 0))) := fun o => ⟨blk_alloc BK.out o⟩
 have s0 : ∀ o, (w2.alloc o).cell? ⟨w.heap.size + 1, 0, none⟩ = some (.int .i64 0) := fun o => (blk_cell (BA o).out 0).trans rfl
 have s1 : ∀ o, (w2.alloc o).cell? ⟨w.heap.size + 1, 1, none⟩ = some (.int .i64 0) := fun o => (blk_cell (BA o).out 1).trans rfl
 have s2 : ∀ o, (w2.alloc o).cell? ⟨w.heap.size + 1, 2, none⟩ = some (.bool false) := fun o => (blk_cell (BA o).out 2).trans rfl
 have s3 : ∀ o, (w2.alloc o).cell? ⟨w.heap.size + 1, 3, none⟩ = some (.bool false) := fun o => (blk_cell (BA o).out 3).trans rfl
 have s4 : ∀ o, (w2.alloc o).cell? ⟨w.heap.size + 1, 4, none⟩ = some (.int .i64 0) := fun o => (blk_cell (BA o).out 4).trans rfl
 have f0 : ∀ o, (w2.alloc o).frozen? ⟨w.heap.size + 1, 0, none⟩ = false := fun o => blk_frozen (BA o).out 0
 have f1 : ∀ o, (w2.alloc o).frozen? ⟨w.heap.size + 1, 1, none⟩ = false := fun o => blk_frozen (BA o).out 1
 have f2 : ∀ o, (w2.alloc o).frozen? ⟨w.heap.size + 1, 2, none⟩ = false := fun o => blk_frozen (BA o).out 2
 have f3 : ∀ o, (w2.alloc o).frozen? ⟨w.heap.size + 1, 3, none⟩ = false := fun o => blk_frozen (BA o).out 3
 have f4 : ∀ o, (w2.alloc o).frozen? ⟨w.heap.size + 1, 4, none⟩ = false := fun o => blk_frozen (BA o).out 4
 have hne : (w.heap.size + 1 == w2.heap.size) = false := beq_eq_false_iff_ne.mpr (by have := hsz.out; omega)
 clear hb HK
 go_wp2
 refine bodyPost_ret (results_cell_row rfl _ _ (w.heap.size + 1) 50 #[.int .i64 v, .int .i64 0, .bool true, .bool false, .int .i64 0] (0, 0) _ rfl ?hg Try.underlying50 rfl (by kernel_rfl)) rfl ?_
 case hg => exact (blk_put (blk_put (blk_put (blk_put (blk_put (BA _).out 0 _ rfl) 1 _ rfl) 2 _ rfl) 3 _ rfl) 4 _ rfl)
 exact ⟨rfl, (below_set (below_set (below_set (below_set (below_set (below_alloc HB2.out _) (Nat.le_succ _)) (Nat.le_succ _)) (Nat.le_succ _)) (Nat.le_succ _)) (Nat.le_succ _))⟩
set_option maxHeartbeats 8000000 in
set_option maxRecDepth 100000 in
theorem prog_First.w_bfs (tag : ByteArray) (source steps v : Int) (w : World) (HK : ∀ W, Calls Try.prog 32 #[.string tag] W fun e w' => e = .returned (.bool true) ∧ Below W.heap.size W w') (ht : tag.toList = [98, 102, 115]) (hs : ¬ v = source) :
  Calls Try.prog 20 #[.agg #[.string tag, .int .i64 source, .int .i64 steps], .int .i64 v] w fun e w' => e = .returned (.agg #[.int .i64 v, .int .i64 (-1), .bool true, .bool false, .int .i64 0]) ∧ Below w.heap.size w w' := by
 have hu1 := Try.underlying50
 have hu2 := Try.underlying26
 have z : (v != source) = true := bne_iff_ne.mpr hs
 clear hs
 have t_max : (tag.toList == ([109, 97, 120] : List UInt8)) = false := by rw [ht]; rfl
 have t_label : (tag.toList == ([108, 97, 98, 101, 108] : List UInt8)) = false := by rw [ht]; rfl
 have t_bfs : (tag.toList == ([98, 102, 115] : List UInt8)) = true := by rw [ht]; rfl
 clear ht
 go_enter Try.func20, Try.ntmps20
 go_wp2_with (fail)
 refine (HK _).mono ?_
 rintro e w2 ⟨rfl, hb⟩
 have BK := Aside0.mk (blk_below (heap_alloc2_new _ _ _) hb)
 have hsz : Aside0 (w.heap.size + 2 ≤ w2.heap.size) := ⟨by have := hb.size; simp at this; omega⟩
 have HB2 : Aside0 (Below w.heap.size w w2) := ⟨by
  refine Below.trans ?_ (hb.mono ?_)
  ·repeat (first | exact Below.refl _ _ | apply below_alloc | apply pw_below_drewN)
  ·simp; omega⟩
 have j0 := (hb.cell (p := ⟨w.heap.size, 0, none⟩) (by simp; omega)).trans (show _ = some (.string tag) by first | (go_simp; done) | (go_simp; rfl))
 have j1 := (hb.cell (p := ⟨w.heap.size, 1, none⟩) (by simp; omega)).trans (show _ = some (.int .i64 source) by first | (go_simp; done) | (go_simp; rfl))
 have i0 : ∀ o, (w2.alloc o).cell? ⟨w.heap.size, 0, none⟩ = some (.string tag) := fun o => Bridge.cell_old j0
 have i1 : ∀ o, (w2.alloc o).cell? ⟨w.heap.size, 1, none⟩ = some (.int .i64 source) := fun o => Bridge.cell_old j1
 have BA : ∀ o, Aside0 ((w2.alloc o).heap[w.heap.size + 1]? = some (.cells #[.int .i64 0, .int .i64 0, .bool false, .bool false, .int .i64 0] 50 (0, 0))) := fun o => ⟨blk_alloc BK.out o⟩
 have s0 : ∀ o, (w2.alloc o).cell? ⟨w.heap.size + 1, 0, none⟩ = some (.int .i64 0) := fun o => (blk_cell (BA o).out 0).trans rfl
 have s1 : ∀ o, (w2.alloc o).cell? ⟨w.heap.size + 1, 1, none⟩ = some (.int .i64 0) := fun o => (blk_cell (BA o).out 1).trans rfl
 have s2 : ∀ o, (w2.alloc o).cell? ⟨w.heap.size + 1, 2, none⟩ = some (.bool false) := fun o => (blk_cell (BA o).out 2).trans rfl
 have s3 : ∀ o, (w2.alloc o).cell? ⟨w.heap.size + 1, 3, none⟩ = some (.bool false) := fun o => (blk_cell (BA o).out 3).trans rfl
 have s4 : ∀ o, (w2.alloc o).cell? ⟨w.heap.size + 1, 4, none⟩ = some (.int .i64 0) := fun o => (blk_cell (BA o).out 4).trans rfl
 have f0 : ∀ o, (w2.alloc o).frozen? ⟨w.heap.size + 1, 0, none⟩ = false := fun o => blk_frozen (BA o).out 0
 have f1 : ∀ o, (w2.alloc o).frozen? ⟨w.heap.size + 1, 1, none⟩ = false := fun o => blk_frozen (BA o).out 1
 have f2 : ∀ o, (w2.alloc o).frozen? ⟨w.heap.size + 1, 2, none⟩ = false := fun o => blk_frozen (BA o).out 2
 have f3 : ∀ o, (w2.alloc o).frozen? ⟨w.heap.size + 1, 3, none⟩ = false := fun o => blk_frozen (BA o).out 3
 have f4 : ∀ o, (w2.alloc o).frozen? ⟨w.heap.size + 1, 4, none⟩ = false := fun o => blk_frozen (BA o).out 4
 have hne : (w.heap.size + 1 == w2.heap.size) = false := beq_eq_false_iff_ne.mpr (by have := hsz.out; omega)
 clear hb HK
 go_wp2
 refine bodyPost_ret (results_cell_row rfl _ _ (w.heap.size + 1) 50 #[.int .i64 v, .int .i64 (-1), .bool true, .bool false, .int .i64 0] (0, 0) _ rfl ?hg Try.underlying50 rfl (by kernel_rfl)) rfl ?_
 case hg => exact (blk_put (blk_put (blk_put (blk_put (blk_put (BA _).out 0 _ rfl) 1 _ rfl) 2 _ rfl) 3 _ rfl) 4 _ rfl)
 exact ⟨rfl, (below_set (below_set (below_set (below_set (below_set (below_alloc HB2.out _) (Nat.le_succ _)) (Nat.le_succ _)) (Nat.le_succ _)) (Nat.le_succ _)) (Nat.le_succ _))⟩
set_option maxHeartbeats 8000000 in
set_option maxRecDepth 100000 in
theorem prog_First.w_sssp_at (tag : ByteArray) (source steps v : Int) (w : World) (HK : ∀ W, Calls Try.prog 32 #[.string tag] W fun e w' => e = .returned (.bool true) ∧ Below W.heap.size W w') (ht : tag.toList = [115, 115, 115, 112]) (hs : v = source) :
  Calls Try.prog 20 #[.agg #[.string tag, .int .i64 source, .int .i64 steps], .int .i64 v] w fun e w' => e = .returned (.agg #[.int .i64 v, .int .i64 0, .bool true, .bool false, .int .i64 0]) ∧ Below w.heap.size w w' := by
 have hu1 := Try.underlying50
 have hu2 := Try.underlying26
 have z : (v != source) = false := bne_eq_false_iff_eq.mpr hs
 clear hs
 have t_max : (tag.toList == ([109, 97, 120] : List UInt8)) = false := by rw [ht]; rfl
 have t_label : (tag.toList == ([108, 97, 98, 101, 108] : List UInt8)) = false := by rw [ht]; rfl
 have t_bfs : (tag.toList == ([98, 102, 115] : List UInt8)) = false := by rw [ht]; rfl
 have t_sssp : (tag.toList == ([115, 115, 115, 112] : List UInt8)) = true := by rw [ht]; rfl
 clear ht
 go_enter Try.func20, Try.ntmps20
 go_wp2_with (fail)
 refine (HK _).mono ?_
 rintro e w2 ⟨rfl, hb⟩
 have BK := Aside0.mk (blk_below (heap_alloc2_new _ _ _) hb)
 have hsz : Aside0 (w.heap.size + 2 ≤ w2.heap.size) := ⟨by have := hb.size; simp at this; omega⟩
 have HB2 : Aside0 (Below w.heap.size w w2) := ⟨by
  refine Below.trans ?_ (hb.mono ?_)
  ·repeat (first | exact Below.refl _ _ | apply below_alloc | apply pw_below_drewN)
  ·simp; omega⟩
 have j0 := (hb.cell (p := ⟨w.heap.size, 0, none⟩) (by simp; omega)).trans (show _ = some (.string tag) by first | (go_simp; done) | (go_simp; rfl))
 have j1 := (hb.cell (p := ⟨w.heap.size, 1, none⟩) (by simp; omega)).trans (show _ = some (.int .i64 source) by first | (go_simp; done) | (go_simp; rfl))
 have i0 : ∀ o, (w2.alloc o).cell? ⟨w.heap.size, 0, none⟩ = some (.string tag) := fun o => Bridge.cell_old j0
 have i1 : ∀ o, (w2.alloc o).cell? ⟨w.heap.size, 1, none⟩ = some (.int .i64 source) := fun o => Bridge.cell_old j1
 have BA : ∀ o, Aside0 ((w2.alloc o).heap[w.heap.size + 1]? = some (.cells #[.int .i64 0, .int .i64 0, .bool false, .bool false, .int .i64 0] 50 (0, 0))) := fun o => ⟨blk_alloc BK.out o⟩
 have s0 : ∀ o, (w2.alloc o).cell? ⟨w.heap.size + 1, 0, none⟩ = some (.int .i64 0) := fun o => (blk_cell (BA o).out 0).trans rfl
 have s1 : ∀ o, (w2.alloc o).cell? ⟨w.heap.size + 1, 1, none⟩ = some (.int .i64 0) := fun o => (blk_cell (BA o).out 1).trans rfl
 have s2 : ∀ o, (w2.alloc o).cell? ⟨w.heap.size + 1, 2, none⟩ = some (.bool false) := fun o => (blk_cell (BA o).out 2).trans rfl
 have s3 : ∀ o, (w2.alloc o).cell? ⟨w.heap.size + 1, 3, none⟩ = some (.bool false) := fun o => (blk_cell (BA o).out 3).trans rfl
 have s4 : ∀ o, (w2.alloc o).cell? ⟨w.heap.size + 1, 4, none⟩ = some (.int .i64 0) := fun o => (blk_cell (BA o).out 4).trans rfl
 have f0 : ∀ o, (w2.alloc o).frozen? ⟨w.heap.size + 1, 0, none⟩ = false := fun o => blk_frozen (BA o).out 0
 have f1 : ∀ o, (w2.alloc o).frozen? ⟨w.heap.size + 1, 1, none⟩ = false := fun o => blk_frozen (BA o).out 1
 have f2 : ∀ o, (w2.alloc o).frozen? ⟨w.heap.size + 1, 2, none⟩ = false := fun o => blk_frozen (BA o).out 2
 have f3 : ∀ o, (w2.alloc o).frozen? ⟨w.heap.size + 1, 3, none⟩ = false := fun o => blk_frozen (BA o).out 3
 have f4 : ∀ o, (w2.alloc o).frozen? ⟨w.heap.size + 1, 4, none⟩ = false := fun o => blk_frozen (BA o).out 4
 have hne : (w.heap.size + 1 == w2.heap.size) = false := beq_eq_false_iff_ne.mpr (by have := hsz.out; omega)
 clear hb HK
 go_wp2
 refine bodyPost_ret (results_cell_row rfl _ _ (w.heap.size + 1) 50 #[.int .i64 v, .int .i64 0, .bool true, .bool false, .int .i64 0] (0, 0) _ rfl ?hg Try.underlying50 rfl (by kernel_rfl)) rfl ?_
 case hg => exact (blk_put (blk_put (blk_put (blk_put (blk_put (BA _).out 0 _ rfl) 1 _ rfl) 2 _ rfl) 3 _ rfl) 4 _ rfl)
 exact ⟨rfl, (below_set (below_set (below_set (below_set (below_set (below_alloc HB2.out _) (Nat.le_succ _)) (Nat.le_succ _)) (Nat.le_succ _)) (Nat.le_succ _)) (Nat.le_succ _))⟩
set_option maxHeartbeats 8000000 in
set_option maxRecDepth 100000 in
theorem prog_First.w_sssp (tag : ByteArray) (source steps v : Int) (w : World) (HK : ∀ W, Calls Try.prog 32 #[.string tag] W fun e w' => e = .returned (.bool true) ∧ Below W.heap.size W w') (ht : tag.toList = [115, 115, 115, 112]) (hs : ¬ v = source) :
  Calls Try.prog 20 #[.agg #[.string tag, .int .i64 source, .int .i64 steps], .int .i64 v] w fun e w' => e = .returned (.agg #[.int .i64 v, .int .i64 (-1), .bool true, .bool false, .int .i64 0]) ∧ Below w.heap.size w w' := by
 have hu1 := Try.underlying50
 have hu2 := Try.underlying26
 have z : (v != source) = true := bne_iff_ne.mpr hs
 clear hs
 have t_max : (tag.toList == ([109, 97, 120] : List UInt8)) = false := by rw [ht]; rfl
 have t_label : (tag.toList == ([108, 97, 98, 101, 108] : List UInt8)) = false := by rw [ht]; rfl
 have t_bfs : (tag.toList == ([98, 102, 115] : List UInt8)) = false := by rw [ht]; rfl
 have t_sssp : (tag.toList == ([115, 115, 115, 112] : List UInt8)) = true := by rw [ht]; rfl
 clear ht
 go_enter Try.func20, Try.ntmps20
 go_wp2_with (fail)
 refine (HK _).mono ?_
 rintro e w2 ⟨rfl, hb⟩
 have BK := Aside0.mk (blk_below (heap_alloc2_new _ _ _) hb)
 have hsz : Aside0 (w.heap.size + 2 ≤ w2.heap.size) := ⟨by have := hb.size; simp at this; omega⟩
 have HB2 : Aside0 (Below w.heap.size w w2) := ⟨by
  refine Below.trans ?_ (hb.mono ?_)
  ·repeat (first | exact Below.refl _ _ | apply below_alloc | apply pw_below_drewN)
  ·simp; omega⟩
 have j0 := (hb.cell (p := ⟨w.heap.size, 0, none⟩) (by simp; omega)).trans (show _ = some (.string tag) by first | (go_simp; done) | (go_simp; rfl))
 have j1 := (hb.cell (p := ⟨w.heap.size, 1, none⟩) (by simp; omega)).trans (show _ = some (.int .i64 source) by first | (go_simp; done) | (go_simp; rfl))
 have i0 : ∀ o, (w2.alloc o).cell? ⟨w.heap.size, 0, none⟩ = some (.string tag) := fun o => Bridge.cell_old j0
 have i1 : ∀ o, (w2.alloc o).cell? ⟨w.heap.size, 1, none⟩ = some (.int .i64 source) := fun o => Bridge.cell_old j1
 have BA : ∀ o, Aside0 ((w2.alloc o).heap[w.heap.size + 1]? = some (.cells #[.int .i64 0, .int .i64 0, .bool false, .bool false, .int .i64 0] 50 (0, 0))) := fun o => ⟨blk_alloc BK.out o⟩
 have s0 : ∀ o, (w2.alloc o).cell? ⟨w.heap.size + 1, 0, none⟩ = some (.int .i64 0) := fun o => (blk_cell (BA o).out 0).trans rfl
 have s1 : ∀ o, (w2.alloc o).cell? ⟨w.heap.size + 1, 1, none⟩ = some (.int .i64 0) := fun o => (blk_cell (BA o).out 1).trans rfl
 have s2 : ∀ o, (w2.alloc o).cell? ⟨w.heap.size + 1, 2, none⟩ = some (.bool false) := fun o => (blk_cell (BA o).out 2).trans rfl
 have s3 : ∀ o, (w2.alloc o).cell? ⟨w.heap.size + 1, 3, none⟩ = some (.bool false) := fun o => (blk_cell (BA o).out 3).trans rfl
 have s4 : ∀ o, (w2.alloc o).cell? ⟨w.heap.size + 1, 4, none⟩ = some (.int .i64 0) := fun o => (blk_cell (BA o).out 4).trans rfl
 have f0 : ∀ o, (w2.alloc o).frozen? ⟨w.heap.size + 1, 0, none⟩ = false := fun o => blk_frozen (BA o).out 0
 have f1 : ∀ o, (w2.alloc o).frozen? ⟨w.heap.size + 1, 1, none⟩ = false := fun o => blk_frozen (BA o).out 1
 have f2 : ∀ o, (w2.alloc o).frozen? ⟨w.heap.size + 1, 2, none⟩ = false := fun o => blk_frozen (BA o).out 2
 have f3 : ∀ o, (w2.alloc o).frozen? ⟨w.heap.size + 1, 3, none⟩ = false := fun o => blk_frozen (BA o).out 3
 have f4 : ∀ o, (w2.alloc o).frozen? ⟨w.heap.size + 1, 4, none⟩ = false := fun o => blk_frozen (BA o).out 4
 have hne : (w.heap.size + 1 == w2.heap.size) = false := beq_eq_false_iff_ne.mpr (by have := hsz.out; omega)
 clear hb HK
 go_wp2
 refine bodyPost_ret (results_cell_row rfl _ _ (w.heap.size + 1) 50 #[.int .i64 v, .int .i64 (-1), .bool true, .bool false, .int .i64 0] (0, 0) _ rfl ?hg Try.underlying50 rfl (by kernel_rfl)) rfl ?_
 case hg => exact (blk_put (blk_put (blk_put (blk_put (blk_put (BA _).out 0 _ rfl) 1 _ rfl) 2 _ rfl) 3 _ rfl) 4 _ rfl)
 exact ⟨rfl, (below_set (below_set (below_set (below_set (below_set (below_alloc HB2.out _) (Nat.le_succ _)) (Nat.le_succ _)) (Nat.le_succ _)) (Nat.le_succ _)) (Nat.le_succ _))⟩
set_option maxHeartbeats 8000000 in
set_option maxRecDepth 100000 in
theorem prog_First.w_rank (tag : ByteArray) (source steps v : Int) (w : World) (HK : ∀ W, Calls Try.prog 32 #[.string tag] W fun e w' => e = .returned (.bool true) ∧ Below W.heap.size W w') (ht : tag.toList = [114, 97, 110, 107]) :
  Calls Try.prog 20 #[.agg #[.string tag, .int .i64 source, .int .i64 steps], .int .i64 v] w fun e w' => e = .returned (.agg #[.int .i64 v, .int .i64 65536, .bool true, .bool false, .int .i64 0]) ∧ Below w.heap.size w w' := by
 have hu1 := Try.underlying50
 have hu2 := Try.underlying26
 have t_max : (tag.toList == ([109, 97, 120] : List UInt8)) = false := by rw [ht]; rfl
 have t_label : (tag.toList == ([108, 97, 98, 101, 108] : List UInt8)) = false := by rw [ht]; rfl
 have t_bfs : (tag.toList == ([98, 102, 115] : List UInt8)) = false := by rw [ht]; rfl
 have t_sssp : (tag.toList == ([115, 115, 115, 112] : List UInt8)) = false := by rw [ht]; rfl
 have t_rank : (tag.toList == ([114, 97, 110, 107] : List UInt8)) = true := by rw [ht]; rfl
 clear ht
 go_enter Try.func20, Try.ntmps20
 go_wp2_with (fail)
 refine (HK _).mono ?_
 rintro e w2 ⟨rfl, hb⟩
 have BK := Aside0.mk (blk_below (heap_alloc2_new _ _ _) hb)
 have hsz : Aside0 (w.heap.size + 2 ≤ w2.heap.size) := ⟨by have := hb.size; simp at this; omega⟩
 have HB2 : Aside0 (Below w.heap.size w w2) := ⟨by
  refine Below.trans ?_ (hb.mono ?_)
  ·repeat (first | exact Below.refl _ _ | apply below_alloc | apply pw_below_drewN)
  ·simp; omega⟩
 have j0 := (hb.cell (p := ⟨w.heap.size, 0, none⟩) (by simp; omega)).trans (show _ = some (.string tag) by first | (go_simp; done) | (go_simp; rfl))
 have j1 := (hb.cell (p := ⟨w.heap.size, 1, none⟩) (by simp; omega)).trans (show _ = some (.int .i64 source) by first | (go_simp; done) | (go_simp; rfl))
 have i0 : ∀ o, (w2.alloc o).cell? ⟨w.heap.size, 0, none⟩ = some (.string tag) := fun o => Bridge.cell_old j0
 have i1 : ∀ o, (w2.alloc o).cell? ⟨w.heap.size, 1, none⟩ = some (.int .i64 source) := fun o => Bridge.cell_old j1
 have BA : ∀ o, Aside0 ((w2.alloc o).heap[w.heap.size + 1]? = some (.cells #[.int .i64 0, .int .i64 0, .bool false, .bool false, .int .i64 0] 50 (0, 0))) := fun o => ⟨blk_alloc BK.out o⟩
 have s0 : ∀ o, (w2.alloc o).cell? ⟨w.heap.size + 1, 0, none⟩ = some (.int .i64 0) := fun o => (blk_cell (BA o).out 0).trans rfl
 have s1 : ∀ o, (w2.alloc o).cell? ⟨w.heap.size + 1, 1, none⟩ = some (.int .i64 0) := fun o => (blk_cell (BA o).out 1).trans rfl
 have s2 : ∀ o, (w2.alloc o).cell? ⟨w.heap.size + 1, 2, none⟩ = some (.bool false) := fun o => (blk_cell (BA o).out 2).trans rfl
 have s3 : ∀ o, (w2.alloc o).cell? ⟨w.heap.size + 1, 3, none⟩ = some (.bool false) := fun o => (blk_cell (BA o).out 3).trans rfl
 have s4 : ∀ o, (w2.alloc o).cell? ⟨w.heap.size + 1, 4, none⟩ = some (.int .i64 0) := fun o => (blk_cell (BA o).out 4).trans rfl
 have f0 : ∀ o, (w2.alloc o).frozen? ⟨w.heap.size + 1, 0, none⟩ = false := fun o => blk_frozen (BA o).out 0
 have f1 : ∀ o, (w2.alloc o).frozen? ⟨w.heap.size + 1, 1, none⟩ = false := fun o => blk_frozen (BA o).out 1
 have f2 : ∀ o, (w2.alloc o).frozen? ⟨w.heap.size + 1, 2, none⟩ = false := fun o => blk_frozen (BA o).out 2
 have f3 : ∀ o, (w2.alloc o).frozen? ⟨w.heap.size + 1, 3, none⟩ = false := fun o => blk_frozen (BA o).out 3
 have f4 : ∀ o, (w2.alloc o).frozen? ⟨w.heap.size + 1, 4, none⟩ = false := fun o => blk_frozen (BA o).out 4
 have hne : (w.heap.size + 1 == w2.heap.size) = false := beq_eq_false_iff_ne.mpr (by have := hsz.out; omega)
 clear hb HK
 go_wp2
 refine bodyPost_ret (results_cell_row rfl _ _ (w.heap.size + 1) 50 #[.int .i64 v, .int .i64 65536, .bool true, .bool false, .int .i64 0] (0, 0) _ rfl ?hg Try.underlying50 rfl (by kernel_rfl)) rfl ?_
 case hg => exact (blk_put (blk_put (blk_put (blk_put (blk_put (BA _).out 0 _ rfl) 1 _ rfl) 2 _ rfl) 3 _ rfl) 4 _ rfl)
 exact ⟨rfl, (below_set (below_set (below_set (below_set (below_set (below_alloc HB2.out _) (Nat.le_succ _)) (Nat.le_succ _)) (Nat.le_succ _)) (Nat.le_succ _)) (Nat.le_succ _))⟩
set_option maxHeartbeats 8000000 in
set_option maxRecDepth 100000 in
theorem prog_First.w_walks (tag : ByteArray) (source steps v : Int) (w : World) (HK : ∀ W, Calls Try.prog 32 #[.string tag] W fun e w' => e = .returned (.bool true) ∧ Below W.heap.size W w') (ht : tag.toList = [119, 97, 108, 107, 115]) :
  Calls Try.prog 20 #[.agg #[.string tag, .int .i64 source, .int .i64 steps], .int .i64 v] w fun e w' => e = .returned (.agg #[.int .i64 v, .int .i64 1, .bool true, .bool false, .int .i64 0]) ∧ Below w.heap.size w w' := by
 have hu1 := Try.underlying50
 have hu2 := Try.underlying26
 have t_max : (tag.toList == ([109, 97, 120] : List UInt8)) = false := by rw [ht]; rfl
 have t_label : (tag.toList == ([108, 97, 98, 101, 108] : List UInt8)) = false := by rw [ht]; rfl
 have t_bfs : (tag.toList == ([98, 102, 115] : List UInt8)) = false := by rw [ht]; rfl
 have t_sssp : (tag.toList == ([115, 115, 115, 112] : List UInt8)) = false := by rw [ht]; rfl
 have t_rank : (tag.toList == ([114, 97, 110, 107] : List UInt8)) = false := by rw [ht]; rfl
 have t_walks : (tag.toList == ([119, 97, 108, 107, 115] : List UInt8)) = true := by rw [ht]; rfl
 clear ht
 go_enter Try.func20, Try.ntmps20
 go_wp2_with (fail)
 refine (HK _).mono ?_
 rintro e w2 ⟨rfl, hb⟩
 have BK := Aside0.mk (blk_below (heap_alloc2_new _ _ _) hb)
 have hsz : Aside0 (w.heap.size + 2 ≤ w2.heap.size) := ⟨by have := hb.size; simp at this; omega⟩
 have HB2 : Aside0 (Below w.heap.size w w2) := ⟨by
  refine Below.trans ?_ (hb.mono ?_)
  ·repeat (first | exact Below.refl _ _ | apply below_alloc | apply pw_below_drewN)
  ·simp; omega⟩
 have j0 := (hb.cell (p := ⟨w.heap.size, 0, none⟩) (by simp; omega)).trans (show _ = some (.string tag) by first | (go_simp; done) | (go_simp; rfl))
 have j1 := (hb.cell (p := ⟨w.heap.size, 1, none⟩) (by simp; omega)).trans (show _ = some (.int .i64 source) by first | (go_simp; done) | (go_simp; rfl))
 have i0 : ∀ o, (w2.alloc o).cell? ⟨w.heap.size, 0, none⟩ = some (.string tag) := fun o => Bridge.cell_old j0
 have i1 : ∀ o, (w2.alloc o).cell? ⟨w.heap.size, 1, none⟩ = some (.int .i64 source) := fun o => Bridge.cell_old j1
 have BA : ∀ o, Aside0 ((w2.alloc o).heap[w.heap.size + 1]? = some (.cells #[.int .i64 0, .int .i64 0, .bool false, .bool false, .int .i64 0] 50 (0, 0))) := fun o => ⟨blk_alloc BK.out o⟩
 have s0 : ∀ o, (w2.alloc o).cell? ⟨w.heap.size + 1, 0, none⟩ = some (.int .i64 0) := fun o => (blk_cell (BA o).out 0).trans rfl
 have s1 : ∀ o, (w2.alloc o).cell? ⟨w.heap.size + 1, 1, none⟩ = some (.int .i64 0) := fun o => (blk_cell (BA o).out 1).trans rfl
 have s2 : ∀ o, (w2.alloc o).cell? ⟨w.heap.size + 1, 2, none⟩ = some (.bool false) := fun o => (blk_cell (BA o).out 2).trans rfl
 have s3 : ∀ o, (w2.alloc o).cell? ⟨w.heap.size + 1, 3, none⟩ = some (.bool false) := fun o => (blk_cell (BA o).out 3).trans rfl
 have s4 : ∀ o, (w2.alloc o).cell? ⟨w.heap.size + 1, 4, none⟩ = some (.int .i64 0) := fun o => (blk_cell (BA o).out 4).trans rfl
 have f0 : ∀ o, (w2.alloc o).frozen? ⟨w.heap.size + 1, 0, none⟩ = false := fun o => blk_frozen (BA o).out 0
 have f1 : ∀ o, (w2.alloc o).frozen? ⟨w.heap.size + 1, 1, none⟩ = false := fun o => blk_frozen (BA o).out 1
 have f2 : ∀ o, (w2.alloc o).frozen? ⟨w.heap.size + 1, 2, none⟩ = false := fun o => blk_frozen (BA o).out 2
 have f3 : ∀ o, (w2.alloc o).frozen? ⟨w.heap.size + 1, 3, none⟩ = false := fun o => blk_frozen (BA o).out 3
 have f4 : ∀ o, (w2.alloc o).frozen? ⟨w.heap.size + 1, 4, none⟩ = false := fun o => blk_frozen (BA o).out 4
 have hne : (w.heap.size + 1 == w2.heap.size) = false := beq_eq_false_iff_ne.mpr (by have := hsz.out; omega)
 clear hb HK
 go_wp2
 refine bodyPost_ret (results_cell_row rfl _ _ (w.heap.size + 1) 50 #[.int .i64 v, .int .i64 1, .bool true, .bool false, .int .i64 0] (0, 0) _ rfl ?hg Try.underlying50 rfl (by kernel_rfl)) rfl ?_
 case hg => exact (blk_put (blk_put (blk_put (blk_put (blk_put (BA _).out 0 _ rfl) 1 _ rfl) 2 _ rfl) 3 _ rfl) 4 _ rfl)
 exact ⟨rfl, (below_set (below_set (below_set (below_set (below_set (below_alloc HB2.out _) (Nat.le_succ _)) (Nat.le_succ _)) (Nat.le_succ _)) (Nat.le_succ _)) (Nat.le_succ _))⟩
set_option maxHeartbeats 8000000 in
set_option maxRecDepth 100000 in
theorem prog_First.w_else (tag : ByteArray) (source steps v : Int) (w : World) (HK : ∀ W, Calls Try.prog 32 #[.string tag] W fun e w' => e = .returned (.bool true) ∧ Below W.heap.size W w') (n0 : ¬ tag.toList = [109, 97, 120]) (n1 : ¬ tag.toList = [108, 97, 98, 101, 108]) (n2 : ¬ tag.toList = [98, 102, 115]) (n3 : ¬ tag.toList = [115, 115, 115, 112]) (n4 : ¬ tag.toList = [114, 97, 110, 107]) (n5 : ¬ tag.toList = [119, 97, 108, 107, 115]) :
  Calls Try.prog 20 #[.agg #[.string tag, .int .i64 source, .int .i64 steps], .int .i64 v] w fun e w' => e = .returned (.agg #[.int .i64 v, .int .i64 0, .bool true, .bool false, .int .i64 0]) ∧ Below w.heap.size w w' := by
 have hu1 := Try.underlying50
 have hu2 := Try.underlying26
 have t_max : (tag.toList == ([109, 97, 120] : List UInt8)) = false := beq_eq_false_iff_ne.mpr n0
 have t_label : (tag.toList == ([108, 97, 98, 101, 108] : List UInt8)) = false := beq_eq_false_iff_ne.mpr n1
 have t_bfs : (tag.toList == ([98, 102, 115] : List UInt8)) = false := beq_eq_false_iff_ne.mpr n2
 have t_sssp : (tag.toList == ([115, 115, 115, 112] : List UInt8)) = false := beq_eq_false_iff_ne.mpr n3
 have t_rank : (tag.toList == ([114, 97, 110, 107] : List UInt8)) = false := beq_eq_false_iff_ne.mpr n4
 have t_walks : (tag.toList == ([119, 97, 108, 107, 115] : List UInt8)) = false := beq_eq_false_iff_ne.mpr n5
 clear n0 n1 n2 n3 n4 n5
 go_enter Try.func20, Try.ntmps20
 go_wp2_with (fail)
 refine (HK _).mono ?_
 rintro e w2 ⟨rfl, hb⟩
 have BK := Aside0.mk (blk_below (heap_alloc2_new _ _ _) hb)
 have hsz : Aside0 (w.heap.size + 2 ≤ w2.heap.size) := ⟨by have := hb.size; simp at this; omega⟩
 have HB2 : Aside0 (Below w.heap.size w w2) := ⟨by
  refine Below.trans ?_ (hb.mono ?_)
  ·repeat (first | exact Below.refl _ _ | apply below_alloc | apply pw_below_drewN)
  ·simp; omega⟩
 have j0 := (hb.cell (p := ⟨w.heap.size, 0, none⟩) (by simp; omega)).trans (show _ = some (.string tag) by first | (go_simp; done) | (go_simp; rfl))
 have j1 := (hb.cell (p := ⟨w.heap.size, 1, none⟩) (by simp; omega)).trans (show _ = some (.int .i64 source) by first | (go_simp; done) | (go_simp; rfl))
 have i0 : ∀ o, (w2.alloc o).cell? ⟨w.heap.size, 0, none⟩ = some (.string tag) := fun o => Bridge.cell_old j0
 have i1 : ∀ o, (w2.alloc o).cell? ⟨w.heap.size, 1, none⟩ = some (.int .i64 source) := fun o => Bridge.cell_old j1
 have BA : ∀ o, Aside0 ((w2.alloc o).heap[w.heap.size + 1]? = some (.cells #[.int .i64 0, .int .i64 0, .bool false, .bool false, .int .i64 0] 50 (0, 0))) := fun o => ⟨blk_alloc BK.out o⟩
 have s0 : ∀ o, (w2.alloc o).cell? ⟨w.heap.size + 1, 0, none⟩ = some (.int .i64 0) := fun o => (blk_cell (BA o).out 0).trans rfl
 have s1 : ∀ o, (w2.alloc o).cell? ⟨w.heap.size + 1, 1, none⟩ = some (.int .i64 0) := fun o => (blk_cell (BA o).out 1).trans rfl
 have s2 : ∀ o, (w2.alloc o).cell? ⟨w.heap.size + 1, 2, none⟩ = some (.bool false) := fun o => (blk_cell (BA o).out 2).trans rfl
 have s3 : ∀ o, (w2.alloc o).cell? ⟨w.heap.size + 1, 3, none⟩ = some (.bool false) := fun o => (blk_cell (BA o).out 3).trans rfl
 have s4 : ∀ o, (w2.alloc o).cell? ⟨w.heap.size + 1, 4, none⟩ = some (.int .i64 0) := fun o => (blk_cell (BA o).out 4).trans rfl
 have f0 : ∀ o, (w2.alloc o).frozen? ⟨w.heap.size + 1, 0, none⟩ = false := fun o => blk_frozen (BA o).out 0
 have f1 : ∀ o, (w2.alloc o).frozen? ⟨w.heap.size + 1, 1, none⟩ = false := fun o => blk_frozen (BA o).out 1
 have f2 : ∀ o, (w2.alloc o).frozen? ⟨w.heap.size + 1, 2, none⟩ = false := fun o => blk_frozen (BA o).out 2
 have f3 : ∀ o, (w2.alloc o).frozen? ⟨w.heap.size + 1, 3, none⟩ = false := fun o => blk_frozen (BA o).out 3
 have f4 : ∀ o, (w2.alloc o).frozen? ⟨w.heap.size + 1, 4, none⟩ = false := fun o => blk_frozen (BA o).out 4
 have hne : (w.heap.size + 1 == w2.heap.size) = false := beq_eq_false_iff_ne.mpr (by have := hsz.out; omega)
 clear hb HK
 go_wp2
 refine bodyPost_ret (results_cell_row rfl _ _ (w.heap.size + 1) 50 #[.int .i64 v, .int .i64 0, .bool true, .bool false, .int .i64 0] (0, 0) _ rfl ?hg Try.underlying50 rfl (by kernel_rfl)) rfl ?_
 case hg => exact (blk_put (blk_put (blk_put (blk_put (blk_put (BA _).out 0 _ rfl) 1 _ rfl) 2 _ rfl) 3 _ rfl) 4 _ rfl)
 exact ⟨rfl, (below_set (below_set (below_set (below_set (below_set (below_alloc HB2.out _) (Nat.le_succ _)) (Nat.le_succ _)) (Nat.le_succ _)) (Nat.le_succ _)) (Nat.le_succ _))⟩
theorem prog_First.calls (a0_0 : ByteArray) (a0_1 : Int) (a0_2 : Int) (a1 : Int) (r1 : Int) (r2 : Int) (r3 : Bool) (r4 : Bool) (r5 : Int) (w : World) (h : prog_First.f a0_0 a0_1 a0_2 a1 = some (r1, r2, r3, r4, r5)) :
  Calls Try.prog 20 #[.agg #[.string a0_0, .int .i64 a0_1, .int .i64 a0_2], .int .i64 a1] w fun e w' => e = .returned (.agg #[.int .i64 r1, .int .i64 r2, .bool r3, .bool r4, .int .i64 r5]) ∧ Below w.heap.size w w' := by
 unfold prog_First.f at h
 by_cases hr : 0 ≤ a1 ∧ a1 ≤ 1048576
 ·rw [if_pos hr] at h
  obtain ⟨b, hk, h⟩ := Option.bind_eq_some_iff.mp h
  have HK := fun W => prog_Known.calls 20 a0_0 b W hk
  cases b with
  | false =>
   rw [if_neg (by decide)] at h
   simp only [Option.some.injEq, Prod.mk.injEq] at h
   obtain ⟨rfl, rfl, rfl, rfl, rfl⟩ := h
   exact prog_First.w_unknown a0_0 a0_1 a0_2 a1 w HK
  | true =>
   rw [if_pos rfl] at h
   simp only [Option.some.injEq, Prod.mk.injEq] at h
   obtain ⟨rfl, rfl, rfl, rfl, rfl⟩ := h
   unfold firstV
   by_cases n0 : a0_0.toList = [109, 97, 120]
   ·rw [if_pos n0]; exact prog_First.w_max a0_0 a0_1 a0_2 a1 w HK n0 hr
   rw [if_neg n0]
   by_cases n1 : a0_0.toList = [108, 97, 98, 101, 108]
   ·rw [if_pos n1]; exact prog_First.w_label a0_0 a0_1 a0_2 a1 w HK n1
   rw [if_neg n1]
   by_cases n2 : a0_0.toList = [98, 102, 115]
   ·rw [if_pos (by rw [n2]; rfl)]
    by_cases hs : a1 = a0_1
    ·rw [if_pos hs]; exact prog_First.w_bfs_at a0_0 a0_1 a0_2 a1 w HK n2 hs
    ·rw [if_neg hs]; exact prog_First.w_bfs a0_0 a0_1 a0_2 a1 w HK n2 hs
   by_cases n3 : a0_0.toList = [115, 115, 115, 112]
   ·rw [if_pos (by rw [n3]; rfl)]
    by_cases hs : a1 = a0_1
    ·rw [if_pos hs]; exact prog_First.w_sssp_at a0_0 a0_1 a0_2 a1 w HK n3 hs
    ·rw [if_neg hs]; exact prog_First.w_sssp a0_0 a0_1 a0_2 a1 w HK n3 hs
   rw [if_neg (by simp [beq_eq_false_iff_ne.mpr n2, beq_eq_false_iff_ne.mpr n3])]
   by_cases n4 : a0_0.toList = [114, 97, 110, 107]
   ·rw [if_pos n4]; exact prog_First.w_rank a0_0 a0_1 a0_2 a1 w HK n4
   rw [if_neg n4]
   by_cases n5 : a0_0.toList = [119, 97, 108, 107, 115]
   ·rw [if_pos n5]; exact prog_First.w_walks a0_0 a0_1 a0_2 a1 w HK n5
   rw [if_neg n5]
   exact prog_First.w_else a0_0 a0_1 a0_2 a1 w HK n0 n1 n2 n3 n4 n5
 ·rw [if_neg hr] at h
  cases h
end

/-! ### seq_Start: function 12 -/
def seq_Start.l0 : Nat → List (S50) → Int → Int → ByteArray → Int → Int → Option ((List (S50)) × Int)
 | 0, _, _, _, _, _, _ => none
 | k + 1, x7, x19, x20, x113000, x113001, x113002 => if x20 < x19 then ((prog_First.f x113000 x113001 x113002 x20).bind fun bt117 => (if 0 ≤ x20 then (if x20 < (x7.length : Int) then (seq_Start.l0 k (x7.set (x20 : Int).toNat (⟨bt117.1, bt117.2.1, bt117.2.2.1, bt117.2.2.2.1, bt117.2.2.2.2⟩ : S50)) x19 (wrap64 (x20 + 1)) x113000 x113001 x113002) else (none)) else (none))) else (some (x7, 0))
def seq_Start.f (k : Nat) (a0_0 : Int) (l0_1 : List (S45)) (a1_0 : ByteArray) (a1_1 : Int) (a1_2 : Int) : Option ((List (S50)) × Int) := (prog_Check.f k a0_0 l0_1 a1_0 a1_1 a1_2).bind fun t113 => (if t113 = 0 then (if 0 ≤ a0_0 then (if (a0_0 : Int).toNat ≤ 8796093022208 then ((some (List.replicate (a0_0 : Int).toNat z50 : List (S50))).bind fun y114 => (seq_Start.l0 k y114 (y114.length : Int) 0 a1_0 a1_1 a1_2)) else (none)) else (none)) else (some (([] : List (S50)), t113)))
theorem seq_Start.mono_l : ∀ k, (∀ y0 y1 y2 y3 y4 y5, LeO (seq_Start.l0 k y0 y1 y2 y3 y4 y5) (seq_Start.l0 (k + 1) y0 y1 y2 y3 y4 y5))
 | 0 => fun _ _ _ _ _ _ r h => by simp [seq_Start.l0] at h
 | k + 1 => by
  have ih0 := seq_Start.mono_l k
  ·intro y0 y1 y2 y3 y4 y5
   unfold seq_Start.l0
   repeat' first
   | (with_reducible exact ih0 _ _ _ _ _ _)
   | (with_reducible exact prog_Check.mono _ _ _ _ _ _)
   | (with_reducible exact LeO.refl _)
   | (with_reducible exact LeO.none _)
   | (with_reducible refine LeO.ite ?_ ?_)
   | (with_reducible refine LeO.bind ?_ (fun _ => ?_))
   | exact ih0 _ _ _ _ _ _
   | exact prog_Check.mono _ _ _ _ _ _
   | exact LeO.none _
   | refine LeO.ite ?_ ?_
   | refine LeO.bind ?_ (fun _ => ?_)
theorem seq_Start.mono : ∀ a0 a1 a2 a3 a4 k, LeO (seq_Start.f k a0 a1 a2 a3 a4) (seq_Start.f (k + 1) a0 a1 a2 a3 a4) := by
 intro a0 a1 a2 a3 a4 k
 have ih0 := seq_Start.mono_l k
 unfold seq_Start.f
 repeat' first
   | (with_reducible exact ih0 _ _ _ _ _ _)
   | (with_reducible exact prog_Check.mono _ _ _ _ _ _)
   | (with_reducible exact LeO.refl _)
   | (with_reducible exact LeO.none _)
   | (with_reducible refine LeO.ite ?_ ?_)
   | (with_reducible refine LeO.bind ?_ (fun _ => ?_))
   | exact ih0 _ _ _ _ _ _
   | exact prog_Check.mono _ _ _ _ _ _
   | exact LeO.none _
   | refine LeO.ite ?_ ?_
   | refine LeO.bind ?_ (fun _ => ?_)
set_option maxHeartbeats 8000000 in
set_option maxRecDepth 100000 in
theorem seq_Start.calls (k : Nat) (a0_0 : Int) (A0_1 : Option Addr) (c0_1 : Nat) (l0_1 : List (S45)) (a1_0 : ByteArray) (a1_1 : Int) (a1_2 : Int) (r1 : List (S50)) (r2 : Int) (w : World) (hr0_1 : Kd.C k45 w A0_1 l0_1.length l0_1) (hc0_1 : l0_1.length ≤ c0_1) (h : seq_Start.f k a0_0 l0_1 a1_0 a1_1 a1_2 = some (r1, r2)) :
  Calls Try.prog 12 #[.agg #[.int .i64 a0_0, .slice A0_1 l0_1.length c0_1], .agg #[.string a1_0, .int .i64 a1_1, .int .i64 a1_2]] w fun e w' => ∃ v0_ : Value, e = .returned (.tuple #[v0_, .int .i64 r2]) ∧ Kd.R k50 50 w' w.heap.size (fun _ => True) v0_ r1 ∧ Below w.heap.size w w' := by
 have hu24 := Try.underlying24
 have hu26 := Try.underlying26
 have hu50 := Try.underlying50
 have HR0_1 := Aside0.mk hr0_1
 have HC0_1 := Aside0.mk hc0_1
 clear hr0_1 hc0_1
 have HB := Aside0.mk (Below.refl w.heap.size w)
 have H : ((prog_Check.f k a0_0 l0_1 a1_0 a1_1 a1_2).bind fun t113 => (if t113 = 0 then (if 0 ≤ a0_0 then (if (a0_0 : Int).toNat ≤ 8796093022208 then ((some (List.replicate (a0_0 : Int).toNat z50 : List (S50))).bind fun y114 => (seq_Start.l0 k y114 (y114.length : Int) 0 a1_0 a1_1 a1_2)) else (none)) else (none)) else (some (([] : List (S50)), t113)))) = some (r1, r2) := h
 clear h
 replace H := Option.bind_eq_some_iff.mp H
 obtain ⟨t113, A30, H⟩ := H
 replace H : (if t113 = 0 then (if 0 ≤ a0_0 then (if (a0_0 : Int).toNat ≤ 8796093022208 then ((some (List.replicate (a0_0 : Int).toNat z50 : List (S50))).bind fun y114 => (seq_Start.l0 k y114 (y114.length : Int) 0 a1_0 a1_1 a1_2)) else (none)) else (none)) else (some (([] : List (S50)), t113))) = some (r1, r2) := H
 have A3 := Aside0.mk A30
 clear A30
 by_cases c4 : t113 = 0
 ·rw [if_pos c4] at H
  have c4b0 : (t113 == 0) = true := beq_iff_eq.mpr c4
  have c4b1 : (t113 != 0) = false := bne_eq_false_iff_eq.mpr c4
  clear c4
  obtain ⟨c5, H⟩ := iteS2 H
  have c5b0 := eq_true c5
  have c5b1 := decide_eq_true c5
  clear c5
  obtain ⟨c6, H⟩ := iteS2 H
  have c6b0 := eq_true c6
  have c6b1 : decide ((a0_0 : Int).toNat ≤ 8796093022208) = true := decide_eq_true c6
  clear c6
  obtain ⟨y114, hy114⟩ : ∃ y_ : List (S50), y_ = (List.replicate (a0_0 : Int).toNat z50) := ⟨_, rfl⟩
  replace H : (seq_Start.l0 k y114 (y114.length : Int) 0 a1_0 a1_1 a1_2) = some (r1, r2) := by first | (rw [hy114]; with_reducible exact H) | (have H2_ := (Option.bind_some _ _).symm.trans H; rw [hy114]; with_reducible exact H2_) | (have H2_ := (Option.bind_some _ _).symm.trans H; with_reducible exact H2_) | with_reducible exact H | (rw [hy114]; exact H) | exact H
  have Ny114 := Aside0.mk hy114
  clear hy114
  have H' := Aside0.mk H
  clear H
  go_enter Try.func12, Try.ntmps12
  go_wp2_with (first | ((with_reducible refine gate_dst (N := 2) rfl ?_); refine box_event ?hg (N := 2) ?hd (cs := #[.int .i64 a0_0, .slice A0_1 l0_1.length c0_1]) (t := 24) ?hr ?_; (case hd => rfl); (case hg => rfl); (case hr => first | (go_simp; done) | (go_simp; rfl)); intro gb111 hg w7 hbox hb; have n0_ := Aside0.mk (below_step (kB HB.out) hb); have n1_ := Aside0.mk (hbox); have n2_ := Aside0.mk ((by rw [hg]; exact (below_size (kB HB.out)) : w.heap.size ≤ gb111)); have n3_ := Aside0.mk ((by rw [hg]; exact (below_size (kB HB.out)) : w.heap.size ≤ gb111)); clear HB; have HB := n0_; have BK111 := n1_; have GW111 := n2_; have GE111 := n3_; clear n0_ n1_ n2_ n3_; clear hb hbox hg) | ((with_reducible refine gate_dst (N := 3) rfl ?_); refine box_event ?hg (N := 3) ?hd (cs := #[.string a1_0, .int .i64 a1_1, .int .i64 a1_2]) (t := 26) ?hr ?_; (case hd => rfl); (case hg => rfl); (case hr => first | (go_simp; done) | (go_simp; rfl)); intro gb112 hg w8 hbox hb; have n0_ := Aside0.mk (blk_below (g := gb111) (o := .cells #[.int .i64 a0_0, .slice A0_1 l0_1.length c0_1] 24 (0, 0)) (kA BK111.out) hb); have n1_ := Aside0.mk (below_step (kB HB.out) hb); have n2_ := Aside0.mk (hbox); have n3_ := Aside0.mk ((by rw [hg]; exact (below_size (kB HB.out)) : w.heap.size ≤ gb112)); have n4_ := Aside0.mk ((by rw [hg]; exact (below_size (kB HB.out)) : w.heap.size ≤ gb112)); have n5_ := Aside0.mk ((by rw [hg]; exact Nat.ne_of_lt (blk_lt (g := gb111) (o := .cells #[.int .i64 a0_0, .slice A0_1 l0_1.length c0_1] 24 (0, 0)) (kA BK111.out)) : gb111 ≠ gb112)); have n6_ := Aside0.mk ((by rw [hg]; exact Nat.ne_of_gt (blk_lt (g := gb111) (o := .cells #[.int .i64 a0_0, .slice A0_1 l0_1.length c0_1] 24 (0, 0)) (kA BK111.out)) : gb112 ≠ gb111)); clear BK111; clear HB; have BK111 := n0_; have HB := n1_; have BK112 := n2_; have GW112 := n3_; have GE112 := n4_; have NB111_112 := n5_; have NB112_111 := n6_; clear n0_ n1_ n2_ n3_ n4_ n5_ n6_; clear hb hbox hg; have hnb9 := NB111_112.out; have hnc9 := NB112_111.out; have hcz10_0 : w8.cell? ⟨gb111, 0, none⟩ = some (.int .i64 a0_0) := (blk_cell BK111.out 0).trans rfl; have hcz10_1 : w8.cell? ⟨gb111, 1, none⟩ = some (.slice A0_1 l0_1.length c0_1) := (blk_cell BK111.out 1).trans rfl; have hfz10_0 := blk_frozen BK111.out 0; have hfz10_1 := blk_frozen BK111.out 1; have hcz11_0 : w8.cell? ⟨gb112, 0, none⟩ = some (.string a1_0) := (blk_cell BK112.out 0).trans rfl; have hcz11_1 : w8.cell? ⟨gb112, 1, none⟩ = some (.int .i64 a1_1) := (blk_cell BK112.out 1).trans rfl; have hcz11_2 : w8.cell? ⟨gb112, 2, none⟩ = some (.int .i64 a1_2) := (blk_cell BK112.out 2).trans rfl; have hfz11_0 := blk_frozen BK112.out 0; have hfz11_1 := blk_frozen BK112.out 1; have hfz11_2 := blk_frozen BK112.out 2) | ((with_reducible refine gate_callee (f := 19) rfl ?_); refine goesL_ (some 11) rfl rfl Try.func19 (by kernel_rfl) rfl #[.agg #[.int .i64 a0_0, .slice A0_1 l0_1.length c0_1], .agg #[.string a1_0, .int .i64 a1_1, .int .i64 a1_2]] rfl (by (try simp only [List.map_toArray, List.map_cons, List.map_nil]); first | done | rfl | (simp only [List.length_drop, List.length_take]; rfl)) ?_; (with_reducible refine (prog_Check.calls k a0_0 _ _ l0_1 a1_0 a1_1 a1_2 t113 _ ?side1 ?side2 A3.out).mono ?_); (case side1 => repeat (first | exact (Kd.C_below HR0_1.out HB.out) | (with_reducible refine Kd.C_alloc ?_ _) | (with_reducible refine Kd.C_drewN ?_ _) | (with_reducible refine Kd.C_drew ?_))); (case side2 => exact HC0_1.out); rintro e w12 ⟨rfl, hb⟩; refine ⟨_, rfl, ?_⟩; have n0_ := Aside0.mk (blk_below (g := gb111) (o := .cells #[.int .i64 a0_0, .slice A0_1 l0_1.length c0_1] 24 (0, 0)) (kA BK111.out) hb); have n1_ := Aside0.mk (blk_below (g := gb112) (o := .cells #[.string a1_0, .int .i64 a1_1, .int .i64 a1_2] 26 (0, 0)) (kA BK112.out) hb); have n2_ := Aside0.mk (below_step (kB HB.out) hb); clear BK111; clear BK112; clear HB; have BK111 := n0_; have BK112 := n1_; have HB := n2_; clear n0_ n1_ n2_; (try clear hb); (try clear hb2); (try clear hk); (try clear hi); have hcz13_0 : w12.cell? ⟨gb111, 0, none⟩ = some (.int .i64 a0_0) := (blk_cell BK111.out 0).trans rfl; have hcz13_1 : w12.cell? ⟨gb111, 1, none⟩ = some (.slice A0_1 l0_1.length c0_1) := (blk_cell BK111.out 1).trans rfl; have hfz13_0 := blk_frozen BK111.out 0; have hfz13_1 := blk_frozen BK111.out 1) | ((with_reducible refine gate_dst (N := 17) rfl ?_); refine Kd.R_make k50 _ 50 rfl (N := 17) rfl 28 _ _ rfl a0_0 rfl rfl Try.underlying28 (.agg #[(.int .i64 0), (.int .i64 0), (.bool false), (.bool false), (.int .i64 0)]) 32 info50 rfl (by decide) (by omega) z50 (ok := fun _ => True) (okp := fun _ => True) (k50_mkM _ _ _ z50 ) (fun _ hk => hk) trivial (of_decide_eq_true (by first | (with_reducible assumption) | assumption)) (Nat.le_trans (Nat.mul_le_mul_right _ (of_decide_eq_true (by first | (with_reducible assumption) | assumption) : a0_0.toNat ≤ 8796093022208)) (by omega)) (Below.refl _ _) (Nat.le_refl _) ?_; intro v115 w14 ho15 hb hg_ hnew_; clear hg_ hnew_; (first | rw [← Ny114.out] at ho15 | (simp only [Int.reduceToNat] at ho15; rw [← Ny114.out] at ho15)); have n0_ := Aside0.mk (Kd.R_lower ho15 (below_size (kB HB.out))); have n1_ := Aside0.mk (blk_below (g := gb111) (o := .cells #[.int .i64 a0_0, .slice A0_1 l0_1.length c0_1] 24 (0, 0)) (kA BK111.out) hb); have n2_ := Aside0.mk (blk_below (g := gb112) (o := .cells #[.string a1_0, .int .i64 a1_1, .int .i64 a1_2] 26 (0, 0)) (kA BK112.out) hb); have n3_ := Aside0.mk (below_step (kB HB.out) hb); clear BK111; clear BK112; clear HB; have HO116 := n0_; have BK111 := n1_; have BK112 := n2_; have HB := n3_; clear n0_ n1_ n2_ n3_; clear hb ho15; obtain ⟨Ao16, co16, eo16⟩ := Kd.R_slice HO116.out; subst eo16))
  go_loopg [20] k (fun kq v20 w' => ∃ (x7_1 : List (S50)) (x20_1 : Int), v20 = .int .i64 x20_1 ∧ Aside0 (seq_Start.l0 kq x7_1 (y114.length : Int) x20_1 a1_0 a1_1 a1_2 = some (r1, r2)) ∧ Aside0 (kq ≤ k) ∧ Aside0 (Kd.R k50 50 w' w.heap.size (fun _ => True) (.slice Ao16 y114.length co16) x7_1) ∧ Aside0 (w'.heap[gb111]? = some (.cells #[.int .i64 a0_0, (.slice A0_1 l0_1.length c0_1)] 24 (0, 0))) ∧ Aside0 (w'.heap[gb112]? = some (.cells #[.string a1_0, .int .i64 a1_1, .int .i64 a1_2] 26 (0, 0))) ∧ Aside0 (Below w.heap.size w w'))
  case atStart => exact ⟨(y114), (0), (by first | rfl | (simp; done) | (simp [*]; done)), H', ⟨Nat.le_refl _⟩, ⟨kR HO116.out⟩, ⟨kA BK111.out⟩, ⟨kA BK112.out⟩, ⟨kB HB.out⟩⟩
  case round =>
   clear H'
   try clear c1
   try clear p2
   try clear c4
   try clear c4b0
   try clear c4b1
   try clear c5
   try clear c5b0
   try clear c5b1
   try clear c6
   try clear c6b0
   try clear c6b1
   try clear c9
   try clear c12
   try clear hcz10_0
   try clear hcz10_1
   try clear hcz11_0
   try clear hcz11_1
   try clear hcz11_2
   try clear hcz13_0
   try clear hcz13_1
   try clear hfz10_0
   try clear hfz10_1
   try clear hfz11_0
   try clear hfz11_1
   try clear hfz11_2
   try clear hfz13_0
   try clear hfz13_1
   obtain ⟨x7_1, x20_1, rfl, HA, HK1, HO_7, BK111, BK112, HB⟩ := hrel
   have hl7_1 := (Kd.R_reads' HO_7.out).1
   rw [hl7_1] at HO_7
   (try simp only [hl7_1])
   (try simp only [hl7_1] at BK111)
   (try simp only [hl7_1] at BK112)
   cases gk with
   | zero => exact absurd HA.out (by simp [seq_Start.l0])
   | succ k1 =>
    have H := HA.out
    clear HA
    simp only [seq_Start.l0] at H
    by_cases c17 : x20_1 < (y114.length : Int)
    ·rw [if_pos c17] at H
     have c17b0 := decide_eq_true c17
     clear c17
     replace H := Option.bind_eq_some_iff.mp H
     obtain ⟨⟨t117, t118, t119, t120, t121⟩, A180, H⟩ := H
     replace H : (if 0 ≤ x20_1 then (if x20_1 < (x7_1.length : Int) then (seq_Start.l0 k1 (x7_1.set (x20_1 : Int).toNat (⟨t117, t118, t119, t120, t121⟩ : S50)) (y114.length : Int) (wrap64 (x20_1 + 1)) a1_0 a1_1 a1_2) else (none)) else (none)) = some (r1, r2) := H
     have A18 := Aside0.mk A180
     clear A180
     obtain ⟨c19, H⟩ := iteS2 H
     have c19b0 := decide_eq_true c19
     clear c19
     obtain ⟨c20, H⟩ := iteS2 H
     have c20b0 := decide_eq_true c20
     clear c20
     obtain ⟨y122, hy122⟩ : ∃ y_ : List (S50), y_ = (x7_1.set (x20_1 : Int).toNat (⟨t117, t118, t119, t120, t121⟩ : S50)) := ⟨_, rfl⟩
     replace H : (seq_Start.l0 k1 y122 (y114.length : Int) (wrap64 (x20_1 + 1)) a1_0 a1_1 a1_2) = some (r1, r2) := by first | (rw [hy122]; with_reducible exact H) | (have H2_ := (Option.bind_some _ _).symm.trans H; rw [hy122]; with_reducible exact H2_) | (have H2_ := (Option.bind_some _ _).symm.trans H; with_reducible exact H2_) | with_reducible exact H | (rw [hy122]; exact H) | exact H
     have Ny122 := Aside0.mk hy122
     clear hy122
     have H' := Aside0.mk H
     clear H
     have hnb22 := NB112_111.out
     have hnc22 := NB111_112.out
     have hcz23_0 : wr.cell? ⟨gb112, 0, none⟩ = some (.string a1_0) := (blk_cell BK112.out 0).trans rfl
     have hcz23_1 : wr.cell? ⟨gb112, 1, none⟩ = some (.int .i64 a1_1) := (blk_cell BK112.out 1).trans rfl
     have hcz23_2 : wr.cell? ⟨gb112, 2, none⟩ = some (.int .i64 a1_2) := (blk_cell BK112.out 2).trans rfl
     have hfz23_0 := blk_frozen BK112.out 0
     have hfz23_1 := blk_frozen BK112.out 1
     have hfz23_2 := blk_frozen BK112.out 2
     go_wp2_with (first | ((with_reducible refine gate_callee (f := 20) rfl ?_); refine goesL_ (some 27) rfl rfl Try.func20 (by kernel_rfl) rfl #[.agg #[.string a1_0, .int .i64 a1_1, .int .i64 a1_2], .int .i64 x20_1] rfl (by (try simp only [List.map_toArray, List.map_cons, List.map_nil]); first | done | rfl | (simp only [List.length_drop, List.length_take]; rfl)) ?_; (with_reducible refine (prog_First.calls a1_0 a1_1 a1_2 x20_1 t117 t118 t119 t120 t121 _ A18.out).mono ?_); rintro e w24 ⟨rfl, hb⟩; refine ⟨_, rfl, ?_⟩; have n0_ := Aside0.mk (Kd.R_below (kR HO_7.out) hb); have n1_ := Aside0.mk (blk_below (g := gb111) (o := .cells #[.int .i64 a0_0, .slice A0_1 l0_1.length c0_1] 24 (0, 0)) (kA BK111.out) hb); have n2_ := Aside0.mk (blk_below (g := gb112) (o := .cells #[.string a1_0, .int .i64 a1_1, .int .i64 a1_2] 26 (0, 0)) (kA BK112.out) hb); have n3_ := Aside0.mk (below_step (kB HB.out) hb); clear HO_7; clear BK111; clear BK112; clear HB; have HO_7 := n0_; have BK111 := n1_; have BK112 := n2_; have HB := n3_; clear n0_ n1_ n2_ n3_; (try clear hb); (try clear hb2); (try clear hk); (try clear hi); have p21 : 0 ≤ (x20_1 : Int) := of_decide_eq_true (by first | (with_reducible assumption) | assumption); have q21 : (x20_1 : Int) < ((x7_1.length : Int) : Int) := of_decide_eq_true (by first | (with_reducible assumption) | assumption); obtain ⟨go21, co21, eo21, gb21, gl21, cl21, HG21⟩ := Kd.R_form HO_7.out (by omega); (first | cases eo21 | (injection eo21 with ea_ en_ ec_; (first | subst ea_ | (injection ea_ with ea_; subst ea_)); subst ec_; clear en_)); have GB21 := Aside0.mk gb21; have GG21 := Aside0.mk HG21; clear gb21 gl21 HG21; obtain ⟨ce21, hcl21, hM21, hcc21, hfr21⟩ := Kd.R_elem HO_7.out z50 (x20_1 : Int) p21 q21; obtain rfl := k50_openM hM21; have hx21_0 : w24.cell? ⟨go21, (x20_1 : Int).toNat * 5, none⟩ = some (.int .i64 ((rd_T50 x7_1 x20_1).f0)) := hcc21 0 _ rfl; have hx21_1 : w24.cell? ⟨go21, (x20_1 : Int).toNat * 5 + 1, none⟩ = some (.int .i64 ((rd_T50 x7_1 x20_1).f1)) := hcc21 1 _ rfl; have hx21_2 : w24.cell? ⟨go21, (x20_1 : Int).toNat * 5 + 2, none⟩ = some (.bool ((rd_T50 x7_1 x20_1).f2)) := hcc21 2 _ rfl; have hx21_3 : w24.cell? ⟨go21, (x20_1 : Int).toNat * 5 + 3, none⟩ = some (.bool ((rd_T50 x7_1 x20_1).f3)) := hcc21 3 _ rfl; have hx21_4 : w24.cell? ⟨go21, (x20_1 : Int).toNat * 5 + 4, none⟩ = some (.int .i64 ((rd_T50 x7_1 x20_1).f4)) := hcc21 4 _ rfl; have hf21_0 : w24.frozen? ⟨go21, (x20_1 : Int).toNat * 5, none⟩ = false := hfr21 0; have hf21_1 : w24.frozen? ⟨go21, (x20_1 : Int).toNat * 5 + 1, none⟩ = false := hfr21 1; have hf21_2 : w24.frozen? ⟨go21, (x20_1 : Int).toNat * 5 + 2, none⟩ = false := hfr21 2; have hf21_3 : w24.frozen? ⟨go21, (x20_1 : Int).toNat * 5 + 3, none⟩ = false := hfr21 3; have hf21_4 : w24.frozen? ⟨go21, (x20_1 : Int).toNat * 5 + 4, none⟩ = false := hfr21 4; clear hcl21 hcc21 hfr21 hM21; replace p21 := eq_true p21; replace q21 := eq_true q21; have HX25 := Aside0.mk (show Kd.R k50 50 w24 w.heap.size (fun _ => True) (.slice (some ⟨go21, 0, none⟩) x7_1.length co16) x7_1 from (kR HO_7.out)); obtain ⟨ce25, hcl25, hM25, hcc25, hfr25⟩ := Kd.R_elem HX25.out z50 (x20_1 : Int) (of_decide_eq_true (by first | (with_reducible assumption) | assumption)) (by have h_ : (x20_1 : Int) < ((x7_1.length : Int) : Int) := of_decide_eq_true (by first | (with_reducible assumption) | assumption); first | exact h_ | (have e_ := (Kd.R_reads' HO_7.out).1; omega) | simpa using h_); obtain rfl := k50_openM hM25; have HP25 := Kd.R_seg HX25.out (x20_1 : Int) (of_decide_eq_true (by first | (with_reducible assumption) | assumption)) (by have h_ : (x20_1 : Int) < ((x7_1.length : Int) : Int) := of_decide_eq_true (by first | (with_reducible assumption) | assumption); first | exact h_ | (have e_ := (Kd.R_reads' HO_7.out).1; omega) | simpa using h_) (seg := [.int .i64 t117, .int .i64 t118, .bool t119, .bool t120, .int .i64 t121]) (j := 0) hcl25 hcc25 (show 5 ≤ 5 from by decide) (x' := (⟨t117, t118, t119, t120, t121⟩ : S50)) (k50_mkM _ _ _ (⟨t117, t118, t119, t120, t121⟩ : S50) ) (fun _ hk => hk); have hx25_0 := hcc25 0 _ rfl; (try simp only [show (k50).sz = 5 from rfl, Nat.mul_one, Nat.add_zero] at hx25_0); have hf25_0 := hfr25 0; (try simp only [show (k50).sz = 5 from rfl, Nat.mul_one, Nat.add_zero] at hf25_0); have hx25_1 := hcc25 1 _ rfl; (try simp only [show (k50).sz = 5 from rfl, Nat.mul_one, Nat.add_zero] at hx25_1); have hf25_1 := hfr25 1; (try simp only [show (k50).sz = 5 from rfl, Nat.mul_one, Nat.add_zero] at hf25_1); have hx25_2 := hcc25 2 _ rfl; (try simp only [show (k50).sz = 5 from rfl, Nat.mul_one, Nat.add_zero] at hx25_2); have hf25_2 := hfr25 2; (try simp only [show (k50).sz = 5 from rfl, Nat.mul_one, Nat.add_zero] at hf25_2); have hx25_3 := hcc25 3 _ rfl; (try simp only [show (k50).sz = 5 from rfl, Nat.mul_one, Nat.add_zero] at hx25_3); have hf25_3 := hfr25 3; (try simp only [show (k50).sz = 5 from rfl, Nat.mul_one, Nat.add_zero] at hf25_3); have hx25_4 := hcc25 4 _ rfl; (try simp only [show (k50).sz = 5 from rfl, Nat.mul_one, Nat.add_zero] at hx25_4); have hf25_4 := hfr25 4; (try simp only [show (k50).sz = 5 from rfl, Nat.mul_one, Nat.add_zero] at hf25_4); clear hcl25 hcc25 hfr25 hM25) | ((with_reducible refine gate_store (t := 50) (p := 28) rfl ?_); refine store_event (t := 50) (p := 28) (v := ?vo_w26) (w1 := (((((w24.setCell ⟨go21, (x20_1 : Int).toNat * 5, none⟩ (.int .i64 t117)).setCell ⟨go21, (x20_1 : Int).toNat * 5 + 1, none⟩ (.int .i64 t118)).setCell ⟨go21, (x20_1 : Int).toNat * 5 + 2, none⟩ (.bool t119)).setCell ⟨go21, (x20_1 : Int).toNat * 5 + 3, none⟩ (.bool t120)).setCell ⟨go21, (x20_1 : Int).toNat * 5 + 4, none⟩ (.int .i64 t121))) ?hg ?ho ?hn ?hr ?_; (case ho => rfl); (case hg => rfl); (case hn => rfl); (case hr => first | (go_simp; done) | (go_simp; rfl)); intro w26 hw; have hg : w24.grownBy w26 (some go21) := (by rw [hw]; exact HP25.2); have hp_ : Kd.R k50 50 w26 w.heap.size (fun _ => True) (.slice (some ⟨go21, 0, none⟩) x7_1.length co16) y122 := (by rw [hw, Ny122.out]; exact HP25.1); clear HP25; have n0_ := Aside0.mk (hp_); have n1_ := Aside0.mk (blk_grown (g := gb111) (o := .cells #[.int .i64 a0_0, .slice A0_1 l0_1.length c0_1] 24 (0, 0)) (kA BK111.out) hg (Kd.R_ne HO_7.out BK111.out (by decide))); have n2_ := Aside0.mk (blk_grown (g := gb112) (o := .cells #[.string a1_0, .int .i64 a1_1, .int .i64 a1_2] 26 (0, 0)) (kA BK112.out) hg (Kd.R_ne HO_7.out BK112.out (by decide))); have n3_ := Aside0.mk ((by rw [hw]; exact below_set (below_set (below_set (below_set (below_set (HB.out) GB21.out) GB21.out) GB21.out) GB21.out) GB21.out : Below w.heap.size w w26)); clear HO_7; clear BK111; clear BK112; clear HB; have HO_7 := n0_; have BK111 := n1_; have BK112 := n2_; have HB := n3_; clear n0_ n1_ n2_ n3_; clear hg hw hp_))
     (try simp only [← hl7_1])
     go_roundg k1
     case measure => have := HK1.out; omega
     case rel => exact ⟨(y122), (wrap64 (x20_1 + 1)), (by first | rfl | (simp; done) | (simp [*]; done)), H', ⟨by have := HK1.out; omega⟩, ⟨by (try simp only [hl7_1]); exact kR HO_7.out⟩, ⟨by (try simp only [hl7_1]); exact kA BK111.out⟩, ⟨by (try simp only [hl7_1]); exact kA BK112.out⟩, ⟨kB HB.out⟩⟩
    ·rw [if_neg c17] at H
     have c17b0 := decide_eq_false c17
     have c17z : decide (x20_1 < (x7_1.length : Int)) = false := decide_eq_false (by omega)
     clear c17
     simp only [Option.some.injEq, Prod.mk.injEq] at H
     obtain ⟨rfl, rfl⟩ := H
     go_wp2
     go_ret2
     exact ⟨_, by first | rfl | (simp [errW_none, errW_some] <;> rfl) | (simp [*, errW_none, errW_some] <;> rfl), by exact kR HO_7.out, by exact kB HB.out⟩
 ·rw [if_neg c4] at H
  have c4b0 : (t113 == 0) = false := beq_eq_false_iff_ne.mpr c4
  have c4b1 : (t113 != 0) = true := bne_iff_ne.mpr c4
  simp only [Option.some.injEq, Prod.mk.injEq] at H
  obtain ⟨rfl, rfl⟩ := H
  go_enter Try.func12, Try.ntmps12
  go_wp2_with (first | ((with_reducible refine gate_dst (N := 2) rfl ?_); refine box_event ?hg (N := 2) ?hd (cs := #[.int .i64 a0_0, .slice A0_1 l0_1.length c0_1]) (t := 24) ?hr ?_; (case hd => rfl); (case hg => rfl); (case hr => first | (go_simp; done) | (go_simp; rfl)); intro gb111 hg w27 hbox hb; have n0_ := Aside0.mk (below_step (kB HB.out) hb); have n1_ := Aside0.mk (hbox); have n2_ := Aside0.mk ((by rw [hg]; exact (below_size (kB HB.out)) : w.heap.size ≤ gb111)); have n3_ := Aside0.mk ((by rw [hg]; exact (below_size (kB HB.out)) : w.heap.size ≤ gb111)); clear HB; have HB := n0_; have BK111 := n1_; have GW111 := n2_; have GE111 := n3_; clear n0_ n1_ n2_ n3_; clear hb hbox hg) | ((with_reducible refine gate_dst (N := 3) rfl ?_); refine box_event ?hg (N := 3) ?hd (cs := #[.string a1_0, .int .i64 a1_1, .int .i64 a1_2]) (t := 26) ?hr ?_; (case hd => rfl); (case hg => rfl); (case hr => first | (go_simp; done) | (go_simp; rfl)); intro gb112 hg w28 hbox hb; have n0_ := Aside0.mk (blk_below (g := gb111) (o := .cells #[.int .i64 a0_0, .slice A0_1 l0_1.length c0_1] 24 (0, 0)) (kA BK111.out) hb); have n1_ := Aside0.mk (below_step (kB HB.out) hb); have n2_ := Aside0.mk (hbox); have n3_ := Aside0.mk ((by rw [hg]; exact (below_size (kB HB.out)) : w.heap.size ≤ gb112)); have n4_ := Aside0.mk ((by rw [hg]; exact (below_size (kB HB.out)) : w.heap.size ≤ gb112)); have n5_ := Aside0.mk ((by rw [hg]; exact Nat.ne_of_lt (blk_lt (g := gb111) (o := .cells #[.int .i64 a0_0, .slice A0_1 l0_1.length c0_1] 24 (0, 0)) (kA BK111.out)) : gb111 ≠ gb112)); have n6_ := Aside0.mk ((by rw [hg]; exact Nat.ne_of_gt (blk_lt (g := gb111) (o := .cells #[.int .i64 a0_0, .slice A0_1 l0_1.length c0_1] 24 (0, 0)) (kA BK111.out)) : gb112 ≠ gb111)); clear BK111; clear HB; have BK111 := n0_; have HB := n1_; have BK112 := n2_; have GW112 := n3_; have GE112 := n4_; have NB111_112 := n5_; have NB112_111 := n6_; clear n0_ n1_ n2_ n3_ n4_ n5_ n6_; clear hb hbox hg; have hnb29 := NB111_112.out; have hnc29 := NB112_111.out; have hcz30_0 : w28.cell? ⟨gb111, 0, none⟩ = some (.int .i64 a0_0) := (blk_cell BK111.out 0).trans rfl; have hcz30_1 : w28.cell? ⟨gb111, 1, none⟩ = some (.slice A0_1 l0_1.length c0_1) := (blk_cell BK111.out 1).trans rfl; have hfz30_0 := blk_frozen BK111.out 0; have hfz30_1 := blk_frozen BK111.out 1; have hcz31_0 : w28.cell? ⟨gb112, 0, none⟩ = some (.string a1_0) := (blk_cell BK112.out 0).trans rfl; have hcz31_1 : w28.cell? ⟨gb112, 1, none⟩ = some (.int .i64 a1_1) := (blk_cell BK112.out 1).trans rfl; have hcz31_2 : w28.cell? ⟨gb112, 2, none⟩ = some (.int .i64 a1_2) := (blk_cell BK112.out 2).trans rfl; have hfz31_0 := blk_frozen BK112.out 0; have hfz31_1 := blk_frozen BK112.out 1; have hfz31_2 := blk_frozen BK112.out 2) | ((with_reducible refine gate_callee (f := 19) rfl ?_); refine goesL_ (some 11) rfl rfl Try.func19 (by kernel_rfl) rfl #[.agg #[.int .i64 a0_0, .slice A0_1 l0_1.length c0_1], .agg #[.string a1_0, .int .i64 a1_1, .int .i64 a1_2]] rfl (by (try simp only [List.map_toArray, List.map_cons, List.map_nil]); first | done | rfl | (simp only [List.length_drop, List.length_take]; rfl)) ?_; (with_reducible refine (prog_Check.calls k a0_0 _ _ l0_1 a1_0 a1_1 a1_2 t113 _ ?side1 ?side2 A3.out).mono ?_); (case side1 => repeat (first | exact (Kd.C_below HR0_1.out HB.out) | (with_reducible refine Kd.C_alloc ?_ _) | (with_reducible refine Kd.C_drewN ?_ _) | (with_reducible refine Kd.C_drew ?_))); (case side2 => exact HC0_1.out); rintro e w32 ⟨rfl, hb⟩; refine ⟨_, rfl, ?_⟩; have n0_ := Aside0.mk (blk_below (g := gb111) (o := .cells #[.int .i64 a0_0, .slice A0_1 l0_1.length c0_1] 24 (0, 0)) (kA BK111.out) hb); have n1_ := Aside0.mk (blk_below (g := gb112) (o := .cells #[.string a1_0, .int .i64 a1_1, .int .i64 a1_2] 26 (0, 0)) (kA BK112.out) hb); have n2_ := Aside0.mk (below_step (kB HB.out) hb); clear BK111; clear BK112; clear HB; have BK111 := n0_; have BK112 := n1_; have HB := n2_; clear n0_ n1_ n2_; (try clear hb); (try clear hb2); (try clear hk); (try clear hi)))
  go_ret2
  exact ⟨_, by first | rfl | (simp [errW_none, errW_some] <;> rfl) | (simp [*, errW_none, errW_some] <;> rfl), by first | exact Kd.R_nil _ _ _ _ _ | exact Kd.N_nil _ _ _ _ _ | exact Kd.V_nil _ _ _ _ _ | exact Kd.Q_nil _ _ _ _ _ | exact Kd.S_nil _ _ _ _ _, by exact kB HB.out⟩

end Go.Proofs.Ytpndhkeoljoapaa.P
