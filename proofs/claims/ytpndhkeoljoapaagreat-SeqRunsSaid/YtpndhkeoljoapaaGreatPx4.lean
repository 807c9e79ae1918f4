/- What these Go functions compute, as Lean functions, and that they do. No condition. -/
import Derived.Test.YtpndhkeoljoapaaGreatPx0
import Derived.Test.YtpndhkeoljoapaaGreatPx3
namespace Go.Proofs.YtpndhkeoljoapaaGreat.P
open Go.RowKit Go.Proofs.YtpndhkeoljoapaaGreatW.PrintWords Go.Proofs.YtpndhkeoljoapaaGreatW.PrintLast Go.Proofs.YtpndhkeoljoapaaGreatW.PrintMore
attribute [local go_sem] max2_int min2_int max_two min_two max_three min_three max_four min_four   -- for this text's walks alone
set_option linter.unusedVariables false
set_option linter.unusedSimpArgs false
set_option linter.unnecessarySimpa false

/-! ### slices_Contains_string_string: function 62 -/
def slices_Contains_string_string.f (k : Nat) (l0 : List ByteArray) (a1 : ByteArray) : Option (Bool) := (slices_Index_string_string.f k l0 a1).bind fun t102 => (some (decide (t102 ≥ 0)))
theorem slices_Contains_string_string.mono : ∀ a0 a1 k, LeO (slices_Contains_string_string.f k a0 a1) (slices_Contains_string_string.f (k + 1) a0 a1) := by
 intro a0 a1 k
 unfold slices_Contains_string_string.f
 repeat' first
   | (with_reducible exact slices_Index_string_string.mono _ _ _)
   | (with_reducible exact LeO.refl _)
   | (with_reducible exact LeO.none _)
   | (with_reducible refine LeO.ite ?_ ?_)
   | (with_reducible refine LeO.bind ?_ (fun _ => ?_))
   | exact slices_Index_string_string.mono _ _ _
   | exact LeO.none _
   | refine LeO.ite ?_ ?_
   | refine LeO.bind ?_ (fun _ => ?_)
set_option maxHeartbeats 8000000 in
set_option maxRecDepth 100000 in
theorem slices_Contains_string_string.calls (k : Nat) (A0 : Option Addr) (c0 : Nat) (l0 : List ByteArray) (a1 : ByteArray) (r : Bool) (w : World) (hr0 : Kd.C Kd.string w A0 l0.length l0) (hc0 : l0.length ≤ c0) (h : slices_Contains_string_string.f k l0 a1 = some r) :
  Calls Tryz.prog 62 #[.slice A0 l0.length c0, .string a1] w fun e w' => e = .returned (.bool r) ∧ Drawn0 w w' := by
 have HR0 := Aside0.mk hr0
 have HC0 := Aside0.mk hc0
 clear hr0 hc0
 have H : ((slices_Index_string_string.f k l0 a1).bind fun t102 => (some (decide (t102 ≥ 0)))) = some r := h
 clear h
 replace H := Option.bind_eq_some_iff.mp H
 obtain ⟨t102, A30, H⟩ := H
 replace H : (some (decide (t102 ≥ 0))) = some r := H
 have A3 := Aside0.mk A30
 clear A30
 obtain rfl := Option.some.inj H
 go_enter Tryz.func62, Tryz.ntmps62
 go_wp2_with (first | ((with_reducible refine gate_callee (f := 81) rfl ?_); refine gL_ (some 7) Tryz.func81 #[.slice A0 l0.length c0, .string a1] ?_; (with_reducible refine (slices_Index_string_string.calls k _ _ l0 a1 t102 _ ?z1 ?z2 A3.out).mono ?_); (case z1 => repeat (first | exact HR0.out | (with_reducible refine Kd.C_alloc ?_ _) | (with_reducible refine Kd.C_drewN ?_ _) | (with_reducible refine Kd.C_drew ?_))); (case z2 => exact HC0.out); rintro e w' ⟨rfl, ⟨nd, rfl⟩⟩; refine ⟨_, rfl, ?_⟩))
 go_ret
 exact ⟨by first | rfl | (simp; done) | (simp [*]; done), by repeat (first | exact Drawn0.refl _ | apply Drawn0.step)⟩

/-! ### prog_Known: function 40 -/
def prog_Known.f (k : Nat) (a0 : ByteArray) : Option (Bool) := (slices_Contains_string_string.f k (([(⟨#[109, 97, 120]⟩ : ByteArray), (⟨#[108, 97, 98, 101, 108]⟩ : ByteArray), (⟨#[115, 115, 115, 112]⟩ : ByteArray), (⟨#[98, 102, 115]⟩ : ByteArray), (⟨#[100, 101, 103, 114, 101, 101]⟩ : ByteArray), (⟨#[114, 97, 110, 107]⟩ : ByteArray), (⟨#[119, 97, 108, 107, 115]⟩ : ByteArray)] : List ByteArray)) a0).bind fun t106 => (some t106)
theorem prog_Known.mono : ∀ a0 k, LeO (prog_Known.f k a0) (prog_Known.f (k + 1) a0) := by
 intro a0 k
 unfold prog_Known.f
 repeat' first
   | (with_reducible exact slices_Contains_string_string.mono _ _ _)
   | (with_reducible exact LeO.refl _)
   | (with_reducible exact LeO.none _)
   | (with_reducible refine LeO.ite ?_ ?_)
   | (with_reducible refine LeO.bind ?_ (fun _ => ?_))
   | exact slices_Contains_string_string.mono _ _ _
   | exact LeO.none _
   | refine LeO.ite ?_ ?_
   | refine LeO.bind ?_ (fun _ => ?_)
set_option maxHeartbeats 8000000 in
set_option maxRecDepth 100000 in
theorem prog_Known.calls (k : Nat) (a0 : ByteArray) (r : Bool) (w : World) (h : prog_Known.f k a0 = some r) :
  Calls Tryz.prog 40 #[.string a0] w fun e w' => e = .returned (.bool r) ∧ Below w.heap.size w w' := by
 have HB := Aside0.mk (Below.refl w.heap.size w)
 have H : ((slices_Contains_string_string.f k (([(⟨#[109, 97, 120]⟩ : ByteArray), (⟨#[108, 97, 98, 101, 108]⟩ : ByteArray), (⟨#[115, 115, 115, 112]⟩ : ByteArray), (⟨#[98, 102, 115]⟩ : ByteArray), (⟨#[100, 101, 103, 114, 101, 101]⟩ : ByteArray), (⟨#[114, 97, 110, 107]⟩ : ByteArray), (⟨#[119, 97, 108, 107, 115]⟩ : ByteArray)] : List ByteArray)) a0).bind fun t106 => (some t106)) = some r := h
 clear h
 obtain ⟨y103, hy103⟩ : ∃ y_ : List ByteArray, y_ = (([(⟨#[109, 97, 120]⟩ : ByteArray), (⟨#[108, 97, 98, 101, 108]⟩ : ByteArray), (⟨#[115, 115, 115, 112]⟩ : ByteArray), (⟨#[98, 102, 115]⟩ : ByteArray), (⟨#[100, 101, 103, 114, 101, 101]⟩ : ByteArray), (⟨#[114, 97, 110, 107]⟩ : ByteArray), (⟨#[119, 97, 108, 107, 115]⟩ : ByteArray)] : List ByteArray)) := ⟨_, rfl⟩
 replace H : ((slices_Contains_string_string.f k y103 a0).bind fun t106 => (some t106)) = some r := by first | (rw [hy103]; with_reducible exact H) | (have H2_ := (Option.bind_some _ _).symm.trans H; rw [hy103]; with_reducible exact H2_) | (have H2_ := (Option.bind_some _ _).symm.trans H; with_reducible exact H2_) | with_reducible exact H | (rw [hy103]; exact H) | exact H
 have Ny103 := Aside0.mk hy103
 clear hy103
 replace H := Option.bind_eq_some_iff.mp H
 obtain ⟨t106, A20, H⟩ := H
 replace H : (some t106) = some r := H
 have A2 := Aside0.mk A20
 clear A20
 obtain rfl := Option.some.inj H
 go_enter Tryz.func40, Tryz.ntmps40
 go_wp2_with (first | ((with_reducible refine gate_dst (N := 3) rfl ?_); refine Kd.R_lit Kd.string _ 9 ?hg (N := 3) ?hd (xs := ([(⟨#[109, 97, 120]⟩ : ByteArray), (⟨#[108, 97, 98, 101, 108]⟩ : ByteArray), (⟨#[115, 115, 115, 112]⟩ : ByteArray), (⟨#[98, 102, 115]⟩ : ByteArray), (⟨#[100, 101, 103, 114, 101, 101]⟩ : ByteArray), (⟨#[114, 97, 110, 107]⟩ : ByteArray), (⟨#[119, 97, 108, 107, 115]⟩ : ByteArray)] : List ByteArray)) (inner := [.string (⟨#[109, 97, 120]⟩ : ByteArray), .string (⟨#[108, 97, 98, 101, 108]⟩ : ByteArray), .string (⟨#[115, 115, 115, 112]⟩ : ByteArray), .string (⟨#[98, 102, 115]⟩ : ByteArray), .string (⟨#[100, 101, 103, 114, 101, 101]⟩ : ByteArray), .string (⟨#[114, 97, 110, 107]⟩ : ByteArray), .string (⟨#[119, 97, 108, 107, 115]⟩ : ByteArray)]) (ok := fun _ => True) (okp := fun _ => True) ?hr ?hp (fun _ hk => hk) trivial (Below.refl _ _) (Nat.le_refl _) (by simp) ?_; (case hd => rfl); (case hg => rfl); (case hr => first | (go_simp; done) | (go_simp; rfl)); (case hp => exact (Reps.one (show Kd.M Kd.string _ _ _ (⟨#[109, 97, 120]⟩ : ByteArray) [.string (⟨#[109, 97, 120]⟩ : ByteArray)] from rfl) (Reps.one (show Kd.M Kd.string _ _ _ (⟨#[108, 97, 98, 101, 108]⟩ : ByteArray) [.string (⟨#[108, 97, 98, 101, 108]⟩ : ByteArray)] from rfl) (Reps.one (show Kd.M Kd.string _ _ _ (⟨#[115, 115, 115, 112]⟩ : ByteArray) [.string (⟨#[115, 115, 115, 112]⟩ : ByteArray)] from rfl) (Reps.one (show Kd.M Kd.string _ _ _ (⟨#[98, 102, 115]⟩ : ByteArray) [.string (⟨#[98, 102, 115]⟩ : ByteArray)] from rfl) (Reps.one (show Kd.M Kd.string _ _ _ (⟨#[100, 101, 103, 114, 101, 101]⟩ : ByteArray) [.string (⟨#[100, 101, 103, 114, 101, 101]⟩ : ByteArray)] from rfl) (Reps.one (show Kd.M Kd.string _ _ _ (⟨#[114, 97, 110, 107]⟩ : ByteArray) [.string (⟨#[114, 97, 110, 107]⟩ : ByteArray)] from rfl) (Reps.one (show Kd.M Kd.string _ _ _ (⟨#[119, 97, 108, 107, 115]⟩ : ByteArray) [.string (⟨#[119, 97, 108, 107, 115]⟩ : ByteArray)] from rfl) (Reps.none _ _))))))))); intro v104 w3 ho4 hb hg_ hnew_; clear hg_ hnew_; (first | rw [← Ny103.out] at ho4 | (simp only [Int.reduceToNat] at ho4; rw [← Ny103.out] at ho4)); have HO105 := lS ho4 HB; replace HB := bS HB hb; clear hb ho4; obtain ⟨Ao5, co5, eo5⟩ := Kd.R_slice HO105.out; subst eo5) | ((with_reducible refine gate_callee (f := 62) rfl ?_); refine gL_ (some 5) Tryz.func62 #[.slice Ao5 y103.length co5, .string a0] ?_; (with_reducible refine (slices_Contains_string_string.calls k _ _ y103 a0 t106 _ ?z1 ?z2 A2.out).mono ?_); (case z1 => exact kD (Kd.R_reads' HO105.out).2.2); (case z2 => exact (Kd.R_reads' HO105.out).2.1); rintro e w' ⟨rfl, ⟨nd, rfl⟩⟩; refine ⟨_, rfl, ?_⟩))
 go_ret
 exact ⟨by first | rfl | (simp [errW_none, errW_some] <;> rfl) | (simp [*, errW_none, errW_some] <;> rfl), by exact kB HB.out⟩

/-! ### prog_Check: function 21 -/
def prog_Check.f (k : Nat) (a0_0 : Int) (l0_1 : List (S48)) (a1_0 : ByteArray) (a1_1 : Int) (a1_2 : Int) : Option (Int) := (graph_Check.f a0_0 l0_1).bind fun t109 => (if t109 = 0 then ((prog_Known.f k a1_0).bind fun t110 => (if t110 = true then (if a1_1 < 0 then (some 70) else (if a1_1 ≥ a0_0 then (some 70) else (if a1_2 < 1 then (some 70) else (if a1_2 > 64 then (some 70) else (some 0))))) else (some 70))) else (some 70))
theorem prog_Check.mono : ∀ a0 a1 a2 a3 a4 k, LeO (prog_Check.f k a0 a1 a2 a3 a4) (prog_Check.f (k + 1) a0 a1 a2 a3 a4) := by
 intro a0 a1 a2 a3 a4 k
 unfold prog_Check.f
 repeat' first
   | (with_reducible exact prog_Known.mono _ _)
   | (with_reducible exact LeO.refl _)
   | (with_reducible exact LeO.none _)
   | (with_reducible refine LeO.ite ?_ ?_)
   | (with_reducible refine LeO.bind ?_ (fun _ => ?_))
   | exact prog_Known.mono _ _
   | exact LeO.none _
   | refine LeO.ite ?_ ?_
   | refine LeO.bind ?_ (fun _ => ?_)
set_option maxHeartbeats 8000000 in
set_option maxRecDepth 100000 in
theorem prog_Check.calls (k : Nat) (a0_0 : Int) (A0_1 : Option Addr) (c0_1 : Nat) (l0_1 : List (S48)) (a1_0 : ByteArray) (a1_1 : Int) (a1_2 : Int) (r : Int) (w : World) (hr0_1 : Kd.C k48 w A0_1 l0_1.length l0_1) (hc0_1 : l0_1.length ≤ c0_1) (h : prog_Check.f k a0_0 l0_1 a1_0 a1_1 a1_2 = some r) :
  Calls Tryz.prog 21 #[.agg #[.int .i64 a0_0, .slice A0_1 l0_1.length c0_1], .agg #[.string a1_0, .int .i64 a1_1, .int .i64 a1_2]] w fun e w' => e = .returned (.int .i64 r) ∧ Below w.heap.size w w' := by
 have hu24 := Tryz.underlying24
 have hu26 := Tryz.underlying26
 have HR0_1 := Aside0.mk hr0_1
 have HC0_1 := Aside0.mk hc0_1
 clear hr0_1 hc0_1
 have HB := Aside0.mk (Below.refl w.heap.size w)
 have H : ((graph_Check.f a0_0 l0_1).bind fun t109 => (if t109 = 0 then ((prog_Known.f k a1_0).bind fun t110 => (if t110 = true then (if a1_1 < 0 then (some 70) else (if a1_1 ≥ a0_0 then (some 70) else (if a1_2 < 1 then (some 70) else (if a1_2 > 64 then (some 70) else (some 0))))) else (some 70))) else (some 70))) = some r := h
 clear h
 replace H := Option.bind_eq_some_iff.mp H
 obtain ⟨t109, A30, H⟩ := H
 replace H : (if t109 = 0 then ((prog_Known.f k a1_0).bind fun t110 => (if t110 = true then (if a1_1 < 0 then (some 70) else (if a1_1 ≥ a0_0 then (some 70) else (if a1_2 < 1 then (some 70) else (if a1_2 > 64 then (some 70) else (some 0))))) else (some 70))) else (some 70)) = some r := H
 have A3 := Aside0.mk A30
 clear A30
 by_cases c4 : t109 = 0
 ·rw [if_pos c4] at H
  have c4b0 : (t109 == 0) = true := beq_iff_eq.mpr c4
  have c4b1 : (t109 != 0) = false := bne_eq_false_iff_eq.mpr c4
  clear c4
  replace H := Option.bind_eq_some_iff.mp H
  obtain ⟨t110, A50, H⟩ := H
  replace H : (if t110 = true then (if a1_1 < 0 then (some 70) else (if a1_1 ≥ a0_0 then (some 70) else (if a1_2 < 1 then (some 70) else (if a1_2 > 64 then (some 70) else (some 0))))) else (some 70)) = some r := H
  have A5 := Aside0.mk A50
  clear A50
  by_cases c6 : t110 = true
  ·subst c6
   have H1 : (if a1_1 < 0 then (some 70) else (if a1_1 ≥ a0_0 then (some 70) else (if a1_2 < 1 then (some 70) else (if a1_2 > 64 then (some 70) else (some 0))))) = some r := by rw [if_pos rfl] at H; exact H
   clear H
   have H := H1
   clear H1
   by_cases c7 : a1_1 < 0
   ·rw [if_pos c7] at H
    have c7b0 := decide_eq_true c7
    clear c7
    obtain rfl := Option.some.inj H
    go_enter Tryz.func21, Tryz.ntmps21
    go_wp2_with (first | ((with_reducible refine gate_dst (N := 2) rfl ?_); refine bE_ #[.int .i64 a0_0, .slice A0_1 l0_1.length c0_1] 24 ?_; intro gb107 hg w8 hbox hb; have BK107 := Aside0.mk hbox; have GW107 := gS hg HB; have GE107 := gS hg HB; replace HB := bS HB hb; clear hb hbox hg) | ((with_reducible refine gate_dst (N := 3) rfl ?_); refine bE_ #[.string a1_0, .int .i64 a1_1, .int .i64 a1_2] 26 ?_; intro gb108 hg w9 hbox hb; have BK108 := Aside0.mk hbox; have GW108 := gS hg HB; have GE108 := gS hg HB; have NB107_108 := nL hg BK107; have NB108_107 := nG hg BK107; replace BK107 := aS BK107 hb; replace HB := bS HB hb; clear hb hbox hg; have := NB107_108.out; have := NB108_107.out; obtain ⟨_, _, _, _⟩ := q2z w9 BK107.out) | ((with_reducible refine gate_callee (f := 39) rfl ?_); refine gL_ (some 6) Tryz.func39 #[.agg #[.int .i64 a0_0, .slice A0_1 l0_1.length c0_1]] ?_; (with_reducible refine (graph_Check.calls a0_0 _ _ l0_1 t109 _ ?z1 ?z2 A3.out).mono ?_); (case z1 => exact kC HR0_1.out HB.out); (case z2 => exact HC0_1.out); rintro e w12 ⟨rfl, hb⟩; refine ⟨_, rfl, ?_⟩; replace BK107 := aS BK107 hb; replace BK108 := aS BK108 hb; replace HB := bS HB hb; clear hb; obtain ⟨_, _, _, _, _, _⟩ := q3z w12 BK108.out) | (go_at_call 40; (with_reducible refine (prog_Known.calls k a1_0 true _ A5.out).mono ?_); rintro e w14 ⟨rfl, hb⟩; replace BK107 := aS BK107 hb; replace BK108 := aS BK108 hb; replace HB := bS HB hb; clear hb; obtain ⟨_, _, _, _, _, _⟩ := q3z w14 BK108.out))
    go_ret
    exact ⟨by first | rfl | (simp [errW_none, errW_some] <;> rfl) | (simp [*, errW_none, errW_some] <;> rfl), by exact kB HB.out⟩
   ·rw [if_neg c7] at H
    have c7b0 := decide_eq_false c7
    clear c7
    by_cases c16 : a1_1 ≥ a0_0
    ·rw [if_pos c16] at H
     have c16b0 : decide (a0_0 ≤ a1_1) = true := decide_eq_true c16
     clear c16
     obtain rfl := Option.some.inj H
     go_enter Tryz.func21, Tryz.ntmps21
     go_wp2_with (first | ((with_reducible refine gate_dst (N := 2) rfl ?_); refine bE_ #[.int .i64 a0_0, .slice A0_1 l0_1.length c0_1] 24 ?_; intro gb107 hg w17 hbox hb; have BK107 := Aside0.mk hbox; have GW107 := gS hg HB; have GE107 := gS hg HB; replace HB := bS HB hb; clear hb hbox hg) | ((with_reducible refine gate_dst (N := 3) rfl ?_); refine bE_ #[.string a1_0, .int .i64 a1_1, .int .i64 a1_2] 26 ?_; intro gb108 hg w18 hbox hb; have BK108 := Aside0.mk hbox; have GW108 := gS hg HB; have GE108 := gS hg HB; have NB107_108 := nL hg BK107; have NB108_107 := nG hg BK107; replace BK107 := aS BK107 hb; replace HB := bS HB hb; clear hb hbox hg; have := NB107_108.out; have := NB108_107.out; obtain ⟨_, _, _, _⟩ := q2z w18 BK107.out) | ((with_reducible refine gate_callee (f := 39) rfl ?_); refine gL_ (some 6) Tryz.func39 #[.agg #[.int .i64 a0_0, .slice A0_1 l0_1.length c0_1]] ?_; (with_reducible refine (graph_Check.calls a0_0 _ _ l0_1 t109 _ ?z1 ?z2 A3.out).mono ?_); (case z1 => exact kC HR0_1.out HB.out); (case z2 => exact HC0_1.out); rintro e w21 ⟨rfl, hb⟩; refine ⟨_, rfl, ?_⟩; replace BK107 := aS BK107 hb; replace BK108 := aS BK108 hb; replace HB := bS HB hb; clear hb; obtain ⟨_, _, _, _, _, _⟩ := q3z w21 BK108.out) | (go_at_call 40; (with_reducible refine (prog_Known.calls k a1_0 true _ A5.out).mono ?_); rintro e w23 ⟨rfl, hb⟩; replace BK107 := aS BK107 hb; replace BK108 := aS BK108 hb; replace HB := bS HB hb; clear hb; obtain ⟨_, _, _, _, _, _⟩ := q3z w23 BK108.out; obtain ⟨_, _, _, _⟩ := q2z w23 BK107.out))
     go_ret
     exact ⟨by first | rfl | (simp [errW_none, errW_some] <;> rfl) | (simp [*, errW_none, errW_some] <;> rfl), by exact kB HB.out⟩
    ·rw [if_neg c16] at H
     have c16b0 : decide (a0_0 ≤ a1_1) = false := decide_eq_false c16
     clear c16
     by_cases c26 : a1_2 < 1
     ·rw [if_pos c26] at H
      have c26b0 := decide_eq_true c26
      clear c26
      obtain rfl := Option.some.inj H
      go_enter Tryz.func21, Tryz.ntmps21
      go_wp2_with (first | ((with_reducible refine gate_dst (N := 2) rfl ?_); refine bE_ #[.int .i64 a0_0, .slice A0_1 l0_1.length c0_1] 24 ?_; intro gb107 hg w27 hbox hb; have BK107 := Aside0.mk hbox; have GW107 := gS hg HB; have GE107 := gS hg HB; replace HB := bS HB hb; clear hb hbox hg) | ((with_reducible refine gate_dst (N := 3) rfl ?_); refine bE_ #[.string a1_0, .int .i64 a1_1, .int .i64 a1_2] 26 ?_; intro gb108 hg w28 hbox hb; have BK108 := Aside0.mk hbox; have GW108 := gS hg HB; have GE108 := gS hg HB; have NB107_108 := nL hg BK107; have NB108_107 := nG hg BK107; replace BK107 := aS BK107 hb; replace HB := bS HB hb; clear hb hbox hg; have := NB107_108.out; have := NB108_107.out; obtain ⟨_, _, _, _⟩ := q2z w28 BK107.out) | ((with_reducible refine gate_callee (f := 39) rfl ?_); refine gL_ (some 6) Tryz.func39 #[.agg #[.int .i64 a0_0, .slice A0_1 l0_1.length c0_1]] ?_; (with_reducible refine (graph_Check.calls a0_0 _ _ l0_1 t109 _ ?z1 ?z2 A3.out).mono ?_); (case z1 => exact kC HR0_1.out HB.out); (case z2 => exact HC0_1.out); rintro e w31 ⟨rfl, hb⟩; refine ⟨_, rfl, ?_⟩; replace BK107 := aS BK107 hb; replace BK108 := aS BK108 hb; replace HB := bS HB hb; clear hb; obtain ⟨_, _, _, _, _, _⟩ := q3z w31 BK108.out) | (go_at_call 40; (with_reducible refine (prog_Known.calls k a1_0 true _ A5.out).mono ?_); rintro e w33 ⟨rfl, hb⟩; replace BK107 := aS BK107 hb; replace BK108 := aS BK108 hb; replace HB := bS HB hb; clear hb; obtain ⟨_, _, _, _, _, _⟩ := q3z w33 BK108.out; obtain ⟨_, _, _, _⟩ := q2z w33 BK107.out))
      go_ret
      exact ⟨by first | rfl | (simp [errW_none, errW_some] <;> rfl) | (simp [*, errW_none, errW_some] <;> rfl), by exact kB HB.out⟩
     ·rw [if_neg c26] at H
      have c26b0 := decide_eq_false c26
      clear c26
      by_cases c36 : a1_2 > 64
      ·rw [if_pos c36] at H
       have c36b0 : decide (64 < a1_2) = true := decide_eq_true c36
       clear c36
       obtain rfl := Option.some.inj H
       go_enter Tryz.func21, Tryz.ntmps21
       go_wp2_with (first | ((with_reducible refine gate_dst (N := 2) rfl ?_); refine bE_ #[.int .i64 a0_0, .slice A0_1 l0_1.length c0_1] 24 ?_; intro gb107 hg w37 hbox hb; have BK107 := Aside0.mk hbox; have GW107 := gS hg HB; have GE107 := gS hg HB; replace HB := bS HB hb; clear hb hbox hg) | ((with_reducible refine gate_dst (N := 3) rfl ?_); refine bE_ #[.string a1_0, .int .i64 a1_1, .int .i64 a1_2] 26 ?_; intro gb108 hg w38 hbox hb; have BK108 := Aside0.mk hbox; have GW108 := gS hg HB; have GE108 := gS hg HB; have NB107_108 := nL hg BK107; have NB108_107 := nG hg BK107; replace BK107 := aS BK107 hb; replace HB := bS HB hb; clear hb hbox hg; have := NB107_108.out; have := NB108_107.out; obtain ⟨_, _, _, _⟩ := q2z w38 BK107.out) | ((with_reducible refine gate_callee (f := 39) rfl ?_); refine gL_ (some 6) Tryz.func39 #[.agg #[.int .i64 a0_0, .slice A0_1 l0_1.length c0_1]] ?_; (with_reducible refine (graph_Check.calls a0_0 _ _ l0_1 t109 _ ?z1 ?z2 A3.out).mono ?_); (case z1 => exact kC HR0_1.out HB.out); (case z2 => exact HC0_1.out); rintro e w41 ⟨rfl, hb⟩; refine ⟨_, rfl, ?_⟩; replace BK107 := aS BK107 hb; replace BK108 := aS BK108 hb; replace HB := bS HB hb; clear hb; obtain ⟨_, _, _, _, _, _⟩ := q3z w41 BK108.out) | (go_at_call 40; (with_reducible refine (prog_Known.calls k a1_0 true _ A5.out).mono ?_); rintro e w43 ⟨rfl, hb⟩; replace BK107 := aS BK107 hb; replace BK108 := aS BK108 hb; replace HB := bS HB hb; clear hb; obtain ⟨_, _, _, _, _, _⟩ := q3z w43 BK108.out; obtain ⟨_, _, _, _⟩ := q2z w43 BK107.out))
       go_ret
       exact ⟨by first | rfl | (simp [errW_none, errW_some] <;> rfl) | (simp [*, errW_none, errW_some] <;> rfl), by exact kB HB.out⟩
      ·rw [if_neg c36] at H
       have c36b0 : decide (64 < a1_2) = false := decide_eq_false c36
       clear c36
       obtain rfl := Option.some.inj H
       go_enter Tryz.func21, Tryz.ntmps21
       go_wp2_with (first | ((with_reducible refine gate_dst (N := 2) rfl ?_); refine bE_ #[.int .i64 a0_0, .slice A0_1 l0_1.length c0_1] 24 ?_; intro gb107 hg w46 hbox hb; have BK107 := Aside0.mk hbox; have GW107 := gS hg HB; have GE107 := gS hg HB; replace HB := bS HB hb; clear hb hbox hg) | ((with_reducible refine gate_dst (N := 3) rfl ?_); refine bE_ #[.string a1_0, .int .i64 a1_1, .int .i64 a1_2] 26 ?_; intro gb108 hg w47 hbox hb; have BK108 := Aside0.mk hbox; have GW108 := gS hg HB; have GE108 := gS hg HB; have NB107_108 := nL hg BK107; have NB108_107 := nG hg BK107; replace BK107 := aS BK107 hb; replace HB := bS HB hb; clear hb hbox hg; have := NB107_108.out; have := NB108_107.out; obtain ⟨_, _, _, _⟩ := q2z w47 BK107.out) | ((with_reducible refine gate_callee (f := 39) rfl ?_); refine gL_ (some 6) Tryz.func39 #[.agg #[.int .i64 a0_0, .slice A0_1 l0_1.length c0_1]] ?_; (with_reducible refine (graph_Check.calls a0_0 _ _ l0_1 t109 _ ?z1 ?z2 A3.out).mono ?_); (case z1 => exact kC HR0_1.out HB.out); (case z2 => exact HC0_1.out); rintro e w50 ⟨rfl, hb⟩; refine ⟨_, rfl, ?_⟩; replace BK107 := aS BK107 hb; replace BK108 := aS BK108 hb; replace HB := bS HB hb; clear hb; obtain ⟨_, _, _, _, _, _⟩ := q3z w50 BK108.out) | (go_at_call 40; (with_reducible refine (prog_Known.calls k a1_0 true _ A5.out).mono ?_); rintro e w52 ⟨rfl, hb⟩; replace BK107 := aS BK107 hb; replace BK108 := aS BK108 hb; replace HB := bS HB hb; clear hb; obtain ⟨_, _, _, _, _, _⟩ := q3z w52 BK108.out; obtain ⟨_, _, _, _⟩ := q2z w52 BK107.out))
       go_ret
       exact ⟨by first | rfl | (simp [errW_none, errW_some] <;> rfl) | (simp [*, errW_none, errW_some] <;> rfl), by exact kB HB.out⟩
  ·replace c6 := Bool.eq_false_iff.mpr c6
   subst c6
   have H1 : (some 70) = some r := by rw [if_neg (show ¬ (false = true) by decide)] at H; exact H
   clear H
   have H := H1
   clear H1
   obtain rfl := Option.some.inj H
   go_enter Tryz.func21, Tryz.ntmps21
   go_wp2_with (first | ((with_reducible refine gate_dst (N := 2) rfl ?_); refine bE_ #[.int .i64 a0_0, .slice A0_1 l0_1.length c0_1] 24 ?_; intro gb107 hg w55 hbox hb; have BK107 := Aside0.mk hbox; have GW107 := gS hg HB; have GE107 := gS hg HB; replace HB := bS HB hb; clear hb hbox hg) | ((with_reducible refine gate_dst (N := 3) rfl ?_); refine bE_ #[.string a1_0, .int .i64 a1_1, .int .i64 a1_2] 26 ?_; intro gb108 hg w56 hbox hb; have BK108 := Aside0.mk hbox; have GW108 := gS hg HB; have GE108 := gS hg HB; have NB107_108 := nL hg BK107; have NB108_107 := nG hg BK107; replace BK107 := aS BK107 hb; replace HB := bS HB hb; clear hb hbox hg; have := NB107_108.out; have := NB108_107.out; obtain ⟨_, _, _, _⟩ := q2z w56 BK107.out) | ((with_reducible refine gate_callee (f := 39) rfl ?_); refine gL_ (some 6) Tryz.func39 #[.agg #[.int .i64 a0_0, .slice A0_1 l0_1.length c0_1]] ?_; (with_reducible refine (graph_Check.calls a0_0 _ _ l0_1 t109 _ ?z1 ?z2 A3.out).mono ?_); (case z1 => exact kC HR0_1.out HB.out); (case z2 => exact HC0_1.out); rintro e w59 ⟨rfl, hb⟩; refine ⟨_, rfl, ?_⟩; replace BK107 := aS BK107 hb; replace BK108 := aS BK108 hb; replace HB := bS HB hb; clear hb; obtain ⟨_, _, _, _, _, _⟩ := q3z w59 BK108.out) | (go_at_call 40; (with_reducible refine (prog_Known.calls k a1_0 false _ A5.out).mono ?_); rintro e w61 ⟨rfl, hb⟩; replace BK107 := aS BK107 hb; replace BK108 := aS BK108 hb; replace HB := bS HB hb; clear hb))
   go_ret
   exact ⟨by first | rfl | (simp [errW_none, errW_some] <;> rfl) | (simp [*, errW_none, errW_some] <;> rfl), by exact kB HB.out⟩
 ·rw [if_neg c4] at H
  have c4b0 : (t109 == 0) = false := beq_eq_false_iff_ne.mpr c4
  have c4b1 : (t109 != 0) = true := bne_iff_ne.mpr c4
  obtain rfl := Option.some.inj H
  go_enter Tryz.func21, Tryz.ntmps21
  go_wp2_with (first | ((with_reducible refine gate_dst (N := 2) rfl ?_); refine bE_ #[.int .i64 a0_0, .slice A0_1 l0_1.length c0_1] 24 ?_; intro gb107 hg w62 hbox hb; have BK107 := Aside0.mk hbox; have GW107 := gS hg HB; have GE107 := gS hg HB; replace HB := bS HB hb; clear hb hbox hg) | ((with_reducible refine gate_dst (N := 3) rfl ?_); refine bE_ #[.string a1_0, .int .i64 a1_1, .int .i64 a1_2] 26 ?_; intro gb108 hg w63 hbox hb; have BK108 := Aside0.mk hbox; have GW108 := gS hg HB; have GE108 := gS hg HB; have NB107_108 := nL hg BK107; have NB108_107 := nG hg BK107; replace BK107 := aS BK107 hb; replace HB := bS HB hb; clear hb hbox hg; have := NB107_108.out; have := NB108_107.out; obtain ⟨_, _, _, _⟩ := q2z w63 BK107.out) | ((with_reducible refine gate_callee (f := 39) rfl ?_); refine gL_ (some 6) Tryz.func39 #[.agg #[.int .i64 a0_0, .slice A0_1 l0_1.length c0_1]] ?_; (with_reducible refine (graph_Check.calls a0_0 _ _ l0_1 t109 _ ?z1 ?z2 A3.out).mono ?_); (case z1 => exact kC HR0_1.out HB.out); (case z2 => exact HC0_1.out); rintro e w66 ⟨rfl, hb⟩; refine ⟨_, rfl, ?_⟩; replace BK107 := aS BK107 hb; replace BK108 := aS BK108 hb; replace HB := bS HB hb; clear hb))
  go_ret
  exact ⟨by first | rfl | (simp [errW_none, errW_some] <;> rfl) | (simp [*, errW_none, errW_some] <;> rfl), by exact kB HB.out⟩

/-! ### prog_great: function 41 -/
def prog_great.f (a0 : Int) : Option (Bool) := if a0 > 1125899906842624 then (some true) else (some (decide (a0 < (-1125899906842624))))
set_option maxHeartbeats 8000000 in
set_option maxRecDepth 100000 in
theorem prog_great.calls (a0 : Int) (r : Bool) (w : World) (h : prog_great.f a0 = some r) :
  Calls Tryz.prog 41 #[.int .i64 a0] w fun e w' => e = .returned (.bool r) ∧ Drawn0 w w' := by
 have H : (if a0 > 1125899906842624 then (some true) else (some (decide (a0 < (-1125899906842624))))) = some r := h
 clear h
 by_cases c2 : a0 > 1125899906842624
 ·rw [if_pos c2] at H
  have c2b0 : decide (1125899906842624 < a0) = true := decide_eq_true c2
  clear c2
  obtain rfl := Option.some.inj H
  go_enter Tryz.func41, Tryz.ntmps41
  go_wp2
  go_ret
  exact ⟨by first | rfl | (simp; done) | (simp [*]; done), by repeat (first | exact Drawn0.refl _ | apply Drawn0.step)⟩
 ·rw [if_neg c2] at H
  have c2b0 : decide (1125899906842624 < a0) = false := decide_eq_false c2
  clear c2
  obtain rfl := Option.some.inj H
  go_enter Tryz.func41, Tryz.ntmps41
  go_wp2
  go_ret
  exact ⟨by first | rfl | (simp; done) | (simp [*]; done), by repeat (first | exact Drawn0.refl _ | apply Drawn0.step)⟩

/-! ### graph_Out: function 42 (given) -/
def ltE (x y : S48) : Bool := decide (x.f0 < y.f0) || (x.f0 == y.f0 && decide (x.f1 < y.f1))
theorem ltE_not (x y : S48) : ltE x y = false ↔ ¬ (x.f0 < y.f0 ∨ (x.f0 = y.f0 ∧ x.f1 < y.f1)) := by
 unfold ltE
 simp only [Bool.or_eq_false_iff, decide_eq_false_iff_not, Bool.and_eq_false_iff, beq_eq_false_iff_ne]
 omega
/-- Edges in order. -/
def sortE (l : List S48) : List S48 := l.mergeSort fun x y => !ltE y x
def leE (x y : S48) : Prop := ¬ (y.f0 < x.f0 ∨ (y.f0 = x.f0 ∧ y.f1 < x.f1))
theorem sortE_sorted (l : List S48) : EdgesSorted l (sortE l) := by
 refine ⟨List.mergeSort_perm l _, ?_⟩
 have h := List.pairwise_mergeSort (le := fun x y : S48 => !ltE y x) (fun a b c h1 h2 => by
  simp only [Bool.not_eq_true', ltE_not] at h1 h2 ⊢
  omega) (fun a b => by
  cases h : ltE b a with
  | false => rfl
  | true =>
   cases h2 : ltE a b with
   | false => rfl
   | true =>
    unfold ltE at h h2
    simp only [Bool.or_eq_true, decide_eq_true_eq, Bool.and_eq_true, beq_iff_eq] at h h2
    omega) l
 exact h.imp (fun {a b} h => by simpa [ltE_not] using h)
theorem permE_unique : ∀ {l l' : List S48}, l.Perm l' → (∀ x ∈ l, ∀ y ∈ l, leE x y → leE y x → x = y) → l.Pairwise leE → l'.Pairwise leE → l = l'
 | [], l', h, _, _, _ => by rw [List.nil_perm] at h; exact h.symm
 | x :: l, [], h, _, _, _ => by simp at h
 | x :: l, y :: l', h, hm, hs, hs' => by
  have hxy : x = y := by
   have hx : x ∈ y :: l' := h.subset (List.mem_cons_self ..)
   have hy : y ∈ x :: l := h.symm.subset (List.mem_cons_self ..)
   rcases List.mem_cons.1 hx with e | hx
   ·exact e
   ·rcases List.mem_cons.1 hy with e | hy'
    ·exact e.symm
    ·exact hm x (List.mem_cons_self ..) y hy ((List.pairwise_cons.1 hs).1 y hy') ((List.pairwise_cons.1 hs').1 x hx)
  subst hxy
  rw [permE_unique (List.perm_cons x |>.1 h) (fun a ha b hb => hm a (List.mem_cons_of_mem _ ha) b (List.mem_cons_of_mem _ hb)) (List.pairwise_cons.1 hs).2 (List.pairwise_cons.1 hs').2]
theorem simple_key : ∀ {l : List S48}, Simple l → ∀ x ∈ l, ∀ y ∈ l, x.f0 = y.f0 → x.f1 = y.f1 → x = y
 | [], _, x, hx, _, _, _, _ => by cases hx
 | a :: l, h, x, hx, y, hy, e0, e1 => by
  have h1 := (List.pairwise_cons.1 h).1
  have h2 := (List.pairwise_cons.1 h).2
  rcases List.mem_cons.1 hx with ex | hx2
  ·rcases List.mem_cons.1 hy with ey | hy2
   ·rw [ex, ey]
   ·subst ex
    exact absurd ⟨e0.symm, e1.symm⟩ (h1 y hy2)
  ·rcases List.mem_cons.1 hy with ey | hy2
   ·subst ey
    exact absurd ⟨e0, e1⟩ (h1 x hx2)
   ·exact simple_key h2 x hx2 y hy2 e0 e1
theorem sorted_unique {l l' : List S48} (hs : EdgesSorted l l') (hd : dupE l = false) : l' = sortE l := by
 have h2 := sortE_sorted l
 have hk := simple_key ((dupE_iff l).1 hd)
 refine permE_unique (hs.1.trans h2.1.symm) (fun x hx y hy h1 h3 => ?_) hs.2 h2.2
 have hx' := hs.1.subset hx
 have hy' := hs.1.subset hy
 unfold leE at h1 h3
 exact hk x hx' y hy' (by omega) (by omega)
def graph_Out.f (a0_0 : Int) (l0_1 : List S48) (a1 : Int) : Option (List S48) := if badG a0_0 l0_1 = true then none else if dupE l0_1 = true then none else some ((sortE l0_1).filter fun e => e.f0 == a1)
section
open Go.Sort Go.Shelf Go.Proofs.YtpndhkeoljoapaaGreat.Bridge
/-- The row of a graph's edges in order, made anew. -/
def NormPost (w : World) (n : Int) (l : List S48) (e : Ending) (w' : World) : Prop := ∃ v : Value, e = .returned (.tuple #[.agg #[.int .i64 n, v], .int .i64 0]) ∧ Kd.R k48 48 w' w.heap.size (fun _ => True) v (sortE l) ∧ Below w.heap.size w w'
def SortPost (w : World) (l : List S48) (W : World) (e : Ending) (w' : World) : Prop := ∃ v : Value, e = .returned v ∧ Kd.R k48 48 w' w.heap.size (fun _ => True) v (sortE l) ∧ Below W.heap.size W w'
theorem sorted_at (n : Int) (A : Option Addr) (c : Nat) (l : List S48) (w : World) (hr : Kd.C k48 w A l.length l) (h : badG n l = false) (hd : dupE l = false) (b : Nat) (W : World) (hW : Below w.heap.size w W) (hb : b < W.heap.size) (hc : W.cell? ⟨b, 0, none⟩ = some (.slice A l.length c)) :
  Calls Tryz.prog 59 #[.func (.func 80) #[] #[.pointer (some ⟨b, 0, none⟩)], .func (.func 61) #[] #[]] W (SortPost w l W) := by
 obtain ⟨n1, n2, n3, n4⟩ := badG_not h
 obtain ⟨gl, hgl⟩ := ge_of n n2 l n4
 have hgll : gl.length = l.length := by rw [← hgl]; simp
 have := sortedEdges.on b A c gl W (by omega) hb (by rw [hgll]; exact hc) (by rw [hgll, hgl]; exact Kd.C_below hr hW)
 rw [hgl] at this
 refine this.mono ?_
 rintro e w' ⟨v, l', he, hR, hs, hbb⟩
 rw [sorted_unique hs hd] at hR
 exact ⟨v, he, Kd.R_lower hR hW.size, hbb⟩
set_option maxHeartbeats 16000000 in
set_option maxRecDepth 100000 in
theorem graph_Norm.good (A0_1 : Option Addr) (a0_0 : Int) (c0_1 : Nat) (l0_1 : List S48) (w : World) (hr : Kd.C k48 w A0_1 l0_1.length l0_1) (h : badG a0_0 l0_1 = false) (hd : dupE l0_1 = false) :
  Calls Tryz.prog 82 #[.agg #[.int .i64 a0_0, .slice A0_1 l0_1.length c0_1]] w (NormPost w a0_0 l0_1) := by
 have hu := Tryz.underlying24
 have HSORT := fun b W => sorted_at a0_0 A0_1 c0_1 l0_1 w hr h hd b W
 have HCHK : ∀ W, Below w.heap.size w W → Calls Tryz.prog 39 #[.agg #[.int .i64 a0_0, .slice A0_1 l0_1.length c0_1]] W fun e w' => e = .returned (.int .i64 0) ∧ Below W.heap.size W w' := fun W hW => by
  have := graph_Check.good A0_1 a0_0 c0_1 l0_1 W (Kd.C_below hr hW) h
  rw [hd, if_neg (by decide)] at this
  exact this
 have HV : ∀ W : World, Calls Tryz.prog 60 #[.slice A0_1 l0_1.length c0_1] W fun e w' => ∃ b, e = .returned (.func (.func 80) #[] #[.pointer (some ⟨b, 0, none⟩)]) ∧ b < w'.heap.size ∧ w'.cell? ⟨b, 0, none⟩ = some (.slice A0_1 l0_1.length c0_1) ∧ Below W.heap.size W w' := fun W => (valuesE.calls A0_1 l0_1.length c0_1 W).mono fun e w' ⟨he, hw⟩ => ⟨W.heap.size, he, by rw [hw]; simp, by rw [hw]; simp, by rw [hw]; exact below_alloc (Below.refl _ _) _⟩
 clear hr h hd
 go_enter Tryz.func82, Tryz.ntmps82
 go_wp2_with (fail)
 refine (HCHK _ (by repeat (first | exact Below.refl _ _ | apply below_alloc | apply pw_below_drewN))).mono ?_
 rintro e w2 ⟨rfl, hb⟩
 have k0 := (hb.cell (p := ⟨w.heap.size, 0, none⟩) (by simp; omega)).trans (show _ = some (.int .i64 a0_0) by first | (go_simp; done) | (go_simp; rfl))
 have k1 := (hb.cell (p := ⟨w.heap.size, 1, none⟩) (by simp; omega)).trans (show _ = some (.slice A0_1 l0_1.length c0_1) by first | (go_simp; done) | (go_simp; rfl))
 have BK := Aside0.mk (blk_below (heap_alloc2_new _ _ _) hb)
 have hsz : Aside0 (w.heap.size + 2 ≤ w2.heap.size) := ⟨by have := hb.size; simp at this; omega⟩
 have HB2 : Aside0 (Below w.heap.size w w2) := ⟨by
   refine Below.trans ?_ (hb.mono ?_)
   ·repeat (first | exact Below.refl _ _ | apply below_alloc | apply pw_below_drewN)
   ·simp; omega⟩
 clear hb HCHK
 go_wp2
 go_region_held3 (fun w' => w'.cell? ⟨w.heap.size, 0, none⟩ = some (.int .i64 a0_0) ∧ w'.cell? ⟨w.heap.size, 1, none⟩ = some (.slice A0_1 l0_1.length c0_1)) (first | exact ⟨k0, k1⟩ | exact ⟨m0, m1⟩ | exact ⟨q0, q1⟩ | go_keep)
  (first
   | (go_at_call 60; refine (HV _).mono ?_; rintro e w3 ⟨b3, rfl, hlt3, hc3, hb3⟩; have m0 := (hb3.cell (p := ⟨w.heap.size, 0, none⟩) (by have := hsz.out; show w.heap.size < w2.heap.size; omega)).trans k0; have m1 := (hb3.cell (p := ⟨w.heap.size, 1, none⟩) (by have := hsz.out; show w.heap.size < w2.heap.size; omega)).trans k1; have BK3 := Aside0.mk (blk_below (blk_drew BK.out) hb3); have HB3 : Aside0 (Below w.heap.size w w3) := ⟨(below_drew1 HB2.out).trans (hb3.mono HB2.out.size)⟩; have HL3 := Aside0.mk hlt3; have HC3 := Aside0.mk hc3; have HZ3 : Aside0 (w.heap.size + 2 ≤ w3.heap.size) := ⟨Nat.le_trans hsz.out hb3.size⟩; clear hb3 hc3 hlt3)
   | (go_at_call 59; refine (HSORT _ _ HB3.out HL3.out HC3.out).mono ?_; rintro e w4 ⟨v4, rfl, hR, hb4⟩; obtain ⟨A4, c4, e4⟩ := Kd.R_slice hR; subst e4; have q0 := (hb4.cell (p := ⟨w.heap.size, 0, none⟩) (by have := HZ3.out; show w.heap.size < w3.heap.size; omega)).trans m0; have q1 := (hb4.cell (p := ⟨w.heap.size, 1, none⟩) (by have := HZ3.out; show w.heap.size < w3.heap.size; omega)).trans m1; have BK4 := Aside0.mk (blk_below BK3.out hb4); have HB4 : Aside0 (Below w.heap.size w w4) := ⟨HB3.out.trans (hb4.mono HB3.out.size)⟩; have HR4 := Aside0.mk hR; have HZ4 : Aside0 (w.heap.size + 2 ≤ w4.heap.size) := ⟨Nat.le_trans HZ3.out hb4.size⟩; clear hb4 hR; have s0 := (blk_cell BK4.out 0).trans (show _ = some (Value.int .i64 0) from rfl); have s1 := (blk_cell BK4.out 1).trans (show _ = some (Value.slice none 0 0) from rfl); have f0 := blk_frozen BK4.out 0; have f1 := blk_frozen BK4.out 1))
 go_wp2
 refine bodyPost_ret (results_ct rfl _ _ (w.heap.size + 1) 24 #[.int .i64 a0_0, .slice A4 (sortE l0_1).length c4] (0, 0) _ rfl ?hg Tryz.underlying24 rfl (by kernel_rfl)) rfl ?_
 case hg => exact blk_put (blk_put BK4.out 0 _ rfl) 1 _ rfl
 refine ⟨_, rfl, ?_, ?_⟩
 ·exact Kd.R_set (Kd.R_set HR4.out BK4.out (by decide) 0 _) (blk_set BK4.out 0 _) (by decide) 1 _
 ·exact below_set (below_set HB4.out (Nat.le_succ _)) (Nat.le_succ _)
/-- Edges that are picked, made anew. -/
def PickPost (w : World) (r : List S48) (e : Ending) (w' : World) : Prop := ∃ v : Value, e = .returned v ∧ Kd.R k48 48 w' w.heap.size (fun _ => True) v r ∧ Below w.heap.size w w'
theorem take_snocE {α : Type} (l : List α) (p : α → Bool) (i : Nat) (h : i < l.length) : (l.take (i + 1)).filter p = (l.take i).filter p ++ (if p l[i] = true then [l[i]] else []) := by
 rw [List.take_succ_eq_append_getElem h, List.filter_append]
 by_cases hp : p l[i] = true <;> simp [List.filter_cons, hp]
set_option maxHeartbeats 16000000 in
set_option maxRecDepth 100000 in
theorem graph_pick.good (p : S48 → Bool) (g : Nat) (lb : Array Value) (eg : ∀ args w, (callFunc g args).run Tryz.prog w = .ok (.enter g args) w) (A0 : Option Addr) (n : Int) (c0 : Nat) (l0 : List S48) (w : World) (hr0 : Kd.C k48 w A0 l0.length l0) (h : badG n l0 = false) (hd : dupE l0 = false) (hp : PredOn Tryz.prog g lb (fun x => .agg (encEdge x).toArray) p w) :
  Calls Tryz.prog 63 #[.agg #[.int .i64 n, .slice A0 l0.length c0], .func (.func g) #[] lb] w (PickPost w ((sortE l0).filter p)) := by
 have hu := Tryz.underlying24
 have HN : ∀ W, Below w.heap.size w W → Calls Tryz.prog 82 #[.agg #[.int .i64 n, .slice A0 l0.length c0]] W (NormPost W n l0) := fun W hW => graph_Norm.good A0 n c0 l0 W (Kd.C_below hr0 hW) h hd
 have HL : Aside0 ((sortE l0).length ≤ 512) := ⟨by rw [(sortE_sorted l0).1.length_eq]; exact (badG_not h).2.2.1⟩
 have HP := Aside0.mk hp
 clear hr0 h hd hp
 unfold NormPost at HN
 generalize sortE l0 = q at HN HL ⊢
 go_enter Tryz.func63, Tryz.ntmps63
 go_wp2_with (fail)
 refine (HN _ (by repeat (first | exact Below.refl _ _ | apply below_alloc | apply pw_below_drewN))).mono ?_
 rintro e w2 ⟨v2, rfl, hR, hb⟩
 obtain ⟨A2, c2, e2⟩ := Kd.R_slice hR
 subst e2
 have HB2 : Aside0 (Below w.heap.size w w2) := ⟨by
   refine Below.trans ?_ (hb.mono ?_)
   ·repeat (first | exact Below.refl _ _ | apply below_alloc | apply pw_below_drewN)
   ·simp⟩
 have HC2 := Aside0.mk (Kd.R_reads' hR).2.2
 clear hR hb HN
 go_wp2
 go_loopg [7, 18] (q.length) (fun kq v7 v18 w' => ∃ (i : Nat), v18 = .int .i64 (i : Int) ∧ Aside0 (i + kq = q.length) ∧ Aside0 (Kd.R k48 48 w' w2.heap.size (fun _ => True) v7 ((q.take i).filter p)) ∧ Aside0 (Below w2.heap.size w2 w'))
 case atStart => exact ⟨0, rfl, ⟨by omega⟩, ⟨by simpa using Kd.R_nil _ _ _ _ _⟩, ⟨below_alloc (Below.refl _ _) _⟩⟩
 case round =>
  obtain ⟨i, rfl, HI, HO, HW⟩ := hrel
  have HB := Aside0.mk (HB2.out.trans (HW.out.mono HB2.out.size))
  by_cases hlt : i < q.length
  ·have c1 : decide ((i : Int) < (q.length : Int)) = true := decide_eq_true (by omega)
   have p1 : 0 ≤ (i : Int) := by omega
   have q1 : (i : Int) < (q.length : Int) := by omega
   obtain ⟨ad, e1, hx0, hx1, hx2⟩ := at_T48 (Kd.C_below HC2.out HW.out) (i : Int) p1 q1
   cases e1
   rw [rd_edge q i hlt, Int.toNat_natCast] at hx0 hx1 hx2
   have hts := take_snocE q p i hlt
   have HLT := Aside0.mk hlt
   generalize hy : q[i] = y at hx0 hx1 hx2 hts
   clear hy
   have HTS := Aside0.mk hts
   clear hts hlt
   replace p1 := eq_true p1
   replace q1 := eq_true q1
   have hcall := fun (W : World) (hb : Below w.heap.size w W) => HP.out W y hb
   obtain ⟨gk1, rfl⟩ : ∃ m, gk = m + 1 := ⟨gk - 1, by have := HI.out; have := HLT.out; omega⟩
   have hw1 : wrap64 ((i : Int) + 1) = (i : Int) + 1 := by have h1 := HL.out; have h2 := HLT.out; unfold wrap64; omega
   cases hq : p y with
   | true =>
    rw [hq] at hcall HTS
    have HLE : Aside0 (((q.take i).filter p).length < 5864062014805) := ⟨by have h1 := List.length_filter_le p (q.take i); have h2 := HL.out; simp only [List.length_take] at h1; omega⟩
    go_wp2_with (first | (go_at_fn g; refine (hcall _ (below_alloc HB.out _)).mono ?_; rintro e w' ⟨rfl, hb⟩; have k0 := (hb.cell (p := ⟨wr.heap.size, 0, none⟩) (by simp)).trans (show _ = some (.int .i64 y.f0) by simp); have k1 := (hb.cell (p := ⟨wr.heap.size, 1, none⟩) (by simp)).trans (show _ = some (.int .i64 y.f1) by simp); have k2 := (hb.cell (p := ⟨wr.heap.size, 2, none⟩) (by simp)).trans (show _ = some (.int .i64 y.f2) by simp); have HW2 := Aside0.mk ((below_alloc HW.out (.cells #[.int .i64 y.f0, .int .i64 y.f1, .int .i64 y.f2] 48)).trans (hb.mono (by have := HW.out.size; simp; omega))); have HO2 := Aside0.mk (Kd.R_below (Kd.R_alloc HO.out (.cells #[.int .i64 y.f0, .int .i64 y.f1, .int .i64 y.f2] 48)) hb); clear hb HO) | (at_builtin; refine Kd.R_append k48 (w0 := w2) w2.heap.size rfl (.tmp 25) (.tmp 27) 22 48 (.agg #[(.int .i64 0), (.int .i64 0), (.int .i64 0)]) 24 rfl Tryz.underlying22 info48 rfl (by decide) (by omega) u7 ((q.take i).filter p) y [.int .i64 y.f0, .int .i64 y.f1, .int .i64 y.f2] (fun _ => True) (fun _ => False) rfl rfl ?aP (fun _ hk => hk.elim) ?aF ?aO ?aB ?aS ?aL ?_; (case aP => exact k48_mkM _ _ _ y); (case aB => exact HW2.out); (case aF => exact (fun _ _ => trivial)); (case aO => exact HO2.out); (case aS => exact (below_size HW2.out)); (case aL => have := HLE.out; omega); intro v113 w10 ho hb hg hat; have n0_ := Aside0.mk (hb); have n1_ := Aside0.mk (ho); clear HW2; clear HO2; have HW2 := n0_; have HO114 := n1_; clear n0_ n1_; clear ho hb hg hat))
    go_roundg gk1
    case measure => omega
    case rel => exact ⟨i + 1, by go_num, ⟨by have := HI.out; omega⟩, ⟨by rw [HTS.out]; exact HO114.out⟩, HW2⟩
   | false =>
    rw [hq] at hcall HTS
    go_wp2_with (first | (go_at_fn g; refine (hcall _ (below_alloc HB.out _)).mono ?_; rintro e w' ⟨rfl, hb⟩; have k0 := (hb.cell (p := ⟨wr.heap.size, 0, none⟩) (by simp)).trans (show _ = some (.int .i64 y.f0) by simp); have k1 := (hb.cell (p := ⟨wr.heap.size, 1, none⟩) (by simp)).trans (show _ = some (.int .i64 y.f1) by simp); have k2 := (hb.cell (p := ⟨wr.heap.size, 2, none⟩) (by simp)).trans (show _ = some (.int .i64 y.f2) by simp); have HW2 := Aside0.mk ((below_alloc HW.out (.cells #[.int .i64 y.f0, .int .i64 y.f1, .int .i64 y.f2] 48)).trans (hb.mono (by have := HW.out.size; simp; omega))); have HO2 := Aside0.mk (Kd.R_below (Kd.R_alloc HO.out (.cells #[.int .i64 y.f0, .int .i64 y.f1, .int .i64 y.f2] 48)) hb); clear hb HO))
    go_roundg gk1
    case measure => omega
    case rel => exact ⟨i + 1, by go_num, ⟨by have := HI.out; omega⟩, ⟨by rw [HTS.out]; simpa using HO2.out⟩, HW2⟩
  ·have c1 : decide ((i : Int) < (q.length : Int)) = false := decide_eq_false (by omega)
   have c1n : decide (i < q.length) = false := decide_eq_false (by omega)
   have hi : i = q.length := by have := HI.out; omega
   have HO3 : Aside0 (Kd.R k48 48 wr w2.heap.size (fun _ => True) u7 (q.filter p)) := ⟨by have := HO.out; rwa [hi, List.take_length] at this⟩
   clear hi HO HI hlt
   go_wp2
   go_ret
   exact ⟨_, rfl, Kd.R_lower HO3.out HB2.out.size, HB.out⟩
set_option maxHeartbeats 8000000 in
theorem graph_Out_1.on (v : Int) (b : Nat) (w : World) (hb : b < w.heap.size) (hc : w.cell? ⟨b, 0, none⟩ = some (.int .i64 v)) : PredOn Tryz.prog 64 #[.pointer (some ⟨b, 0, none⟩)] (fun x => .agg (encEdge x).toArray) (fun e => e.f0 == v) w := fun W x hW => by
 have hu := Tryz.underlying48
 have hc2 : W.cell? ⟨b, 0, none⟩ = some (.int .i64 v) := (hW.cell (p := ⟨b, 0, none⟩) hb).trans hc
 have hbW : b < W.heap.size := Nat.lt_of_lt_of_le hb hW.size
 have hne : b ≠ W.heap.size := by omega
 clear hc hb hW
 show Calls Tryz.prog 64 #[.agg #[.int .i64 x.f0, .int .i64 x.f1, .int .i64 x.f2], .pointer (some ⟨b, 0, none⟩)] W _
 go_enter Tryz.func64, Tryz.ntmps64
 go_wp2
 all_goals (go_ret; exact ⟨by first | rfl | (simp [*]; done), by repeat (first | exact Below.refl _ _ | apply below_alloc | apply pw_below_drewN)⟩)
set_option maxHeartbeats 8000000 in
set_option maxRecDepth 100000 in
theorem graph_Out.calls (a0_0 : Int) (A0_1 : Option Addr) (c0_1 : Nat) (l0_1 : List S48) (a1 : Int) (r : List S48) (w : World) (hr0_1 : Kd.C k48 w A0_1 l0_1.length l0_1) (hc0_1 : l0_1.length ≤ c0_1) (h : graph_Out.f a0_0 l0_1 a1 = some r) :
  Calls Tryz.prog 42 #[.agg #[.int .i64 a0_0, .slice A0_1 l0_1.length c0_1], .int .i64 a1] w fun e w' => ∃ v0_ : Value, e = .returned (v0_) ∧ Kd.R k48 48 w' w.heap.size (fun _ => True) v0_ r ∧ Below w.heap.size w w' := by
 unfold graph_Out.f at h
 cases hb : badG a0_0 l0_1 with
 | true => rw [hb, if_pos rfl] at h; cases h
 | false =>
  rw [hb, if_neg (by decide)] at h
  cases hd : dupE l0_1 with
  | true => rw [hd, if_pos rfl] at h; cases h
  | false =>
   rw [hd, if_neg (by decide)] at h
   obtain rfl := Option.some.inj h
   clear h
   have eg : ∀ args w, (callFunc 64 args).run Tryz.prog w = .ok (.enter 64 args) w := enters_of Tryz.func64 (by kernel_rfl) rfl
   have HP : ∀ (b : Nat) W, Below w.heap.size w W → b < W.heap.size → W.cell? ⟨b, 0, none⟩ = some (.int .i64 a1) → Calls Tryz.prog 63 #[.agg #[.int .i64 a0_0, .slice A0_1 l0_1.length c0_1], .func (.func 64) #[] #[.pointer (some ⟨b, 0, none⟩)]] W (PickPost W ((sortE l0_1).filter fun e => e.f0 == a1)) :=
    fun b W hW hlt hc => graph_pick.good (fun e => e.f0 == a1) 64 #[.pointer (some ⟨b, 0, none⟩)] eg A0_1 a0_0 c0_1 l0_1 W (Kd.C_below hr0_1 hW) hb hd (graph_Out_1.on a1 b W hlt hc)
   unfold PickPost at HP
   generalize (sortE l0_1).filter (fun e => e.f0 == a1) = q at HP ⊢
   clear hr0_1 hc0_1 hb hd eg
   go_enter Tryz.func42, Tryz.ntmps42
   go_wp2_with (fail)
   refine (HP _ _ ?h1 ?h2 ?h3).mono ?_
   case h1 => repeat (first | exact Below.refl _ _ | apply below_alloc | apply pw_below_drewN)
   case h2 => simp
   case h3 => first | (go_simp; done) | (go_simp; rfl)
   rintro e w2 ⟨v2, rfl, hR, hb⟩
   have HB2 : Aside0 (Below w.heap.size w w2) := ⟨by
    refine Below.trans ?_ (hb.mono ?_)
    ·repeat (first | exact Below.refl _ _ | apply below_alloc | apply pw_below_drewN)
    ·simp; omega⟩
   have HR2 := Aside0.mk (Kd.R_lower (base' := w.heap.size) hR (by simp; omega))
   clear hR hb HP
   go_wp2
   go_ret
   exact ⟨_, rfl, HR2.out, HB2.out⟩
end

/-! ### prog_down: function 66 -/
def prog_down.f (a0 : Int) (a1 : Int) : Option (Int) := if a1 = 0 then (none) else (if (Int.tmod a0 a1) < 0 then (some (wrap64 ((wrap64 (Int.tdiv a0 a1)) - 1))) else (some (wrap64 (Int.tdiv a0 a1))))
set_option maxHeartbeats 8000000 in
set_option maxRecDepth 100000 in
theorem prog_down.calls (a0 : Int) (a1 : Int) (r : Int) (w : World) (h : prog_down.f a0 a1 = some r) :
  Calls Tryz.prog 66 #[.int .i64 a0, .int .i64 a1] w fun e w' => e = .returned (.int .i64 r) ∧ Drawn0 w w' := by
 have H : (if a1 = 0 then (none) else (if (Int.tmod a0 a1) < 0 then (some (wrap64 ((wrap64 (Int.tdiv a0 a1)) - 1))) else (some (wrap64 (Int.tdiv a0 a1))))) = some r := h
 clear h
 by_cases c3 : a1 = 0
 ·rw [if_pos c3] at H
  exact absurd H (by simp)
 ·rw [if_neg c3] at H
  have c3b0 : (a1 == 0) = false := beq_eq_false_iff_ne.mpr c3
  have c3b1 : (a1 != 0) = true := bne_iff_ne.mpr c3
  by_cases c4 : (Int.tmod a0 a1) < 0
  ·rw [if_pos c4] at H
   have c4b0 : decide ((Int.tmod a0 a1) < 0) = true := decide_eq_true c4
   clear c4
   obtain rfl := Option.some.inj H
   go_enter Tryz.func66, Tryz.ntmps66
   go_wp2
   go_ret
   exact ⟨by first | rfl | (simp; done) | (simp [*]; done), by repeat (first | exact Drawn0.refl _ | apply Drawn0.step)⟩
  ·rw [if_neg c4] at H
   have c4b0 : decide ((Int.tmod a0 a1) < 0) = false := decide_eq_false c4
   clear c4
   obtain rfl := Option.some.inj H
   go_enter Tryz.func66, Tryz.ntmps66
   go_wp2
   go_ret
   exact ⟨by first | rfl | (simp; done) | (simp [*]; done), by repeat (first | exact Drawn0.refl _ | apply Drawn0.step)⟩

end Go.Proofs.YtpndhkeoljoapaaGreat.P
