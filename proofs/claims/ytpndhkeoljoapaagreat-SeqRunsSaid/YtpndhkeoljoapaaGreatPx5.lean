/- What these Go functions compute, as Lean functions, and that they do. No condition. -/
import Derived.Test.YtpndhkeoljoapaaGreatPx0
import Derived.Test.YtpndhkeoljoapaaGreatPx4
namespace Go.Proofs.YtpndhkeoljoapaaGreat.P
open Go.RowKit Go.Proofs.YtpndhkeoljoapaaGreatW.PrintWords Go.Proofs.YtpndhkeoljoapaaGreatW.PrintLast Go.Proofs.YtpndhkeoljoapaaGreatW.PrintMore
attribute [local go_sem] max2_int min2_int max_two min_two max_three min_three max_four min_four   -- for this text's walks alone
set_option linter.unusedVariables false
set_option linter.unusedSimpArgs false
set_option linter.unnecessarySimpa false

/-! ### prog_step: function 43 (given) -/
/-- A number by another one, rounded down. -/
def downV (a b : Int) : Int := a / b
theorem downV_range (a b M : Int) (hb : 0 < b) (h1 : -M ≤ a) (h2 : a ≤ M) : -M ≤ downV a b ∧ downV a b ≤ M := by
 unfold downV
 by_cases ha : 0 ≤ a
 ·have := Int.ediv_nonneg ha (show 0 ≤ b by omega)
  have := Int.ediv_le_self b ha
  omega
 ·have h3 : a / b < 0 := Int.ediv_neg_of_neg_of_pos (by omega) hb
  have h4 : a ≤ a / b := by
   rw [Int.le_ediv_iff_mul_le hb]
   have := Int.mul_le_mul_of_nonpos_left (show a ≤ 0 by omega) (show (1 : Int) ≤ b by omega)
   omega
  omega
theorem down_ok (a b : Int) (hb : 0 < b) (hb2 : b ≤ 1000000) (h1 : -1000000000000000000 ≤ a) (h2 : a ≤ 1000000000000000000) : prog_down.f a b = some (downV a b) := by
 have hr := downV_range a b 1000000000000000000 hb h1 h2
 unfold prog_down.f
 unfold downV at hr ⊢
 rw [if_neg (by omega), Int.tdiv_eq_ediv, Int.tmod_eq_emod]
 have hm := Int.emod_nonneg a (show b ≠ 0 by omega)
 have hl := Int.emod_lt_of_pos a hb
 have hn : ((b.natAbs : Nat) : Int) = b := by omega
 have hsg : b.sign = 1 := Int.sign_eq_one_of_pos hb
 by_cases hc : 0 ≤ a ∨ b ∣ a
 ·rw [if_pos hc, if_pos hc, if_neg (by omega)]
  congr 1
  unfold wrap64
  omega
 ·rw [if_neg hc, if_neg hc, if_pos (by omega), hsg]
  congr 1
  unfold wrap64
  omega
def betterV (z came is : Bool) (value inn : Int) : Int × Bool × Bool × Int := if z = true then (value, false, true, value) else if (came && is) = true then (inn, false, true, inn) else (value, false, false, 0)
abbrev sMax : List UInt8 := [109, 97, 120]
abbrev sLabel : List UInt8 := [108, 97, 98, 101, 108]
abbrev sSssp : List UInt8 := [115, 115, 115, 112]
abbrev sBfs : List UInt8 := [98, 102, 115]
abbrev sDegree : List UInt8 := [100, 101, 103, 114, 101, 101]
abbrev sWalks : List UInt8 := [119, 97, 108, 107, 115]
/-- What rank comes to. -/
def rankV (at_ inn value : Int) : Int := if at_ > 0 then 9830 + downV (inn * 85) 100 else value
/-- A vertex's value behind a step, whether it goes on, whether it sends, and what. -/
def stepV (t : List UInt8) (source steps at_ id value : Int) (has : Bool) (inn edges : Int) : Int × Bool × Bool × Int :=
 if t = sMax then betterV (decide (at_ = 0)) (decide (at_ > 0) && has) (decide (inn > value)) value inn
 else if t = sLabel then betterV (decide (at_ = 0)) (decide (at_ > 0) && has) (decide (inn < value)) value inn
 else if (t == sSssp || t == sBfs) = true then (if at_ = 0 then (value, false, id == source, 0) else betterV false (decide (at_ > 0) && has) (decide (value < 0) || decide (inn < value)) value inn)
 else if t = sDegree then (if (decide (at_ > 0) && has) = true then (inn, false, false, 0) else (value, false, at_ == 0, 1))
 else if t = sWalks then (if at_ = 0 then (value, false, true, 1) else (value + inn, false, decide (at_ > 0) && has, inn))
 else if at_ = steps - 1 then (rankV at_ inn value, false, false, 0) else (rankV at_ inn value, true, decide (edges > 0), downV (rankV at_ inn value) (if edges > 1 then edges else 1))
def smallV (v : Int) : Prop := -1125899906842624 ≤ v ∧ v ≤ 1125899906842624
section
open Go.Shelf Go.Proofs.YtpndhkeoljoapaaGreat.Bridge
theorem results_tmp4 {fn : Func} {t u v x : Tmp} (h : fn.results = #[.tmp t, .tmp u, .tmp v, .tmp x]) (tmps : Array Value) (P : Program) (w : World) :
  (results fn tmps).run P w = .ok (.tuple #[tmps.getD t undef, tmps.getD u undef, tmps.getD v undef, tmps.getD x undef]) w := by
 simp [results, h]
set_option maxHeartbeats 8000000 in
set_option maxRecDepth 100000 in
theorem prog_step_1.on (is came : Bool) (b c d : Nat) (at_ value inn : Int) (W : World) (hb : W.cell? ⟨b, 0, none⟩ = some (.int .i64 at_)) (hc1 : W.cell? ⟨c, 1, none⟩ = some (.int .i64 value)) (hc4 : W.cell? ⟨c, 4, none⟩ = some (.int .i64 inn)) (hd : W.cell? ⟨d, 0, none⟩ = some (.bool came)) :
  Calls Tryz.prog 65 #[.bool is, .pointer (some ⟨b, 0, none⟩), .pointer (some ⟨c, 0, none⟩), .pointer (some ⟨d, 0, none⟩)] W fun e w' => e = .returned (.tuple #[.int .i64 (betterV (decide (at_ = 0)) came is value inn).1, .bool (betterV (decide (at_ = 0)) came is value inn).2.1, .bool (betterV (decide (at_ = 0)) came is value inn).2.2.1, .int .i64 (betterV (decide (at_ = 0)) came is value inn).2.2.2]) ∧ Below W.heap.size W w' := by
 have hu := Tryz.underlying50
 unfold betterV
 by_cases h0 : at_ = 0
 ·have z0 : (at_ == 0) = true := beq_iff_eq.mpr h0
  rw [decide_eq_true h0]
  simp only [if_true]
  clear h0
  go_enter Tryz.func65, Tryz.ntmps65
  go_wp2
  go_quiet (fail)
  go_wp2
  ((try simp only [Exit.inBlock, Exit.then]); refine bodyPost_ret (results_tmp4 rfl _ _ _) rfl ?_)
  exact ⟨rfl, by repeat (first | exact Below.refl _ _ | apply below_alloc | apply pw_below_drewN)⟩
 ·have z0 : (at_ == 0) = false := beq_eq_false_iff_ne.mpr h0
  rw [decide_eq_false h0]
  simp only [Bool.false_eq_true, if_false]
  clear h0
  cases came with
  | false =>
   simp only [Bool.false_and, Bool.false_eq_true, if_false]
   go_enter Tryz.func65, Tryz.ntmps65
   go_wp2
   ((try simp only [Exit.inBlock, Exit.then]); refine bodyPost_ret (results_tmp4 rfl _ _ _) rfl ?_)
   exact ⟨rfl, by repeat (first | exact Below.refl _ _ | apply below_alloc | apply pw_below_drewN)⟩
  | true =>
   cases is with
   | false =>
    simp only [Bool.and_false, Bool.false_eq_true, if_false]
    go_enter Tryz.func65, Tryz.ntmps65
    go_wp2
    ((try simp only [Exit.inBlock, Exit.then]); refine bodyPost_ret (results_tmp4 rfl _ _ _) rfl ?_)
    exact ⟨rfl, by repeat (first | exact Below.refl _ _ | apply below_alloc | apply pw_below_drewN)⟩
   | true =>
    simp only [Bool.and_true, if_true]
    go_enter Tryz.func65, Tryz.ntmps65
    go_wp2
    go_quiet (fail)
    go_wp2
    ((try simp only [Exit.inBlock, Exit.then]); refine bodyPost_ret (results_tmp4 rfl _ _ _) rfl ?_)
    exact ⟨rfl, by repeat (first | exact Below.refl _ _ | apply below_alloc | apply pw_below_drewN)⟩
set_option maxHeartbeats 8000000 in
set_option maxRecDepth 100000 in
theorem prog_step.w_sMax (tag : ByteArray) (source steps at_ id value : Int) (active has : Bool) (inn edges : Int) (w : World) (ht : tag.toList = sMax) (h0 : 0 ≤ at_) :
  Calls Tryz.prog 43 #[.agg #[.string tag, .int .i64 source, .int .i64 steps], .int .i64 at_, .agg #[.int .i64 id, .int .i64 value, .bool active, .bool has, .int .i64 inn], .int .i64 edges] w fun e w' => e = .returned (.tuple #[.int .i64 (stepV tag.toList source steps at_ id value has inn edges).1, .bool (stepV tag.toList source steps at_ id value has inn edges).2.1, .bool (stepV tag.toList source steps at_ id value has inn edges).2.2.1, .int .i64 (stepV tag.toList source steps at_ id value has inn edges).2.2.2]) ∧ Below w.heap.size w w' := by
 have hu1 := Tryz.underlying50
 have hu2 := Tryz.underlying26
 have e0 : (stepV tag.toList source steps at_ id value has inn edges) = betterV (decide (at_ = 0)) (decide (at_ > 0) && has) (decide (value < inn)) value inn := by
  unfold stepV
  rw [if_pos ht]
 rw [e0]
 clear e0
 have f_sMax : (tag.toList == ([109, 97, 120] : List UInt8)) = true := by rw [ht]; rfl
 clear ht
 by_cases hz : at_ = 0
 ·subst hz
  clear h0
  rw [show decide ((0 : Int) = 0) = true from rfl, show (decide ((0 : Int) > 0) && has) = false from rfl]
  have HC := fun W => prog_step_1.on (decide (value < inn)) false (w.heap.size + 1) (w.heap.size + 2) (w.heap.size + 3) 0 value inn W
  rw [show decide ((0 : Int) = 0) = true from rfl] at HC
  generalize betterV true false (decide (value < inn)) value inn = q at HC ⊢
  go_enter Tryz.func43, Tryz.ntmps43
  go_wp2_with (fail)
  refine (HC _ ?h1 ?h2 ?h3 ?h4).mono ?_
  case h1 => first | (go_simp; done) | (go_simp; rfl)
  case h2 => first | (go_simp; done) | (go_simp; rfl)
  case h3 => first | (go_simp; done) | (go_simp; rfl)
  case h4 => first | (go_simp; done) | (go_simp; rfl)
  rintro e w2 ⟨rfl, hb⟩
  have HB2 : Aside0 (Below w.heap.size w w2) := ⟨by
   refine Below.trans ?_ (hb.mono ?_)
   ·repeat (first | exact Below.refl _ _ | apply below_alloc | apply pw_below_drewN)
   ·simp; omega⟩
  clear hb
  go_wp2
  ((try simp only [Exit.inBlock, Exit.then]); refine bodyPost_ret (results_tmp4 rfl _ _ _) rfl ?_)
  exact ⟨rfl, HB2.out⟩
 ·have hp : decide (0 < at_) = true := decide_eq_true (by omega)
  have hz2 : (at_ == 0) = false := beq_eq_false_iff_ne.mpr hz
  rw [show decide (at_ = 0) = false from decide_eq_false hz, show decide (at_ > 0) = true from hp, Bool.true_and]
  cases has with
  | false =>
   have HC := fun W => prog_step_1.on (decide (value < inn)) false (w.heap.size + 1) (w.heap.size + 2) (w.heap.size + 3) at_ value inn W
   rw [show decide (at_ = 0) = false from decide_eq_false (by omega)] at HC
   generalize betterV false false (decide (value < inn)) value inn = q at HC ⊢
   clear hz h0
   go_enter Tryz.func43, Tryz.ntmps43
   go_wp2_with (fail)
   refine (HC _ ?h1 ?h2 ?h3 ?h4).mono ?_
   case h1 => first | (go_simp; done) | (go_simp; rfl)
   case h2 => first | (go_simp; done) | (go_simp; rfl)
   case h3 => first | (go_simp; done) | (go_simp; rfl)
   case h4 => first | (go_simp; done) | (go_simp; rfl)
   rintro e w2 ⟨rfl, hb⟩
   have HB2 : Aside0 (Below w.heap.size w w2) := ⟨by
    refine Below.trans ?_ (hb.mono ?_)
    ·repeat (first | exact Below.refl _ _ | apply below_alloc | apply pw_below_drewN)
    ·simp; omega⟩
   clear hb
   go_wp2
   ((try simp only [Exit.inBlock, Exit.then]); refine bodyPost_ret (results_tmp4 rfl _ _ _) rfl ?_)
   exact ⟨rfl, HB2.out⟩
  | true =>
   have HC := fun W => prog_step_1.on (decide (value < inn)) true (w.heap.size + 1) (w.heap.size + 2) (w.heap.size + 3) at_ value inn W
   rw [show decide (at_ = 0) = false from decide_eq_false (by omega)] at HC
   generalize betterV false true (decide (value < inn)) value inn = q at HC ⊢
   clear hz h0
   go_enter Tryz.func43, Tryz.ntmps43
   go_wp2_with (fail)
   refine (HC _ ?h1 ?h2 ?h3 ?h4).mono ?_
   case h1 => first | (go_simp; done) | (go_simp; rfl)
   case h2 => first | (go_simp; done) | (go_simp; rfl)
   case h3 => first | (go_simp; done) | (go_simp; rfl)
   case h4 => first | (go_simp; done) | (go_simp; rfl)
   rintro e w2 ⟨rfl, hb⟩
   have HB2 : Aside0 (Below w.heap.size w w2) := ⟨by
    refine Below.trans ?_ (hb.mono ?_)
    ·repeat (first | exact Below.refl _ _ | apply below_alloc | apply pw_below_drewN)
    ·simp; omega⟩
   clear hb
   go_wp2
   ((try simp only [Exit.inBlock, Exit.then]); refine bodyPost_ret (results_tmp4 rfl _ _ _) rfl ?_)
   exact ⟨rfl, HB2.out⟩
set_option maxHeartbeats 8000000 in
set_option maxRecDepth 100000 in
theorem prog_step.w_sLabel (tag : ByteArray) (source steps at_ id value : Int) (active has : Bool) (inn edges : Int) (w : World) (ht : tag.toList = sLabel) (h0 : 0 ≤ at_) :
  Calls Tryz.prog 43 #[.agg #[.string tag, .int .i64 source, .int .i64 steps], .int .i64 at_, .agg #[.int .i64 id, .int .i64 value, .bool active, .bool has, .int .i64 inn], .int .i64 edges] w fun e w' => e = .returned (.tuple #[.int .i64 (stepV tag.toList source steps at_ id value has inn edges).1, .bool (stepV tag.toList source steps at_ id value has inn edges).2.1, .bool (stepV tag.toList source steps at_ id value has inn edges).2.2.1, .int .i64 (stepV tag.toList source steps at_ id value has inn edges).2.2.2]) ∧ Below w.heap.size w w' := by
 have hu1 := Tryz.underlying50
 have hu2 := Tryz.underlying26
 have e0 : (stepV tag.toList source steps at_ id value has inn edges) = betterV (decide (at_ = 0)) (decide (at_ > 0) && has) (decide (inn < value)) value inn := by
  unfold stepV
  rw [if_neg (by rw [ht]; decide), if_pos ht]
 rw [e0]
 clear e0
 have f_sMax : (tag.toList == ([109, 97, 120] : List UInt8)) = false := by rw [ht]; rfl
 have f_sLabel : (tag.toList == ([108, 97, 98, 101, 108] : List UInt8)) = true := by rw [ht]; rfl
 clear ht
 by_cases hz : at_ = 0
 ·subst hz
  clear h0
  rw [show decide ((0 : Int) = 0) = true from rfl, show (decide ((0 : Int) > 0) && has) = false from rfl]
  have HC := fun W => prog_step_1.on (decide (inn < value)) false (w.heap.size + 1) (w.heap.size + 2) (w.heap.size + 3) 0 value inn W
  rw [show decide ((0 : Int) = 0) = true from rfl] at HC
  generalize betterV true false (decide (inn < value)) value inn = q at HC ⊢
  go_enter Tryz.func43, Tryz.ntmps43
  go_wp2_with (fail)
  refine (HC _ ?h1 ?h2 ?h3 ?h4).mono ?_
  case h1 => first | (go_simp; done) | (go_simp; rfl)
  case h2 => first | (go_simp; done) | (go_simp; rfl)
  case h3 => first | (go_simp; done) | (go_simp; rfl)
  case h4 => first | (go_simp; done) | (go_simp; rfl)
  rintro e w2 ⟨rfl, hb⟩
  have HB2 : Aside0 (Below w.heap.size w w2) := ⟨by
   refine Below.trans ?_ (hb.mono ?_)
   ·repeat (first | exact Below.refl _ _ | apply below_alloc | apply pw_below_drewN)
   ·simp; omega⟩
  clear hb
  go_wp2
  ((try simp only [Exit.inBlock, Exit.then]); refine bodyPost_ret (results_tmp4 rfl _ _ _) rfl ?_)
  exact ⟨rfl, HB2.out⟩
 ·have hp : decide (0 < at_) = true := decide_eq_true (by omega)
  have hz2 : (at_ == 0) = false := beq_eq_false_iff_ne.mpr hz
  rw [show decide (at_ = 0) = false from decide_eq_false hz, show decide (at_ > 0) = true from hp, Bool.true_and]
  cases has with
  | false =>
   have HC := fun W => prog_step_1.on (decide (inn < value)) false (w.heap.size + 1) (w.heap.size + 2) (w.heap.size + 3) at_ value inn W
   rw [show decide (at_ = 0) = false from decide_eq_false (by omega)] at HC
   generalize betterV false false (decide (inn < value)) value inn = q at HC ⊢
   clear hz h0
   go_enter Tryz.func43, Tryz.ntmps43
   go_wp2_with (fail)
   refine (HC _ ?h1 ?h2 ?h3 ?h4).mono ?_
   case h1 => first | (go_simp; done) | (go_simp; rfl)
   case h2 => first | (go_simp; done) | (go_simp; rfl)
   case h3 => first | (go_simp; done) | (go_simp; rfl)
   case h4 => first | (go_simp; done) | (go_simp; rfl)
   rintro e w2 ⟨rfl, hb⟩
   have HB2 : Aside0 (Below w.heap.size w w2) := ⟨by
    refine Below.trans ?_ (hb.mono ?_)
    ·repeat (first | exact Below.refl _ _ | apply below_alloc | apply pw_below_drewN)
    ·simp; omega⟩
   clear hb
   go_wp2
   ((try simp only [Exit.inBlock, Exit.then]); refine bodyPost_ret (results_tmp4 rfl _ _ _) rfl ?_)
   exact ⟨rfl, HB2.out⟩
  | true =>
   have HC := fun W => prog_step_1.on (decide (inn < value)) true (w.heap.size + 1) (w.heap.size + 2) (w.heap.size + 3) at_ value inn W
   rw [show decide (at_ = 0) = false from decide_eq_false (by omega)] at HC
   generalize betterV false true (decide (inn < value)) value inn = q at HC ⊢
   clear hz h0
   go_enter Tryz.func43, Tryz.ntmps43
   go_wp2_with (fail)
   refine (HC _ ?h1 ?h2 ?h3 ?h4).mono ?_
   case h1 => first | (go_simp; done) | (go_simp; rfl)
   case h2 => first | (go_simp; done) | (go_simp; rfl)
   case h3 => first | (go_simp; done) | (go_simp; rfl)
   case h4 => first | (go_simp; done) | (go_simp; rfl)
   rintro e w2 ⟨rfl, hb⟩
   have HB2 : Aside0 (Below w.heap.size w w2) := ⟨by
    refine Below.trans ?_ (hb.mono ?_)
    ·repeat (first | exact Below.refl _ _ | apply below_alloc | apply pw_below_drewN)
    ·simp; omega⟩
   clear hb
   go_wp2
   ((try simp only [Exit.inBlock, Exit.then]); refine bodyPost_ret (results_tmp4 rfl _ _ _) rfl ?_)
   exact ⟨rfl, HB2.out⟩
set_option maxHeartbeats 8000000 in
set_option maxRecDepth 100000 in
theorem prog_step.w_sSssp (tag : ByteArray) (source steps at_ id value : Int) (active has : Bool) (inn edges : Int) (w : World) (ht : tag.toList = sSssp) (h0 : 0 ≤ at_) :
  Calls Tryz.prog 43 #[.agg #[.string tag, .int .i64 source, .int .i64 steps], .int .i64 at_, .agg #[.int .i64 id, .int .i64 value, .bool active, .bool has, .int .i64 inn], .int .i64 edges] w fun e w' => e = .returned (.tuple #[.int .i64 (stepV tag.toList source steps at_ id value has inn edges).1, .bool (stepV tag.toList source steps at_ id value has inn edges).2.1, .bool (stepV tag.toList source steps at_ id value has inn edges).2.2.1, .int .i64 (stepV tag.toList source steps at_ id value has inn edges).2.2.2]) ∧ Below w.heap.size w w' := by
 have hu1 := Tryz.underlying50
 have hu2 := Tryz.underlying26
 have e0 : (stepV tag.toList source steps at_ id value has inn edges) = if at_ = 0 then (value, false, id == source, 0) else betterV false (decide (at_ > 0) && has) (decide (value < 0) || decide (inn < value)) value inn := by
  unfold stepV
  rw [if_neg (by rw [ht]; decide), if_neg (by rw [ht]; decide), if_pos (by rw [ht]; rfl)]
 rw [e0]
 clear e0
 have f_sMax : (tag.toList == ([109, 97, 120] : List UInt8)) = false := by rw [ht]; rfl
 have f_sLabel : (tag.toList == ([108, 97, 98, 101, 108] : List UInt8)) = false := by rw [ht]; rfl
 have f_sSssp : (tag.toList == ([115, 115, 115, 112] : List UInt8)) = true := by rw [ht]; rfl
 clear ht
 by_cases hz : at_ = 0
 ·subst hz
  clear h0
  rw [if_pos rfl]
  go_enter Tryz.func43, Tryz.ntmps43
  go_wp2
  go_quiet (fail)
  go_wp2
  ((try simp only [Exit.inBlock, Exit.then]); refine bodyPost_ret (results_tmp4 rfl _ _ _) rfl ?_)
  exact ⟨rfl, by repeat (first | exact Below.refl _ _ | apply below_alloc | apply pw_below_drewN)⟩
 ·have hp : decide (0 < at_) = true := decide_eq_true (by omega)
  have hz2 : (at_ == 0) = false := beq_eq_false_iff_ne.mpr hz
  rw [if_neg hz, show decide (at_ > 0) = true from hp, Bool.true_and]
  by_cases hv : value < 0
  ·have hv2 : decide (value < 0) = true := decide_eq_true hv
   rw [hv2, Bool.true_or]
   clear hv
   cases has with
   | false =>
    have HC := fun W => prog_step_1.on true false (w.heap.size + 1) (w.heap.size + 2) (w.heap.size + 3) at_ value inn W
    rw [show decide (at_ = 0) = false from decide_eq_false (by omega)] at HC
    generalize betterV false false true value inn = q at HC ⊢
    clear hz h0
    go_enter Tryz.func43, Tryz.ntmps43
    go_wp2_with (fail)
    refine (HC _ ?h1 ?h2 ?h3 ?h4).mono ?_
    case h1 => first | (go_simp; done) | (go_simp; rfl)
    case h2 => first | (go_simp; done) | (go_simp; rfl)
    case h3 => first | (go_simp; done) | (go_simp; rfl)
    case h4 => first | (go_simp; done) | (go_simp; rfl)
    rintro e w2 ⟨rfl, hb⟩
    have HB2 : Aside0 (Below w.heap.size w w2) := ⟨by
     refine Below.trans ?_ (hb.mono ?_)
     ·repeat (first | exact Below.refl _ _ | apply below_alloc | apply pw_below_drewN)
     ·simp; omega⟩
    clear hb
    go_wp2
    ((try simp only [Exit.inBlock, Exit.then]); refine bodyPost_ret (results_tmp4 rfl _ _ _) rfl ?_)
    exact ⟨rfl, HB2.out⟩
   | true =>
    have HC := fun W => prog_step_1.on true true (w.heap.size + 1) (w.heap.size + 2) (w.heap.size + 3) at_ value inn W
    rw [show decide (at_ = 0) = false from decide_eq_false (by omega)] at HC
    generalize betterV false true true value inn = q at HC ⊢
    clear hz h0
    go_enter Tryz.func43, Tryz.ntmps43
    go_wp2_with (fail)
    refine (HC _ ?h1 ?h2 ?h3 ?h4).mono ?_
    case h1 => first | (go_simp; done) | (go_simp; rfl)
    case h2 => first | (go_simp; done) | (go_simp; rfl)
    case h3 => first | (go_simp; done) | (go_simp; rfl)
    case h4 => first | (go_simp; done) | (go_simp; rfl)
    rintro e w2 ⟨rfl, hb⟩
    have HB2 : Aside0 (Below w.heap.size w w2) := ⟨by
     refine Below.trans ?_ (hb.mono ?_)
     ·repeat (first | exact Below.refl _ _ | apply below_alloc | apply pw_below_drewN)
     ·simp; omega⟩
    clear hb
    go_wp2
    ((try simp only [Exit.inBlock, Exit.then]); refine bodyPost_ret (results_tmp4 rfl _ _ _) rfl ?_)
    exact ⟨rfl, HB2.out⟩
  ·have hv2 : decide (value < 0) = false := decide_eq_false hv
   rw [hv2, Bool.false_or]
   clear hv
   cases has with
   | false =>
    have HC := fun W => prog_step_1.on (decide (inn < value)) false (w.heap.size + 1) (w.heap.size + 2) (w.heap.size + 3) at_ value inn W
    rw [show decide (at_ = 0) = false from decide_eq_false (by omega)] at HC
    generalize betterV false false (decide (inn < value)) value inn = q at HC ⊢
    clear hz h0
    go_enter Tryz.func43, Tryz.ntmps43
    go_wp2_with (fail)
    refine (HC _ ?h1 ?h2 ?h3 ?h4).mono ?_
    case h1 => first | (go_simp; done) | (go_simp; rfl)
    case h2 => first | (go_simp; done) | (go_simp; rfl)
    case h3 => first | (go_simp; done) | (go_simp; rfl)
    case h4 => first | (go_simp; done) | (go_simp; rfl)
    rintro e w2 ⟨rfl, hb⟩
    have HB2 : Aside0 (Below w.heap.size w w2) := ⟨by
     refine Below.trans ?_ (hb.mono ?_)
     ·repeat (first | exact Below.refl _ _ | apply below_alloc | apply pw_below_drewN)
     ·simp; omega⟩
    clear hb
    go_wp2
    ((try simp only [Exit.inBlock, Exit.then]); refine bodyPost_ret (results_tmp4 rfl _ _ _) rfl ?_)
    exact ⟨rfl, HB2.out⟩
   | true =>
    have HC := fun W => prog_step_1.on (decide (inn < value)) true (w.heap.size + 1) (w.heap.size + 2) (w.heap.size + 3) at_ value inn W
    rw [show decide (at_ = 0) = false from decide_eq_false (by omega)] at HC
    generalize betterV false true (decide (inn < value)) value inn = q at HC ⊢
    clear hz h0
    go_enter Tryz.func43, Tryz.ntmps43
    go_wp2_with (fail)
    refine (HC _ ?h1 ?h2 ?h3 ?h4).mono ?_
    case h1 => first | (go_simp; done) | (go_simp; rfl)
    case h2 => first | (go_simp; done) | (go_simp; rfl)
    case h3 => first | (go_simp; done) | (go_simp; rfl)
    case h4 => first | (go_simp; done) | (go_simp; rfl)
    rintro e w2 ⟨rfl, hb⟩
    have HB2 : Aside0 (Below w.heap.size w w2) := ⟨by
     refine Below.trans ?_ (hb.mono ?_)
     ·repeat (first | exact Below.refl _ _ | apply below_alloc | apply pw_below_drewN)
     ·simp; omega⟩
    clear hb
    go_wp2
    ((try simp only [Exit.inBlock, Exit.then]); refine bodyPost_ret (results_tmp4 rfl _ _ _) rfl ?_)
    exact ⟨rfl, HB2.out⟩
set_option maxHeartbeats 8000000 in
set_option maxRecDepth 100000 in
theorem prog_step.w_sBfs (tag : ByteArray) (source steps at_ id value : Int) (active has : Bool) (inn edges : Int) (w : World) (ht : tag.toList = sBfs) (h0 : 0 ≤ at_) :
  Calls Tryz.prog 43 #[.agg #[.string tag, .int .i64 source, .int .i64 steps], .int .i64 at_, .agg #[.int .i64 id, .int .i64 value, .bool active, .bool has, .int .i64 inn], .int .i64 edges] w fun e w' => e = .returned (.tuple #[.int .i64 (stepV tag.toList source steps at_ id value has inn edges).1, .bool (stepV tag.toList source steps at_ id value has inn edges).2.1, .bool (stepV tag.toList source steps at_ id value has inn edges).2.2.1, .int .i64 (stepV tag.toList source steps at_ id value has inn edges).2.2.2]) ∧ Below w.heap.size w w' := by
 have hu1 := Tryz.underlying50
 have hu2 := Tryz.underlying26
 have e0 : (stepV tag.toList source steps at_ id value has inn edges) = if at_ = 0 then (value, false, id == source, 0) else betterV false (decide (at_ > 0) && has) (decide (value < 0) || decide (inn < value)) value inn := by
  unfold stepV
  rw [if_neg (by rw [ht]; decide), if_neg (by rw [ht]; decide), if_pos (by rw [ht]; rfl)]
 rw [e0]
 clear e0
 have f_sMax : (tag.toList == ([109, 97, 120] : List UInt8)) = false := by rw [ht]; rfl
 have f_sLabel : (tag.toList == ([108, 97, 98, 101, 108] : List UInt8)) = false := by rw [ht]; rfl
 have f_sSssp : (tag.toList == ([115, 115, 115, 112] : List UInt8)) = false := by rw [ht]; rfl
 have f_sBfs : (tag.toList == ([98, 102, 115] : List UInt8)) = true := by rw [ht]; rfl
 clear ht
 by_cases hz : at_ = 0
 ·subst hz
  clear h0
  rw [if_pos rfl]
  go_enter Tryz.func43, Tryz.ntmps43
  go_wp2
  go_quiet (fail)
  go_wp2
  ((try simp only [Exit.inBlock, Exit.then]); refine bodyPost_ret (results_tmp4 rfl _ _ _) rfl ?_)
  exact ⟨rfl, by repeat (first | exact Below.refl _ _ | apply below_alloc | apply pw_below_drewN)⟩
 ·have hp : decide (0 < at_) = true := decide_eq_true (by omega)
  have hz2 : (at_ == 0) = false := beq_eq_false_iff_ne.mpr hz
  rw [if_neg hz, show decide (at_ > 0) = true from hp, Bool.true_and]
  by_cases hv : value < 0
  ·have hv2 : decide (value < 0) = true := decide_eq_true hv
   rw [hv2, Bool.true_or]
   clear hv
   cases has with
   | false =>
    have HC := fun W => prog_step_1.on true false (w.heap.size + 1) (w.heap.size + 2) (w.heap.size + 3) at_ value inn W
    rw [show decide (at_ = 0) = false from decide_eq_false (by omega)] at HC
    generalize betterV false false true value inn = q at HC ⊢
    clear hz h0
    go_enter Tryz.func43, Tryz.ntmps43
    go_wp2_with (fail)
    refine (HC _ ?h1 ?h2 ?h3 ?h4).mono ?_
    case h1 => first | (go_simp; done) | (go_simp; rfl)
    case h2 => first | (go_simp; done) | (go_simp; rfl)
    case h3 => first | (go_simp; done) | (go_simp; rfl)
    case h4 => first | (go_simp; done) | (go_simp; rfl)
    rintro e w2 ⟨rfl, hb⟩
    have HB2 : Aside0 (Below w.heap.size w w2) := ⟨by
     refine Below.trans ?_ (hb.mono ?_)
     ·repeat (first | exact Below.refl _ _ | apply below_alloc | apply pw_below_drewN)
     ·simp; omega⟩
    clear hb
    go_wp2
    ((try simp only [Exit.inBlock, Exit.then]); refine bodyPost_ret (results_tmp4 rfl _ _ _) rfl ?_)
    exact ⟨rfl, HB2.out⟩
   | true =>
    have HC := fun W => prog_step_1.on true true (w.heap.size + 1) (w.heap.size + 2) (w.heap.size + 3) at_ value inn W
    rw [show decide (at_ = 0) = false from decide_eq_false (by omega)] at HC
    generalize betterV false true true value inn = q at HC ⊢
    clear hz h0
    go_enter Tryz.func43, Tryz.ntmps43
    go_wp2_with (fail)
    refine (HC _ ?h1 ?h2 ?h3 ?h4).mono ?_
    case h1 => first | (go_simp; done) | (go_simp; rfl)
    case h2 => first | (go_simp; done) | (go_simp; rfl)
    case h3 => first | (go_simp; done) | (go_simp; rfl)
    case h4 => first | (go_simp; done) | (go_simp; rfl)
    rintro e w2 ⟨rfl, hb⟩
    have HB2 : Aside0 (Below w.heap.size w w2) := ⟨by
     refine Below.trans ?_ (hb.mono ?_)
     ·repeat (first | exact Below.refl _ _ | apply below_alloc | apply pw_below_drewN)
     ·simp; omega⟩
    clear hb
    go_wp2
    ((try simp only [Exit.inBlock, Exit.then]); refine bodyPost_ret (results_tmp4 rfl _ _ _) rfl ?_)
    exact ⟨rfl, HB2.out⟩
  ·have hv2 : decide (value < 0) = false := decide_eq_false hv
   rw [hv2, Bool.false_or]
   clear hv
   cases has with
   | false =>
    have HC := fun W => prog_step_1.on (decide (inn < value)) false (w.heap.size + 1) (w.heap.size + 2) (w.heap.size + 3) at_ value inn W
    rw [show decide (at_ = 0) = false from decide_eq_false (by omega)] at HC
    generalize betterV false false (decide (inn < value)) value inn = q at HC ⊢
    clear hz h0
    go_enter Tryz.func43, Tryz.ntmps43
    go_wp2_with (fail)
    refine (HC _ ?h1 ?h2 ?h3 ?h4).mono ?_
    case h1 => first | (go_simp; done) | (go_simp; rfl)
    case h2 => first | (go_simp; done) | (go_simp; rfl)
    case h3 => first | (go_simp; done) | (go_simp; rfl)
    case h4 => first | (go_simp; done) | (go_simp; rfl)
    rintro e w2 ⟨rfl, hb⟩
    have HB2 : Aside0 (Below w.heap.size w w2) := ⟨by
     refine Below.trans ?_ (hb.mono ?_)
     ·repeat (first | exact Below.refl _ _ | apply below_alloc | apply pw_below_drewN)
     ·simp; omega⟩
    clear hb
    go_wp2
    ((try simp only [Exit.inBlock, Exit.then]); refine bodyPost_ret (results_tmp4 rfl _ _ _) rfl ?_)
    exact ⟨rfl, HB2.out⟩
   | true =>
    have HC := fun W => prog_step_1.on (decide (inn < value)) true (w.heap.size + 1) (w.heap.size + 2) (w.heap.size + 3) at_ value inn W
    rw [show decide (at_ = 0) = false from decide_eq_false (by omega)] at HC
    generalize betterV false true (decide (inn < value)) value inn = q at HC ⊢
    clear hz h0
    go_enter Tryz.func43, Tryz.ntmps43
    go_wp2_with (fail)
    refine (HC _ ?h1 ?h2 ?h3 ?h4).mono ?_
    case h1 => first | (go_simp; done) | (go_simp; rfl)
    case h2 => first | (go_simp; done) | (go_simp; rfl)
    case h3 => first | (go_simp; done) | (go_simp; rfl)
    case h4 => first | (go_simp; done) | (go_simp; rfl)
    rintro e w2 ⟨rfl, hb⟩
    have HB2 : Aside0 (Below w.heap.size w w2) := ⟨by
     refine Below.trans ?_ (hb.mono ?_)
     ·repeat (first | exact Below.refl _ _ | apply below_alloc | apply pw_below_drewN)
     ·simp; omega⟩
    clear hb
    go_wp2
    ((try simp only [Exit.inBlock, Exit.then]); refine bodyPost_ret (results_tmp4 rfl _ _ _) rfl ?_)
    exact ⟨rfl, HB2.out⟩
set_option maxHeartbeats 8000000 in
set_option maxRecDepth 100000 in
theorem prog_step.w_sDegree (tag : ByteArray) (source steps at_ id value : Int) (active has : Bool) (inn edges : Int) (w : World) (ht : tag.toList = sDegree) (h0 : 0 ≤ at_) :
  Calls Tryz.prog 43 #[.agg #[.string tag, .int .i64 source, .int .i64 steps], .int .i64 at_, .agg #[.int .i64 id, .int .i64 value, .bool active, .bool has, .int .i64 inn], .int .i64 edges] w fun e w' => e = .returned (.tuple #[.int .i64 (stepV tag.toList source steps at_ id value has inn edges).1, .bool (stepV tag.toList source steps at_ id value has inn edges).2.1, .bool (stepV tag.toList source steps at_ id value has inn edges).2.2.1, .int .i64 (stepV tag.toList source steps at_ id value has inn edges).2.2.2]) ∧ Below w.heap.size w w' := by
 have hu1 := Tryz.underlying50
 have hu2 := Tryz.underlying26
 have e0 : (stepV tag.toList source steps at_ id value has inn edges) = if (decide (at_ > 0) && has) = true then (inn, false, false, 0) else (value, false, at_ == 0, 1) := by
  unfold stepV
  rw [if_neg (by rw [ht]; decide), if_neg (by rw [ht]; decide), if_neg (by rw [ht]; decide), if_pos ht]
 rw [e0]
 clear e0
 have f_sMax : (tag.toList == ([109, 97, 120] : List UInt8)) = false := by rw [ht]; rfl
 have f_sLabel : (tag.toList == ([108, 97, 98, 101, 108] : List UInt8)) = false := by rw [ht]; rfl
 have f_sSssp : (tag.toList == ([115, 115, 115, 112] : List UInt8)) = false := by rw [ht]; rfl
 have f_sBfs : (tag.toList == ([98, 102, 115] : List UInt8)) = false := by rw [ht]; rfl
 have f_sDegree : (tag.toList == ([100, 101, 103, 114, 101, 101] : List UInt8)) = true := by rw [ht]; rfl
 clear ht
 by_cases hz : at_ = 0
 ·subst hz
  clear h0
  rw [if_neg (by simp)]
  go_enter Tryz.func43, Tryz.ntmps43
  go_wp2
  go_quiet (fail)
  go_wp2
  ((try simp only [Exit.inBlock, Exit.then]); refine bodyPost_ret (results_tmp4 rfl _ _ _) rfl ?_)
  exact ⟨rfl, by repeat (first | exact Below.refl _ _ | apply below_alloc | apply pw_below_drewN)⟩
 ·have hp : decide (0 < at_) = true := decide_eq_true (by omega)
  have hz2 : (at_ == 0) = false := beq_eq_false_iff_ne.mpr hz
  rw [show decide (at_ > 0) = true from hp, Bool.true_and]
  cases has with
  | false =>
   rw [if_neg (by decide), hz2]
   clear hz h0
   go_enter Tryz.func43, Tryz.ntmps43
   go_wp2
   go_quiet (fail)
   go_wp2
   ((try simp only [Exit.inBlock, Exit.then]); refine bodyPost_ret (results_tmp4 rfl _ _ _) rfl ?_)
   exact ⟨rfl, by repeat (first | exact Below.refl _ _ | apply below_alloc | apply pw_below_drewN)⟩
  | true =>
   rw [if_pos rfl]
   clear hz h0
   go_enter Tryz.func43, Tryz.ntmps43
   go_wp2
   ((try simp only [Exit.inBlock, Exit.then]); refine bodyPost_ret (results_tmp4 rfl _ _ _) rfl ?_)
   exact ⟨rfl, by repeat (first | exact Below.refl _ _ | apply below_alloc | apply pw_below_drewN)⟩
set_option maxHeartbeats 8000000 in
set_option maxRecDepth 100000 in
theorem prog_step.w_sWalks (tag : ByteArray) (source steps at_ id value : Int) (active has : Bool) (inn edges : Int) (w : World) (ht : tag.toList = sWalks) (h0 : 0 ≤ at_) (hv : smallV value) (hi : smallV inn) :
  Calls Tryz.prog 43 #[.agg #[.string tag, .int .i64 source, .int .i64 steps], .int .i64 at_, .agg #[.int .i64 id, .int .i64 value, .bool active, .bool has, .int .i64 inn], .int .i64 edges] w fun e w' => e = .returned (.tuple #[.int .i64 (stepV tag.toList source steps at_ id value has inn edges).1, .bool (stepV tag.toList source steps at_ id value has inn edges).2.1, .bool (stepV tag.toList source steps at_ id value has inn edges).2.2.1, .int .i64 (stepV tag.toList source steps at_ id value has inn edges).2.2.2]) ∧ Below w.heap.size w w' := by
 have hu1 := Tryz.underlying50
 have hu2 := Tryz.underlying26
 have e0 : (stepV tag.toList source steps at_ id value has inn edges) = if at_ = 0 then (value, false, true, 1) else (value + inn, false, decide (at_ > 0) && has, inn) := by
  unfold stepV
  rw [if_neg (by rw [ht]; decide), if_neg (by rw [ht]; decide), if_neg (by rw [ht]; decide), if_neg (by rw [ht]; decide), if_pos ht]
 rw [e0]
 clear e0
 have f_sMax : (tag.toList == ([109, 97, 120] : List UInt8)) = false := by rw [ht]; rfl
 have f_sLabel : (tag.toList == ([108, 97, 98, 101, 108] : List UInt8)) = false := by rw [ht]; rfl
 have f_sSssp : (tag.toList == ([115, 115, 115, 112] : List UInt8)) = false := by rw [ht]; rfl
 have f_sBfs : (tag.toList == ([98, 102, 115] : List UInt8)) = false := by rw [ht]; rfl
 have f_sDegree : (tag.toList == ([100, 101, 103, 114, 101, 101] : List UInt8)) = false := by rw [ht]; rfl
 have f_sWalks : (tag.toList == ([119, 97, 108, 107, 115] : List UInt8)) = true := by rw [ht]; rfl
 clear ht
 unfold smallV at hv hi
 have hw1 : IntKind.i64.wrap (value + inn) = value + inn := IntWalk.i64_in _ (by omega)
 have hw2 : wrap64 (value + inn) = value + inn := by unfold wrap64; omega
 clear hv hi
 by_cases hz : at_ = 0
 ·subst hz
  clear h0
  rw [if_pos rfl]
  go_enter Tryz.func43, Tryz.ntmps43
  go_wp2
  ((try simp only [Exit.inBlock, Exit.then]); refine bodyPost_ret (results_tmp4 rfl _ _ _) rfl ?_)
  exact ⟨rfl, by repeat (first | exact Below.refl _ _ | apply below_alloc | apply pw_below_drewN)⟩
 ·have hp : decide (0 < at_) = true := decide_eq_true (by omega)
  have hz2 : (at_ == 0) = false := beq_eq_false_iff_ne.mpr hz
  rw [if_neg hz, show decide (at_ > 0) = true from hp, Bool.true_and]
  cases has with
  | false =>
   clear hz h0
   go_enter Tryz.func43, Tryz.ntmps43
   go_wp2
   go_quiet (fail)
   go_wp2
   ((try simp only [Exit.inBlock, Exit.then]); refine bodyPost_ret (results_tmp4 rfl _ _ _) rfl ?_)
   exact ⟨rfl, by repeat (first | exact Below.refl _ _ | apply below_alloc | apply pw_below_drewN)⟩
  | true =>
   clear hz h0
   go_enter Tryz.func43, Tryz.ntmps43
   go_wp2
   go_quiet (fail)
   go_wp2
   ((try simp only [Exit.inBlock, Exit.then]); refine bodyPost_ret (results_tmp4 rfl _ _ _) rfl ?_)
   exact ⟨rfl, by repeat (first | exact Below.refl _ _ | apply below_alloc | apply pw_below_drewN)⟩
set_option maxHeartbeats 8000000 in
set_option maxRecDepth 100000 in
theorem prog_step.w_sRank (tag : ByteArray) (source steps at_ id value : Int) (active has : Bool) (inn edges : Int) (w : World) (n1 : ¬ tag.toList = sMax) (n2 : ¬ tag.toList = sLabel) (n3 : ¬ tag.toList = sSssp) (n4 : ¬ tag.toList = sBfs) (n5 : ¬ tag.toList = sDegree) (n6 : ¬ tag.toList = sWalks) (h0 : 0 ≤ at_) (hv : smallV value) (hi : smallV inn) (hs : 1 ≤ steps ∧ steps ≤ 1000000) (he : 0 ≤ edges ∧ edges ≤ 1000000) :
  Calls Tryz.prog 43 #[.agg #[.string tag, .int .i64 source, .int .i64 steps], .int .i64 at_, .agg #[.int .i64 id, .int .i64 value, .bool active, .bool has, .int .i64 inn], .int .i64 edges] w fun e w' => e = .returned (.tuple #[.int .i64 (stepV tag.toList source steps at_ id value has inn edges).1, .bool (stepV tag.toList source steps at_ id value has inn edges).2.1, .bool (stepV tag.toList source steps at_ id value has inn edges).2.2.1, .int .i64 (stepV tag.toList source steps at_ id value has inn edges).2.2.2]) ∧ Below w.heap.size w w' := by
 have hu1 := Tryz.underlying50
 have hu2 := Tryz.underlying26
 have e0 : (stepV tag.toList source steps at_ id value has inn edges) = if at_ = steps - 1 then (rankV at_ inn value, false, false, 0) else (rankV at_ inn value, true, decide (edges > 0), downV (rankV at_ inn value) (if edges > 1 then edges else 1)) := by
  unfold stepV
  rw [if_neg n1, if_neg n2, if_neg (by simp [beq_eq_false_iff_ne.mpr n3, beq_eq_false_iff_ne.mpr n4]), if_neg n5, if_neg n6]
 rw [e0]
 clear e0
 have f_sMax : (tag.toList == ([109, 97, 120] : List UInt8)) = false := beq_eq_false_iff_ne.mpr n1
 have f_sLabel : (tag.toList == ([108, 97, 98, 101, 108] : List UInt8)) = false := beq_eq_false_iff_ne.mpr n2
 have f_sSssp : (tag.toList == ([115, 115, 115, 112] : List UInt8)) = false := beq_eq_false_iff_ne.mpr n3
 have f_sBfs : (tag.toList == ([98, 102, 115] : List UInt8)) = false := beq_eq_false_iff_ne.mpr n4
 have f_sDegree : (tag.toList == ([100, 101, 103, 114, 101, 101] : List UInt8)) = false := beq_eq_false_iff_ne.mpr n5
 have f_sWalks : (tag.toList == ([119, 97, 108, 107, 115] : List UInt8)) = false := beq_eq_false_iff_ne.mpr n6
 unfold smallV at hv hi
 have hd1 := downV_range (inn * 85) 100 100000000000000000 (by omega) (by omega) (by omega)
 have HD1 : ∀ W, Calls Tryz.prog 66 #[.int .i64 (inn * 85), .int .i64 100] W fun e w' => e = .returned (.int .i64 (downV (inn * 85) 100)) ∧ Drawn0 W w' := fun W => prog_down.calls (inn * 85) 100 _ W (down_ok _ _ (by omega) (by omega) (by omega) (by omega))
 have hrr : -1000000000000000000 ≤ rankV at_ inn value ∧ rankV at_ inn value ≤ 1000000000000000000 := by unfold rankV; split <;> omega
 have hr : -2000000000000000000 ≤ 9830 + downV (inn * 85) 100 ∧ 9830 + downV (inn * 85) 100 ≤ 2000000000000000000 := by omega
 have hm1 : wrap64 (inn * 85) = inn * 85 := by unfold wrap64; omega
 have hm2 : wrap64 (9830 + downV (inn * 85) 100) = 9830 + downV (inn * 85) 100 := by unfold wrap64; omega
 have hm3 : wrap64 (steps - 1) = steps - 1 := by unfold wrap64; omega
 have HD2 : ∀ (n m : Int) W, -1000000000000000000 ≤ n → n ≤ 1000000000000000000 → 0 < m → m ≤ 1000000 → Calls Tryz.prog 66 #[.int .i64 n, .int .i64 m] W fun e w' => e = .returned (.int .i64 (downV n m)) ∧ Drawn0 W w' := fun n m W a b c d => prog_down.calls n m _ W (down_ok _ _ c d a b)
 by_cases hl : at_ = steps - 1
 ·rw [if_pos hl]
  have hl2 : (at_ == steps - 1) = true := beq_iff_eq.mpr hl
  by_cases hz : at_ = 0
  ·have hp : decide (0 < at_) = false := decide_eq_false (by omega)
   have er : rankV at_ inn value = value := by unfold rankV; rw [if_neg (by omega)]
   rw [er] at hrr ⊢
   clear er hl hz h0 hrr hd1 hr HD2 hv hi hs he n1 n2 n3 n4 n5 n6
   clear HD1
   go_enter Tryz.func43, Tryz.ntmps43
   go_wp2
   ((try simp only [Exit.inBlock, Exit.then]); refine bodyPost_ret (results_tmp4 rfl _ _ _) rfl ?_)
   exact ⟨by first | rfl | (simp only [hm2]; done) | (simp [hm2]; done), by repeat (first | exact Below.refl _ _ | apply below_alloc | apply pw_below_drewN)⟩
  ·have hp : decide (0 < at_) = true := decide_eq_true (by omega)
   have er : rankV at_ inn value = 9830 + downV (inn * 85) 100 := by unfold rankV; rw [if_pos (by omega)]
   rw [er] at hrr ⊢
   clear er hl hz h0 hrr hd1 hr HD2 hv hi hs he n1 n2 n3 n4 n5 n6
   generalize downV (inn * 85) 100 = dv at HD1 hm2 ⊢
   go_enter Tryz.func43, Tryz.ntmps43
   go_wp2_with (go_at_call 66; refine (HD1 _).mono ?_; rintro e w2 ⟨rfl, ⟨nd, rfl⟩⟩; clear HD1)
   ((try simp only [Exit.inBlock, Exit.then]); refine bodyPost_ret (results_tmp4 rfl _ _ _) rfl ?_)
   exact ⟨by first | rfl | (simp only [hm2]; done) | (simp [hm2]; done), by repeat (first | exact Below.refl _ _ | apply below_alloc | apply pw_below_drewN)⟩
 ·rw [if_neg hl]
  have hl2 : (at_ == steps - 1) = false := beq_eq_false_iff_ne.mpr hl
  by_cases hz : at_ = 0
  ·have hp : decide (0 < at_) = false := decide_eq_false (by omega)
   have er : rankV at_ inn value = value := by unfold rankV; rw [if_neg (by omega)]
   rw [er] at hrr ⊢
   by_cases hE : edges > 1
   ·have hE1 : decide (0 < edges) = true := decide_eq_true (by omega)
    have hE2 : decide (1 < edges) = true := decide_eq_true hE
    have hE4 : (edges < 1) = False := eq_false (by omega)
    have HR := fun W => HD2 value edges W (by omega) (by omega) (by omega) (by omega)
    rw [if_pos hE, show decide (edges > 0) = true from hE1]
    have hmx : ∀ W : World, True := fun _ => trivial
    clear er hl hz h0 hrr hd1 hr HD2 hv hi hs he n1 n2 n3 n4 n5 n6 hmx hE
    clear HD1
    go_enter Tryz.func43, Tryz.ntmps43
    go_wp2_with (go_at_call 66; refine (HR _).mono ?_; rintro e w3 ⟨rfl, ⟨nd3, rfl⟩⟩; clear HR)
    ((try simp only [Exit.inBlock, Exit.then]); refine bodyPost_ret (results_tmp4 rfl _ _ _) rfl ?_)
    exact ⟨by first | rfl | (simp only [hm2]; done) | (simp [hm2]; done), by repeat (first | exact Below.refl _ _ | apply below_alloc | apply pw_below_drewN)⟩
   ·rw [if_neg hE]
    have HR := fun W => HD2 value 1 W (by omega) (by omega) (by omega) (by omega)
    have hE2 : decide (1 < edges) = false := decide_eq_false hE
    rcases (show edges = 0 ∨ edges = 1 by omega) with hE0 | hE0
    ·subst hE0
     clear er hl hz h0 hrr hd1 hr HD2 hv hi hs he n1 n2 n3 n4 n5 n6 hE hE2
     clear HD1
     go_enter Tryz.func43, Tryz.ntmps43
     go_wp2_with (go_at_call 66; refine (HR _).mono ?_; rintro e w3 ⟨rfl, ⟨nd3, rfl⟩⟩; clear HR)
     ((try simp only [Exit.inBlock, Exit.then]); refine bodyPost_ret (results_tmp4 rfl _ _ _) rfl ?_)
     exact ⟨by first | rfl | (simp only [hm2]; done) | (simp [hm2]; done), by repeat (first | exact Below.refl _ _ | apply below_alloc | apply pw_below_drewN)⟩
    ·subst hE0
     clear er hl hz h0 hrr hd1 hr HD2 hv hi hs he n1 n2 n3 n4 n5 n6 hE hE2
     clear HD1
     go_enter Tryz.func43, Tryz.ntmps43
     go_wp2_with (go_at_call 66; refine (HR _).mono ?_; rintro e w3 ⟨rfl, ⟨nd3, rfl⟩⟩; clear HR)
     ((try simp only [Exit.inBlock, Exit.then]); refine bodyPost_ret (results_tmp4 rfl _ _ _) rfl ?_)
     exact ⟨by first | rfl | (simp only [hm2]; done) | (simp [hm2]; done), by repeat (first | exact Below.refl _ _ | apply below_alloc | apply pw_below_drewN)⟩
  ·have hp : decide (0 < at_) = true := decide_eq_true (by omega)
   have er : rankV at_ inn value = 9830 + downV (inn * 85) 100 := by unfold rankV; rw [if_pos (by omega)]
   rw [er] at hrr ⊢
   by_cases hE : edges > 1
   ·have hE1 : decide (0 < edges) = true := decide_eq_true (by omega)
    have hE2 : decide (1 < edges) = true := decide_eq_true hE
    have hE4 : (edges < 1) = False := eq_false (by omega)
    have HR := fun W => HD2 (9830 + downV (inn * 85) 100) edges W (by omega) (by omega) (by omega) (by omega)
    rw [if_pos hE, show decide (edges > 0) = true from hE1]
    have hmx : ∀ W : World, True := fun _ => trivial
    clear er hl hz h0 hrr hd1 hr HD2 hv hi hs he n1 n2 n3 n4 n5 n6 hmx hE
    generalize downV (inn * 85) 100 = dv at HD1 HR hm2 ⊢
    go_enter Tryz.func43, Tryz.ntmps43
    go_wp2_with (first | (go_at_call 66; refine (HD1 _).mono ?_; rintro e w2 ⟨rfl, ⟨nd, rfl⟩⟩; clear HD1) | (go_at_call 66; refine (HR _).mono ?_; rintro e w3 ⟨rfl, ⟨nd3, rfl⟩⟩; clear HR))
    ((try simp only [Exit.inBlock, Exit.then]); refine bodyPost_ret (results_tmp4 rfl _ _ _) rfl ?_)
    exact ⟨by first | rfl | (simp only [hm2]; done) | (simp [hm2]; done), by repeat (first | exact Below.refl _ _ | apply below_alloc | apply pw_below_drewN)⟩
   ·rw [if_neg hE]
    have HR := fun W => HD2 (9830 + downV (inn * 85) 100) 1 W (by omega) (by omega) (by omega) (by omega)
    have hE2 : decide (1 < edges) = false := decide_eq_false hE
    rcases (show edges = 0 ∨ edges = 1 by omega) with hE0 | hE0
    ·subst hE0
     clear er hl hz h0 hrr hd1 hr HD2 hv hi hs he n1 n2 n3 n4 n5 n6 hE hE2
     generalize downV (inn * 85) 100 = dv at HD1 HR hm2 ⊢
     go_enter Tryz.func43, Tryz.ntmps43
     go_wp2_with (first | (go_at_call 66; refine (HD1 _).mono ?_; rintro e w2 ⟨rfl, ⟨nd, rfl⟩⟩; clear HD1) | (go_at_call 66; refine (HR _).mono ?_; rintro e w3 ⟨rfl, ⟨nd3, rfl⟩⟩; clear HR))
     ((try simp only [Exit.inBlock, Exit.then]); refine bodyPost_ret (results_tmp4 rfl _ _ _) rfl ?_)
     exact ⟨by first | rfl | (simp only [hm2]; done) | (simp [hm2]; done), by repeat (first | exact Below.refl _ _ | apply below_alloc | apply pw_below_drewN)⟩
    ·subst hE0
     clear er hl hz h0 hrr hd1 hr HD2 hv hi hs he n1 n2 n3 n4 n5 n6 hE hE2
     generalize downV (inn * 85) 100 = dv at HD1 HR hm2 ⊢
     go_enter Tryz.func43, Tryz.ntmps43
     go_wp2_with (first | (go_at_call 66; refine (HD1 _).mono ?_; rintro e w2 ⟨rfl, ⟨nd, rfl⟩⟩; clear HD1) | (go_at_call 66; refine (HR _).mono ?_; rintro e w3 ⟨rfl, ⟨nd3, rfl⟩⟩; clear HR))
     ((try simp only [Exit.inBlock, Exit.then]); refine bodyPost_ret (results_tmp4 rfl _ _ _) rfl ?_)
     exact ⟨by first | rfl | (simp only [hm2]; done) | (simp [hm2]; done), by repeat (first | exact Below.refl _ _ | apply below_alloc | apply pw_below_drewN)⟩
/-- prog.step, whatever the tag. -/
theorem prog_step.on (tag : ByteArray) (source steps at_ id value : Int) (active has : Bool) (inn edges : Int) (w : World) (h0 : 0 ≤ at_) (hv : smallV value) (hi : smallV inn) (hs : 1 ≤ steps ∧ steps ≤ 1000000) (he : 0 ≤ edges ∧ edges ≤ 1000000) :
  Calls Tryz.prog 43 #[.agg #[.string tag, .int .i64 source, .int .i64 steps], .int .i64 at_, .agg #[.int .i64 id, .int .i64 value, .bool active, .bool has, .int .i64 inn], .int .i64 edges] w fun e w' => e = .returned (.tuple #[.int .i64 (stepV tag.toList source steps at_ id value has inn edges).1, .bool (stepV tag.toList source steps at_ id value has inn edges).2.1, .bool (stepV tag.toList source steps at_ id value has inn edges).2.2.1, .int .i64 (stepV tag.toList source steps at_ id value has inn edges).2.2.2]) ∧ Below w.heap.size w w' := by
 by_cases n1 : tag.toList = sMax
 ·exact prog_step.w_sMax tag source steps at_ id value active has inn edges w n1 h0
 by_cases n2 : tag.toList = sLabel
 ·exact prog_step.w_sLabel tag source steps at_ id value active has inn edges w n2 h0
 by_cases n3 : tag.toList = sSssp
 ·exact prog_step.w_sSssp tag source steps at_ id value active has inn edges w n3 h0
 by_cases n4 : tag.toList = sBfs
 ·exact prog_step.w_sBfs tag source steps at_ id value active has inn edges w n4 h0
 by_cases n5 : tag.toList = sDegree
 ·exact prog_step.w_sDegree tag source steps at_ id value active has inn edges w n5 h0
 by_cases n6 : tag.toList = sWalks
 ·exact prog_step.w_sWalks tag source steps at_ id value active has inn edges w n6 h0 hv hi
 exact prog_step.w_sRank tag source steps at_ id value active has inn edges w n1 n2 n3 n4 n5 n6 h0 hv hi hs he
end

/-! ### prog_weight: function 45 -/
def prog_weight.f (a0 : ByteArray) (a1_0 : Int) (a1_1 : Int) (a1_2 : Int) : Option (Int) := if a0.toList = ([115, 115, 115, 112] : List UInt8) then (some a1_2) else (if a0.toList = ([98, 102, 115] : List UInt8) then (some 1) else (some 0))
set_option maxHeartbeats 8000000 in
set_option maxRecDepth 100000 in
theorem prog_weight.calls (a0 : ByteArray) (a1_0 : Int) (a1_1 : Int) (a1_2 : Int) (r : Int) (w : World) (h : prog_weight.f a0 a1_0 a1_1 a1_2 = some r) :
  Calls Tryz.prog 45 #[.string a0, .agg #[.int .i64 a1_0, .int .i64 a1_1, .int .i64 a1_2]] w fun e w' => e = .returned (.int .i64 r) ∧ Below w.heap.size w w' := by
 have hu48 := Tryz.underlying48
 have HB := Aside0.mk (Below.refl w.heap.size w)
 have H : (if a0.toList = ([115, 115, 115, 112] : List UInt8) then (some a1_2) else (if a0.toList = ([98, 102, 115] : List UInt8) then (some 1) else (some 0))) = some r := h
 clear h
 by_cases c3 : a0.toList = ([115, 115, 115, 112] : List UInt8)
 ·rw [if_pos c3] at H
  have c3b0 : (a0.toList == ([115, 115, 115, 112] : List UInt8)) = true := beq_iff_eq.mpr c3
  have c3b1 : (a0.toList != ([115, 115, 115, 112] : List UInt8)) = false := bne_eq_false_iff_eq.mpr c3
  clear c3
  obtain rfl := Option.some.inj H
  go_enter Tryz.func45, Tryz.ntmps45
  go_wp2_with (first | ((with_reducible refine gate_dst (N := 3) rfl ?_); refine bE_ #[.int .i64 a1_0, .int .i64 a1_1, .int .i64 a1_2] 48 ?_; intro gb111 hg w4 hbox hb; have BK111 := Aside0.mk hbox; have GW111 := gS hg HB; have GE111 := gS hg HB; replace HB := bS HB hb; clear hb hbox hg; obtain ⟨_, _, _, _, _, _⟩ := q3z w4 BK111.out))
  go_ret
  exact ⟨by first | rfl | (simp [errW_none, errW_some] <;> rfl) | (simp [*, errW_none, errW_some] <;> rfl), by exact kB HB.out⟩
 ·rw [if_neg c3] at H
  have c3b0 : (a0.toList == ([115, 115, 115, 112] : List UInt8)) = false := beq_eq_false_iff_ne.mpr c3
  have c3b1 : (a0.toList != ([115, 115, 115, 112] : List UInt8)) = true := bne_iff_ne.mpr c3
  by_cases c6 : a0.toList = ([98, 102, 115] : List UInt8)
  ·rw [if_pos c6] at H
   have c6b0 : (a0.toList == ([98, 102, 115] : List UInt8)) = true := beq_iff_eq.mpr c6
   have c6b1 : (a0.toList != ([98, 102, 115] : List UInt8)) = false := bne_eq_false_iff_eq.mpr c6
   clear c6
   obtain rfl := Option.some.inj H
   go_enter Tryz.func45, Tryz.ntmps45
   go_wp2_with (first | ((with_reducible refine gate_dst (N := 3) rfl ?_); refine bE_ #[.int .i64 a1_0, .int .i64 a1_1, .int .i64 a1_2] 48 ?_; intro gb111 hg w7 hbox hb; have BK111 := Aside0.mk hbox; have GW111 := gS hg HB; have GE111 := gS hg HB; replace HB := bS HB hb; clear hb hbox hg))
   go_ret
   exact ⟨by first | rfl | (simp [errW_none, errW_some] <;> rfl) | (simp [*, errW_none, errW_some] <;> rfl), by exact kB HB.out⟩
  ·rw [if_neg c6] at H
   have c6b0 : (a0.toList == ([98, 102, 115] : List UInt8)) = false := beq_eq_false_iff_ne.mpr c6
   have c6b1 : (a0.toList != ([98, 102, 115] : List UInt8)) = true := bne_iff_ne.mpr c6
   obtain rfl := Option.some.inj H
   go_enter Tryz.func45, Tryz.ntmps45
   go_wp2_with (first | ((with_reducible refine gate_dst (N := 3) rfl ?_); refine bE_ #[.int .i64 a1_0, .int .i64 a1_1, .int .i64 a1_2] 48 ?_; intro gb111 hg w8 hbox hb; have BK111 := Aside0.mk hbox; have GW111 := gS hg HB; have GE111 := gS hg HB; replace HB := bS HB hb; clear hb hbox hg))
   go_ret
   exact ⟨by first | rfl | (simp [errW_none, errW_some] <;> rfl) | (simp [*, errW_none, errW_some] <;> rfl), by exact kB HB.out⟩

end Go.Proofs.YtpndhkeoljoapaaGreat.P
