/- What these Go functions compute, as Lean functions, and that they do. No condition. -/
import Derived.Test.YtdmihkffjbapjaaPx0
import Derived.Test.YtdmihkffjbapjaaPx3
namespace Go.Proofs.Ytdmihkffjbapjaa.P
open Go.RowKit Go.Proofs.YtdmihkffjbapjaaW.PrintWords Go.Proofs.YtdmihkffjbapjaaW.PrintLast Go.Proofs.YtdmihkffjbapjaaW.PrintMore
attribute [local go_sem] max2_int min2_int max_two min_two max_three min_three max_four min_four   -- for this text's walks alone
set_option linter.unusedVariables false
set_option linter.unusedSimpArgs false
set_option linter.unnecessarySimpa false

/-! ### graph_Check: function 32 (given) -/
/-- Is an edge none of a graph of n vertices? -/
def oddE (n : Int) (e : S46) : Bool := decide (e.f0 < 0) || decide (e.f0 ≥ n) || decide (e.f1 < 0) || decide (e.f1 ≥ n) || decide (e.f2 < 0) || decide (e.f2 > 1048576)
/-- Does an edge come twice? -/
def dupE : List S46 → Bool
 | [] => false
 | x :: l => l.any (fun y => y.f0 == x.f0 && y.f1 == x.f1) || dupE l
def badG (n : Int) (l : List S46) : Bool := decide (n < 1) || (decide (n > 64) || (decide ((l.length : Int) > 512) || l.any (oddE n)))
def graph_Check.f (a0_0 : Int) (l0_1 : List S46) : Option Int := if l0_1.length ≤ 9223372036854775806 then (if badG a0_0 l0_1 = true then some 50 else if dupE l0_1 = true then some 51 else some 0) else none
section
open Go.Shelf Go.Proofs.Ytdmihkffjbapjaa.Bridge
set_option maxHeartbeats 8000000 in
set_option maxRecDepth 100000 in
theorem graph_Check_1.on (n : Int) (b : Nat) (w : World) (hb : b < w.heap.size) (hc : w.cell? ⟨b, 0, none⟩ = some (.int .i64 n)) : PredOn Try.prog 41 #[.pointer (some ⟨b, 0, none⟩)] (fun x => .agg (encEdge x).toArray) (oddE n) w := fun W x hW => by
 have hu1 := Try.underlying46
 have hu2 := Try.underlying24
 have hc2 : W.cell? ⟨b, 0, none⟩ = some (.int .i64 n) := (hW.cell (p := ⟨b, 0, none⟩) hb).trans hc
 have hbW : b < W.heap.size := Nat.lt_of_lt_of_le hb hW.size
 have hne : b ≠ W.heap.size := by omega
 clear hc hb hW
 show Calls Try.prog 41 #[.agg #[.int .i64 x.f0, .int .i64 x.f1, .int .i64 x.f2], .pointer (some ⟨b, 0, none⟩)] W _
 unfold oddE
 go_enter Try.func41, Try.ntmps41
 go_wp2
 all_goals (go_ret; exact ⟨by first | rfl | (simp [*]; done), by repeat (first | exact Below.refl _ _ | apply below_alloc | apply pw_below_drewN)⟩)
set_option maxHeartbeats 8000000 in
theorem valuesE.calls (A : Option Addr) (n c : Nat) (W : World) : Calls Try.prog 44 #[.slice A n c] W fun e w' => e = .returned (.func (.func 51) #[] #[.pointer (some ⟨W.heap.size, 0, none⟩)]) ∧ w' = W.alloc (.cells #[.slice A n c] 22) := by
 go_enter Try.func44, Try.ntmps44
 go_wp2
 go_ret
 exact ⟨rfl, rfl⟩
/-- No edge comes twice. -/
def Simple (l : List S46) : Prop := l.Pairwise fun x y => ¬ (y.f0 = x.f0 ∧ y.f1 = x.f1)
theorem dupE_iff : ∀ l : List S46, dupE l = false ↔ Simple l
 | [] => by simp [dupE, Simple]
 | x :: l => by
  have ih := dupE_iff l
  unfold Simple at ih ⊢
  rw [List.pairwise_cons, ← ih]
  simp only [dupE, Bool.or_eq_false_iff, List.any_eq_false, Bool.and_eq_true, beq_iff_eq]
theorem simple_perm {l l' : List S46} (h : l'.Perm l) : Simple l' ↔ Simple l := by
 unfold Simple
 exact h.pairwise_iff fun h1 h2 => h1 ⟨h2.1.symm, h2.2.symm⟩
theorem simple_of_adjacent {l l' : List S46} (h : EdgesSorted l l') (ha : ∀ j (hj : j + 1 < l'.length), ¬ (l'[j].f0 = l'[j + 1].f0 ∧ l'[j].f1 = l'[j + 1].f1)) : Simple l := by
 rw [← simple_perm h.1]
 have hs := List.pairwise_iff_getElem.1 h.2
 refine List.pairwise_iff_getElem.2 fun i j hi hj hij => ?_
 have a1 := ha i (by omega)
 have a2 := hs i (i + 1) hi (by omega) (by omega)
 by_cases e : i + 1 = j
 ·subst e; omega
 ·have a3 := hs (i + 1) j (by omega) hj (by omega)
  omega
theorem dup_of_adjacent {l l' : List S46} (h : EdgesSorted l l') (j : Nat) (hj : j + 1 < l'.length) (he : l'[j].f0 = l'[j + 1].f0 ∧ l'[j].f1 = l'[j + 1].f1) : dupE l = true := by
 cases hd : dupE l with
 | true => rfl
 | false =>
  have := (simple_perm h.1).2 ((dupE_iff l).1 hd)
  exact absurd ⟨he.1.symm, he.2.symm⟩ (List.pairwise_iff_getElem.1 this j (j + 1) (by omega) hj (by omega))
theorem ge_of (n : Int) (hn : n ≤ 64) (l : List S46) (h : l.any (oddE n) = false) : ∃ g : List GE, g.map (·.1) = l := by
 have hall : ∀ x ∈ l, 0 ≤ x.f0 ∧ x.f0 < 64 ∧ 0 ≤ x.f1 ∧ x.f1 < 64 := fun x hx => by
  have := List.any_eq_false.1 h x hx
  simp only [oddE, Bool.or_eq_true, decide_eq_true_eq] at this
  omega
 exact ⟨l.pmap (fun x hx => (⟨x, hx⟩ : GE)) hall, by rw [List.map_pmap]; simp⟩
set_option maxHeartbeats 16000000 in
set_option maxRecDepth 100000 in
theorem graph_Check.bad (A0_1 : Option Addr) (a0_0 : Int) (c0_1 : Nat) (l0_1 : List S46) (w : World) (hr : Kd.C k46 w A0_1 l0_1.length l0_1) (hlen : l0_1.length ≤ 9223372036854775806) (h : badG a0_0 l0_1 = true) :
  Calls Try.prog 32 #[.agg #[.int .i64 a0_0, .slice A0_1 l0_1.length c0_1]] w fun e w' => e = .returned (.int .i64 50) ∧ Below w.heap.size w w' := by
 have hu := Try.underlying24
 have eg : ∀ args w, (callFunc 41 args).run Try.prog w = .ok (.enter 41 args) w := enters_of Try.func41 (by kernel_rfl) rfl
 have hb1 : Below w.heap.size w (w.alloc (.cells #[.int .i64 a0_0, .slice A0_1 l0_1.length c0_1] 24)) := below_alloc (Below.refl _ _) _
 have HH := hasEdge.on (oddE a0_0) 41 #[.pointer (some ⟨w.heap.size, 0, none⟩)] eg A0_1 c0_1 l0_1 _ (Kd.C_below hr hb1) hlen (graph_Check_1.on a0_0 w.heap.size _ (by simp) (by simp))
 have HB := Aside0.mk hb1
 clear hr hlen hb1
 by_cases c1 : a0_0 < 1
 ·have d1 : decide (a0_0 < 1) = true := decide_eq_true c1
  clear h c1 HH
  go_enter Try.func32, Try.ntmps32
  go_wp2
  go_ret
  exact ⟨rfl, by repeat (first | exact Below.refl _ _ | apply below_alloc | apply pw_below_drewN)⟩
 ·have d1 : decide (a0_0 < 1) = false := decide_eq_false c1
  by_cases c2 : a0_0 > 64
  ·have d2 : decide (64 < a0_0) = true := decide_eq_true c2
   clear h c1 c2 HH
   go_enter Try.func32, Try.ntmps32
   go_wp2
   go_ret
   exact ⟨rfl, by repeat (first | exact Below.refl _ _ | apply below_alloc | apply pw_below_drewN)⟩
  ·have d2 : decide (64 < a0_0) = false := decide_eq_false c2
   by_cases c3 : (l0_1.length : Int) > 512
   ·have d3 : decide ((512 : Int) < (l0_1.length : Int)) = true := decide_eq_true c3
    have d3n : decide (512 < l0_1.length) = true := decide_eq_true (by omega)
    clear h c1 c2 c3 HH
    go_enter Try.func32, Try.ntmps32
    go_wp2
    go_ret
    exact ⟨rfl, by repeat (first | exact Below.refl _ _ | apply below_alloc | apply pw_below_drewN)⟩
   ·have d3 : decide ((512 : Int) < (l0_1.length : Int)) = false := decide_eq_false c3
    have d3n : decide (512 < l0_1.length) = false := decide_eq_false (by omega)
    have h4 : l0_1.any (oddE a0_0) = true := by
     unfold badG at h
     simpa [c1, c2, show ¬ ((512 : Int) < (l0_1.length : Int)) from c3, show ¬ (512 < l0_1.length) by omega] using h
    rw [h4] at HH
    clear h c1 c2 c3 h4
    go_enter Try.func32, Try.ntmps32
    go_wp2_with (go_at_call 42; refine HH.mono ?_; rintro e w' ⟨rfl, hb⟩; have HB2 := Aside0.mk (HB.out.trans (hb.mono HB.out.size)); clear hb)
    go_ret
    exact ⟨rfl, HB2.out⟩

theorem badG_not {n : Int} {l : List S46} (h : badG n l = false) : 1 ≤ n ∧ n ≤ 64 ∧ l.length ≤ 512 ∧ l.any (oddE n) = false := by
 unfold badG at h
 simp only [Bool.or_eq_false_iff, decide_eq_false_iff_not] at h
 exact ⟨by omega, by omega, by omega, h.2.2.2⟩
set_option maxHeartbeats 16000000 in
set_option maxRecDepth 100000 in
theorem graph_Check.good (A0_1 : Option Addr) (a0_0 : Int) (c0_1 : Nat) (l0_1 : List S46) (w : World) (hr : Kd.C k46 w A0_1 l0_1.length l0_1) (h : badG a0_0 l0_1 = false) :
  Calls Try.prog 32 #[.agg #[.int .i64 a0_0, .slice A0_1 l0_1.length c0_1]] w fun e w' => e = .returned (.int .i64 (if dupE l0_1 = true then 51 else 0)) ∧ Below w.heap.size w w' := by
 have hu := Try.underlying24
 have mixed : Try.prog.follows .mixedOrders = true := by kernel_rfl
 obtain ⟨n1, n2, n3, n4⟩ := badG_not h
 have eg : ∀ args w, (callFunc 41 args).run Try.prog w = .ok (.enter 41 args) w := enters_of Try.func41 (by kernel_rfl) rfl
 have hb1 : Below w.heap.size w (w.alloc (.cells #[.int .i64 a0_0, .slice A0_1 l0_1.length c0_1] 24)) := below_alloc (Below.refl _ _) _
 have HH := hasEdge.on (oddE a0_0) 41 #[.pointer (some ⟨w.heap.size, 0, none⟩)] eg A0_1 c0_1 l0_1 _ (Kd.C_below hr hb1) (by omega) (graph_Check_1.on a0_0 w.heap.size _ (by simp) (by simp))
 rw [n4] at HH
 obtain ⟨gl, hgl⟩ := ge_of a0_0 n2 l0_1 n4
 have hgll : gl.length = l0_1.length := by rw [← hgl]; simp
 have HSORT : ∀ W, Below w.heap.size w W → Calls Try.prog 43 #[.func (.func 51) #[] #[.pointer (some ⟨W.heap.size, 0, none⟩)], .func (.func 45) #[] #[]] (W.alloc (.cells #[.slice A0_1 l0_1.length c0_1] 22)) fun e w' => ∃ (v : Value) (l' : List GE), e = .returned v ∧ Kd.R k46 46 w' w.heap.size (fun _ => True) v (l'.map (·.1)) ∧ EdgesSorted l0_1 (l'.map (·.1)) ∧ Below w.heap.size w w' := fun W hW => by
  have hb2 := below_alloc hW (.cells #[.slice A0_1 l0_1.length c0_1] 22)
  have := sortedEdges.on W.heap.size A0_1 c0_1 gl (W.alloc (.cells #[.slice A0_1 l0_1.length c0_1] 22)) (by omega) (by simp) (by rw [hgll]; simp) (by rw [hgll, hgl]; exact Kd.C_below hr hb2)
  rw [hgl] at this
  refine this.mono ?_
  rintro e w' ⟨v, l', he, hR, hs, hb⟩
  have hall : ∀ x ∈ l', 0 ≤ x.f0 ∧ x.f0 < 64 ∧ 0 ≤ x.f1 ∧ x.f1 < 64 := fun x hx => by
   have := (hs.1.mem_iff (a := x)).1 hx
   rw [← hgl] at this
   obtain ⟨y, _, rfl⟩ := List.mem_map.1 this
   exact y.2
  refine ⟨v, l'.pmap (fun x hx => (⟨x, hx⟩ : GE)) hall, he, ?_, ?_, hb2.trans (hb.mono hb2.size)⟩
  ·rw [List.map_pmap]; simpa using Kd.R_lower hR hb2.size
  ·rw [List.map_pmap]; simpa using hs
 have HDUP1 := Aside0.mk (fun (l' : List S46) (hs : EdgesSorted l0_1 l') j hj he => dup_of_adjacent hs j hj he)
 have HDUP2 := Aside0.mk (fun (l' : List S46) (hs : EdgesSorted l0_1 l') ha => (dupE_iff l0_1).2 (simple_of_adjacent hs ha))
 have HB := Aside0.mk hb1
 have d1 : decide (a0_0 < 1) = false := decide_eq_false (by omega)
 have d2 : decide (64 < a0_0) = false := decide_eq_false (by omega)
 have d3 : decide ((512 : Int) < (l0_1.length : Int)) = false := decide_eq_false (by omega)
 have d3n : decide (512 < l0_1.length) = false := decide_eq_false (by omega)
 have HN3 := Aside0.mk n3
 have HV := valuesE.calls A0_1 l0_1.length c0_1
 clear h n1 n2 n3 n4 hr hb1 hgl hgll eg
 generalize dupE l0_1 = dp at HDUP1 HDUP2 ⊢
 go_enter Try.func32, Try.ntmps32
 go_wp2_with (first | (go_at_call 42; refine HH.mono ?_; rintro e w2 ⟨rfl, hb⟩; have HB2 := Aside0.mk (HB.out.trans (hb.mono HB.out.size)); have hc1 := (hb.cell (p := ⟨w.heap.size, 1, none⟩) (by simp)).trans (show _ = some (.slice A0_1 l0_1.length c0_1) by simp); clear hb HH) | (go_at_call 44; refine (HV _).mono ?_; rintro e w3 ⟨rfl, rfl⟩) | (go_at_call 43; refine (HSORT _ HB2.out).mono ?_; rintro e w4 ⟨v4, l4, rfl, hr4, hs4, hb4⟩; have HR4 := Aside0.mk hr4; have HS4 := Aside0.mk hs4; have HB4 := Aside0.mk hb4; clear hr4 hs4 hb4 HSORT))
 obtain ⟨A4, c4, e4⟩ := Kd.R_slice HR4.out
 subst e4
 obtain ⟨hl4, hc4, hC4⟩ := Kd.R_reads' HR4.out
 have HC4 := Aside0.mk hC4
 have HL4 : Aside0 (l4.length ≤ 512) := ⟨by have := HS4.out.1.length_eq; have := HN3.out; simp only [List.length_map] at *; omega⟩
 rw [List.length_map] at hl4 hc4 ⊢
 clear hl4 hc4 hC4 HR4 HB HB2 hc1 HV d1 d2 d3 d3n
 go_loopg [5] (l4.length) (fun kq v5 w' => ∃ j : Nat, v5 = .int .i64 ((j + 1 : Nat) : Int) ∧ Aside0 (j + kq = l4.length) ∧ Aside0 (∀ i (hi : i < j) (h2 : i + 1 < l4.length), cfEdge l4[i] l4[i + 1] ≠ 0) ∧ Aside0 (Below w4.heap.size w4 w'))
 case atStart => exact ⟨0, rfl, ⟨by omega⟩, ⟨fun i hi => absurd hi (Nat.not_lt_zero _)⟩, ⟨Below.refl _ _⟩⟩
 case round =>
  obtain ⟨j, rfl, HJ, HN, HBW⟩ := hrel
  by_cases hlt : j + 1 < l4.length
  ·have c1 : decide (((j + 1 : Nat) : Int) < (l4.length : Int)) = true := decide_eq_true (by omega)
   have c1n : decide (j + 1 < l4.length) = true := decide_eq_true hlt
   have hCw := Kd.C_below HC4.out HBW.out
   obtain ⟨ad, e1, hx0, hx1, hx2⟩ := at_T46 hCw (j : Int) (by omega) (by simp; omega)
   obtain ⟨ad', e2, hy0, hy1, hy2⟩ := at_T46 hCw ((j + 1 : Nat) : Int) (by omega) (by simp; omega)
   cases e1
   cases e2
   rw [rd_edge _ j (by simp; omega), Int.toNat_natCast, List.getElem_map] at hx0 hx1 hx2
   rw [rd_edge _ (j + 1) (by simp; omega), Int.toNat_natCast, List.getElem_map] at hy0 hy1 hy2
   have HE : Aside0 (∀ (h1 : j < l4.length) (h2 : j + 1 < l4.length), cfEdge l4[j] l4[j + 1] = 0 → dp = true) := ⟨fun h1 h2 he => HDUP1.out _ HS4.out j (by simpa using h2) (by
    rw [List.getElem_map, List.getElem_map]
    unfold cfEdge at he
    split at he <;> omega)⟩
   obtain ⟨x, hx⟩ : ∃ x : GE, l4[j]'(by omega) = x := ⟨l4[j]'(by omega), rfl⟩
   obtain ⟨y, hy⟩ : ∃ y : GE, l4[j + 1]'hlt = y := ⟨l4[j + 1]'hlt, rfl⟩
   rw [hx] at hx0 hx1 hx2
   rw [hy] at hy0 hy1 hy2
   have HX : Aside0 (∀ (h1 : j < l4.length) (h2 : j + 1 < l4.length), l4[j] = x ∧ l4[j + 1] = y) := ⟨fun _ _ => ⟨hx, hy⟩⟩
   have ha := World.block_lt_of_cell? _ _ hx0
   have ha1 := World.block_lt_of_cell? _ _ hx1
   have hb := World.block_lt_of_cell? _ _ hy0
   have k0 := fun n os => Go.cell_grown ha hx0 n os
   have k1 := fun n os => Go.cell_grown ha1 hx1 n os
   have k2 := fun n os => Go.cell_grown (World.block_lt_of_cell? _ _ hx2) hx2 n os
   have m0 := fun n os => Go.cell_grown hb hy0 n os
   have m1 := fun n os => Go.cell_grown (World.block_lt_of_cell? _ _ hy1) hy1 n os
   have m2 := fun n os => Go.cell_grown (World.block_lt_of_cell? _ _ hy2) hy2 n os
   have HLT := Aside0.mk hlt
   obtain ⟨gk1, rfl⟩ : ∃ m, gk = m + 1 := ⟨gk - 1, by have := HJ.out; omega⟩
   have s1 : IntKind.i64.wrap (j : Int) = (j : Int) := by simp only [IntKind.wrap, IntKind.bits, IntKind.signed]; have := HL4.out; simp; omega
   have s3 : 0 ≤ (j : Int) := by omega
   have s4 : (j : Int) < (l4.length : Int) := by omega
   have s4n : j < l4.length := by omega
   have s5 : 0 ≤ (j : Int) + 1 := by omega
   have s6 : (j : Int) + 1 < (l4.length : Int) := by omega
   have s7 : ((j : Int) + 1).toNat = j + 1 := by omega
   have sw : wrap64 ((j : Int) + 1 + 1) = (j : Int) + 1 + 1 := by unfold wrap64; have := HL4.out; omega
   clear hx hy hx0 hx1 hx2 hy0 hy1 hy2 ha ha1 hb hCw
   have hcall : ∀ n os, Calls Try.prog 45 #[.agg #[.int .i64 x.1.f0, .int .i64 x.1.f1, .int .i64 x.1.f2], .agg #[.int .i64 y.1.f0, .int .i64 y.1.f1, .int .i64 y.1.f2]] (Go.Sort.grow (wr.drewN n) os) fun e w' => e = .returned (.int .i64 (cfEdge x y)) ∧ ∃ q os', w' = Go.Sort.grow ((Go.Sort.grow (wr.drewN n) os).drewN q) os' := fun n os => (graph_compare.grown x y _).mono fun _ _ ⟨he, hg⟩ => ⟨he, hg.out⟩
   by_cases hz : cfEdge x y = 0
   ·have hd : dp = true := HE.out (by omega) hlt (by have := HX.out (by omega) hlt; rw [this.1, this.2]; exact hz)
    subst hd
    rw [hz] at hcall
    clear hz HE HX HDUP1 HDUP2 hlt
    go_wp2
    go_quiet_grown ((go_at_call 45; refine Go.Calls.grown_of (hcall _ _)))
    go_wp2
    go_ret
    exact ⟨rfl, HB4.out.trans ((HBW.out.mono HB4.out.size).trans ((Grw.below ⟨⟨nq, osq, rfl⟩⟩).mono (Nat.le_trans HB4.out.size HBW.out.size)))⟩
   ·have z1 : (cfEdge x y == 0) = false := beq_eq_false_iff_ne.mpr hz
    have HN2 : Aside0 (∀ i (hi : i < j + 1) (h2 : i + 1 < l4.length), cfEdge l4[i] l4[i + 1] ≠ 0) := ⟨fun i hi h2 => by
     by_cases e : i = j
     ·subst e; have := HX.out (by omega) h2; rw [this.1, this.2]; exact hz
     ·exact HN.out i (by omega) h2⟩
    generalize cfEdge x y = cf at hcall z1
    clear hz HE HX HDUP1 HDUP2 HN hlt
    go_wp2
    go_quiet_grown ((go_at_call 45; refine Go.Calls.grown_of (hcall _ _)))
    go_wp2
    go_roundg gk1
    case measure => omega
    case rel => exact ⟨j + 1, by go_num, ⟨by have := HJ.out; omega⟩, HN2, ⟨HBW.out.trans ((Grw.below ⟨⟨nq, osq, rfl⟩⟩).mono HBW.out.size)⟩⟩
  ·have c1 : decide (((j + 1 : Nat) : Int) < (l4.length : Int)) = false := decide_eq_false (by omega)
   have c1b : decide ((j : Int) + 1 < (l4.length : Int)) = false := decide_eq_false (by omega)
   have c1n : decide (j + 1 < l4.length) = false := decide_eq_false hlt
   have hd : dp = false := HDUP2.out _ HS4.out fun i hi he => by
    rw [List.length_map] at hi
    rw [List.getElem_map, List.getElem_map] at he
    refine HN.out i (by have := HJ.out; omega) hi ?_
    unfold cfEdge
    rw [if_pos he.1]; omega
   subst hd
   clear HDUP1 HDUP2 HN HJ hlt
   go_wp2
   go_ret
   exact ⟨rfl, HB4.out.trans (HBW.out.mono HB4.out.size)⟩
theorem graph_Check.calls (a0_0 : Int) (A0_1 : Option Addr) (c0_1 : Nat) (l0_1 : List S46) (r : Int) (w : World) (hr0_1 : Kd.C k46 w A0_1 l0_1.length l0_1) (hc0_1 : l0_1.length ≤ c0_1) (h : graph_Check.f a0_0 l0_1 = some r) :
  Calls Try.prog 32 #[.agg #[.int .i64 a0_0, .slice A0_1 l0_1.length c0_1]] w fun e w' => e = .returned (.int .i64 r) ∧ Below w.heap.size w w' := by
 unfold graph_Check.f at h
 by_cases hl : l0_1.length ≤ 9223372036854775806
 ·rw [if_pos hl] at h
  cases hb : badG a0_0 l0_1 with
  | true =>
   rw [hb, if_pos rfl] at h
   obtain rfl := Option.some.inj h
   exact graph_Check.bad A0_1 a0_0 c0_1 l0_1 w hr0_1 hl hb
  | false =>
   rw [hb] at h
   simp only [Bool.false_eq_true, if_false] at h
   have := graph_Check.good A0_1 a0_0 c0_1 l0_1 w hr0_1 hb
   cases hd : dupE l0_1 with
   | true => rw [hd, if_pos rfl] at h; obtain rfl := Option.some.inj h; rw [hd, if_pos rfl] at this; exact this
   | false => rw [hd, if_neg (by simp)] at h; obtain rfl := Option.some.inj h; rw [hd, if_neg (by simp)] at this; exact this
 ·rw [if_neg hl] at h
  exact absurd h (by simp)
end

/-! ### prog_Check: function 15 -/
def prog_Check.f (k : Nat) (a0_0 : Int) (l0_1 : List (S46)) (a1_0 : ByteArray) (a1_1 : Int) (a1_2 : Int) : Option (Int) := (graph_Check.f a0_0 l0_1).bind fun t109 => (if t109 = 0 then ((prog_Known.f k a1_0).bind fun t110 => (if t110 = true then (if a1_1 < 0 then (some 70) else (if a1_1 ≥ a0_0 then (some 70) else (if a1_2 < 1 then (some 70) else (if a1_2 > 64 then (some 70) else (some 0))))) else (some 70))) else (some 70))
theorem prog_Check.mono : ∀ a0 a1 a2 a3 a4 k, LeO (prog_Check.f k a0 a1 a2 a3 a4) (prog_Check.f (k + 1) a0 a1 a2 a3 a4) := by
 intro a0 a1 a2 a3 a4 k
 unfold prog_Check.f
 repeat' first
   | (with_reducible exact prog_Known.mono _ _)
   | (with_reducible exact LeO.refl _)
   | (with_reducible exact LeO.none _)
   | (with_reducible refine LeO.ite ?_ ?_)
   | (with_reducible refine LeO.bind ?_ (fun _ => ?_))
   | exact prog_Known.mono _ _
   | exact LeO.none _
   | refine LeO.ite ?_ ?_
   | refine LeO.bind ?_ (fun _ => ?_)
set_option maxHeartbeats 8000000 in
set_option maxRecDepth 100000 in
theorem prog_Check.calls (k : Nat) (a0_0 : Int) (A0_1 : Option Addr) (c0_1 : Nat) (l0_1 : List (S46)) (a1_0 : ByteArray) (a1_1 : Int) (a1_2 : Int) (r : Int) (w : World) (hr0_1 : Kd.C k46 w A0_1 l0_1.length l0_1) (hc0_1 : l0_1.length ≤ c0_1) (h : prog_Check.f k a0_0 l0_1 a1_0 a1_1 a1_2 = some r) :
  Calls Try.prog 15 #[.agg #[.int .i64 a0_0, .slice A0_1 l0_1.length c0_1], .agg #[.string a1_0, .int .i64 a1_1, .int .i64 a1_2]] w fun e w' => e = .returned (.int .i64 r) ∧ Below w.heap.size w w' := by
 have hu24 := Try.underlying24
 have hu26 := Try.underlying26
 have HR0_1 := Aside0.mk hr0_1
 have HC0_1 := Aside0.mk hc0_1
 clear hr0_1 hc0_1
 have HB := Aside0.mk (Below.refl w.heap.size w)
 have H : ((graph_Check.f a0_0 l0_1).bind fun t109 => (if t109 = 0 then ((prog_Known.f k a1_0).bind fun t110 => (if t110 = true then (if a1_1 < 0 then (some 70) else (if a1_1 ≥ a0_0 then (some 70) else (if a1_2 < 1 then (some 70) else (if a1_2 > 64 then (some 70) else (some 0))))) else (some 70))) else (some 70))) = some r := h
 clear h
 replace H := Option.bind_eq_some_iff.mp H
 obtain ⟨t109, A30, H⟩ := H
 replace H : (if t109 = 0 then ((prog_Known.f k a1_0).bind fun t110 => (if t110 = true then (if a1_1 < 0 then (some 70) else (if a1_1 ≥ a0_0 then (some 70) else (if a1_2 < 1 then (some 70) else (if a1_2 > 64 then (some 70) else (some 0))))) else (some 70))) else (some 70)) = some r := H
 have A3 := Aside0.mk A30
 clear A30
 by_cases c4 : t109 = 0
 ·rw [if_pos c4] at H
  have c4b0 : (t109 == 0) = true := beq_iff_eq.mpr c4
  have c4b1 : (t109 != 0) = false := bne_eq_false_iff_eq.mpr c4
  clear c4
  replace H := Option.bind_eq_some_iff.mp H
  obtain ⟨t110, A50, H⟩ := H
  replace H : (if t110 = true then (if a1_1 < 0 then (some 70) else (if a1_1 ≥ a0_0 then (some 70) else (if a1_2 < 1 then (some 70) else (if a1_2 > 64 then (some 70) else (some 0))))) else (some 70)) = some r := H
  have A5 := Aside0.mk A50
  clear A50
  by_cases c6 : t110 = true
  ·subst c6
   have H1 : (if a1_1 < 0 then (some 70) else (if a1_1 ≥ a0_0 then (some 70) else (if a1_2 < 1 then (some 70) else (if a1_2 > 64 then (some 70) else (some 0))))) = some r := by rw [if_pos rfl] at H; exact H
   clear H
   have H := H1
   clear H1
   by_cases c7 : a1_1 < 0
   ·rw [if_pos c7] at H
    have c7b0 := decide_eq_true c7
    clear c7
    obtain rfl := Option.some.inj H
    go_enter Try.func15, Try.ntmps15
    go_wp2_with (first | ((with_reducible refine gate_dst (N := 2) rfl ?_); refine box_event ?hg (N := 2) ?hd (cs := #[.int .i64 a0_0, .slice A0_1 l0_1.length c0_1]) (t := 24) ?hr ?_; (case hd => rfl); (case hg => rfl); (case hr => first | (go_simp; done) | (go_simp; rfl)); intro gb107 hg w8 hbox hb; have n0_ := Aside0.mk (below_step (kB HB.out) hb); have n1_ := Aside0.mk (hbox); have n2_ := Aside0.mk ((by rw [hg]; exact (below_size (kB HB.out)) : w.heap.size ≤ gb107)); have n3_ := Aside0.mk ((by rw [hg]; exact (below_size (kB HB.out)) : w.heap.size ≤ gb107)); clear HB; have HB := n0_; have BK107 := n1_; have GW107 := n2_; have GE107 := n3_; clear n0_ n1_ n2_ n3_; clear hb hbox hg) | ((with_reducible refine gate_dst (N := 3) rfl ?_); refine box_event ?hg (N := 3) ?hd (cs := #[.string a1_0, .int .i64 a1_1, .int .i64 a1_2]) (t := 26) ?hr ?_; (case hd => rfl); (case hg => rfl); (case hr => first | (go_simp; done) | (go_simp; rfl)); intro gb108 hg w9 hbox hb; have n0_ := Aside0.mk (blk_below (g := gb107) (o := .cells #[.int .i64 a0_0, .slice A0_1 l0_1.length c0_1] 24 (0, 0)) (kA BK107.out) hb); have n1_ := Aside0.mk (below_step (kB HB.out) hb); have n2_ := Aside0.mk (hbox); have n3_ := Aside0.mk ((by rw [hg]; exact (below_size (kB HB.out)) : w.heap.size ≤ gb108)); have n4_ := Aside0.mk ((by rw [hg]; exact (below_size (kB HB.out)) : w.heap.size ≤ gb108)); have n5_ := Aside0.mk ((by rw [hg]; exact Nat.ne_of_lt (blk_lt (g := gb107) (o := .cells #[.int .i64 a0_0, .slice A0_1 l0_1.length c0_1] 24 (0, 0)) (kA BK107.out)) : gb107 ≠ gb108)); have n6_ := Aside0.mk ((by rw [hg]; exact Nat.ne_of_gt (blk_lt (g := gb107) (o := .cells #[.int .i64 a0_0, .slice A0_1 l0_1.length c0_1] 24 (0, 0)) (kA BK107.out)) : gb108 ≠ gb107)); clear BK107; clear HB; have BK107 := n0_; have HB := n1_; have BK108 := n2_; have GW108 := n3_; have GE108 := n4_; have NB107_108 := n5_; have NB108_107 := n6_; clear n0_ n1_ n2_ n3_ n4_ n5_ n6_; clear hb hbox hg; have hnb10 := NB107_108.out; have hnc10 := NB108_107.out; have hcz11_0 : w9.cell? ⟨gb107, 0, none⟩ = some (.int .i64 a0_0) := (blk_cell BK107.out 0).trans rfl; have hcz11_1 : w9.cell? ⟨gb107, 1, none⟩ = some (.slice A0_1 l0_1.length c0_1) := (blk_cell BK107.out 1).trans rfl; have hfz11_0 := blk_frozen BK107.out 0; have hfz11_1 := blk_frozen BK107.out 1) | ((with_reducible refine gate_callee (f := 32) rfl ?_); refine goesL_ (some 6) rfl rfl Try.func32 (by kernel_rfl) rfl #[.agg #[.int .i64 a0_0, .slice A0_1 l0_1.length c0_1]] rfl (by (try simp only [List.map_toArray, List.map_cons, List.map_nil]); first | done | rfl | (simp only [List.length_drop, List.length_take]; rfl)) ?_; (with_reducible refine (graph_Check.calls a0_0 _ _ l0_1 t109 _ ?side1 ?side2 A3.out).mono ?_); (case side1 => repeat (first | exact (Kd.C_below HR0_1.out HB.out) | (with_reducible refine Kd.C_alloc ?_ _) | (with_reducible refine Kd.C_drewN ?_ _) | (with_reducible refine Kd.C_drew ?_))); (case side2 => exact HC0_1.out); rintro e w12 ⟨rfl, hb⟩; refine ⟨_, rfl, ?_⟩; have n0_ := Aside0.mk (blk_below (g := gb107) (o := .cells #[.int .i64 a0_0, .slice A0_1 l0_1.length c0_1] 24 (0, 0)) (kA BK107.out) hb); have n1_ := Aside0.mk (blk_below (g := gb108) (o := .cells #[.string a1_0, .int .i64 a1_1, .int .i64 a1_2] 26 (0, 0)) (kA BK108.out) hb); have n2_ := Aside0.mk (below_step (kB HB.out) hb); clear BK107; clear BK108; clear HB; have BK107 := n0_; have BK108 := n1_; have HB := n2_; clear n0_ n1_ n2_; (try clear hb); (try clear hb2); (try clear hk); (try clear hi); have hcz13_0 : w12.cell? ⟨gb108, 0, none⟩ = some (.string a1_0) := (blk_cell BK108.out 0).trans rfl; have hcz13_1 : w12.cell? ⟨gb108, 1, none⟩ = some (.int .i64 a1_1) := (blk_cell BK108.out 1).trans rfl; have hcz13_2 : w12.cell? ⟨gb108, 2, none⟩ = some (.int .i64 a1_2) := (blk_cell BK108.out 2).trans rfl; have hfz13_0 := blk_frozen BK108.out 0; have hfz13_1 := blk_frozen BK108.out 1; have hfz13_2 := blk_frozen BK108.out 2) | (go_at_call 19; (with_reducible refine (prog_Known.calls k a1_0 true _ A5.out).mono ?_); rintro e w14 ⟨rfl, hb⟩; have n0_ := Aside0.mk (blk_below (g := gb107) (o := .cells #[.int .i64 a0_0, .slice A0_1 l0_1.length c0_1] 24 (0, 0)) (kA BK107.out) hb); have n1_ := Aside0.mk (blk_below (g := gb108) (o := .cells #[.string a1_0, .int .i64 a1_1, .int .i64 a1_2] 26 (0, 0)) (kA BK108.out) hb); have n2_ := Aside0.mk (below_step (kB HB.out) hb); clear BK107; clear BK108; clear HB; have BK107 := n0_; have BK108 := n1_; have HB := n2_; clear n0_ n1_ n2_; (try clear hb); (try clear hb2); (try clear hk); (try clear hi); have hcz15_0 : w14.cell? ⟨gb108, 0, none⟩ = some (.string a1_0) := (blk_cell BK108.out 0).trans rfl; have hcz15_1 : w14.cell? ⟨gb108, 1, none⟩ = some (.int .i64 a1_1) := (blk_cell BK108.out 1).trans rfl; have hcz15_2 : w14.cell? ⟨gb108, 2, none⟩ = some (.int .i64 a1_2) := (blk_cell BK108.out 2).trans rfl; have hfz15_0 := blk_frozen BK108.out 0; have hfz15_1 := blk_frozen BK108.out 1; have hfz15_2 := blk_frozen BK108.out 2))
    go_ret
    exact ⟨by first | rfl | (simp [errW_none, errW_some] <;> rfl) | (simp [*, errW_none, errW_some] <;> rfl), by exact kB HB.out⟩
   ·rw [if_neg c7] at H
    have c7b0 := decide_eq_false c7
    clear c7
    by_cases c16 : a1_1 ≥ a0_0
    ·rw [if_pos c16] at H
     have c16b0 : decide (a0_0 ≤ a1_1) = true := decide_eq_true c16
     clear c16
     obtain rfl := Option.some.inj H
     go_enter Try.func15, Try.ntmps15
     go_wp2_with (first | ((with_reducible refine gate_dst (N := 2) rfl ?_); refine box_event ?hg (N := 2) ?hd (cs := #[.int .i64 a0_0, .slice A0_1 l0_1.length c0_1]) (t := 24) ?hr ?_; (case hd => rfl); (case hg => rfl); (case hr => first | (go_simp; done) | (go_simp; rfl)); intro gb107 hg w17 hbox hb; have n0_ := Aside0.mk (below_step (kB HB.out) hb); have n1_ := Aside0.mk (hbox); have n2_ := Aside0.mk ((by rw [hg]; exact (below_size (kB HB.out)) : w.heap.size ≤ gb107)); have n3_ := Aside0.mk ((by rw [hg]; exact (below_size (kB HB.out)) : w.heap.size ≤ gb107)); clear HB; have HB := n0_; have BK107 := n1_; have GW107 := n2_; have GE107 := n3_; clear n0_ n1_ n2_ n3_; clear hb hbox hg) | ((with_reducible refine gate_dst (N := 3) rfl ?_); refine box_event ?hg (N := 3) ?hd (cs := #[.string a1_0, .int .i64 a1_1, .int .i64 a1_2]) (t := 26) ?hr ?_; (case hd => rfl); (case hg => rfl); (case hr => first | (go_simp; done) | (go_simp; rfl)); intro gb108 hg w18 hbox hb; have n0_ := Aside0.mk (blk_below (g := gb107) (o := .cells #[.int .i64 a0_0, .slice A0_1 l0_1.length c0_1] 24 (0, 0)) (kA BK107.out) hb); have n1_ := Aside0.mk (below_step (kB HB.out) hb); have n2_ := Aside0.mk (hbox); have n3_ := Aside0.mk ((by rw [hg]; exact (below_size (kB HB.out)) : w.heap.size ≤ gb108)); have n4_ := Aside0.mk ((by rw [hg]; exact (below_size (kB HB.out)) : w.heap.size ≤ gb108)); have n5_ := Aside0.mk ((by rw [hg]; exact Nat.ne_of_lt (blk_lt (g := gb107) (o := .cells #[.int .i64 a0_0, .slice A0_1 l0_1.length c0_1] 24 (0, 0)) (kA BK107.out)) : gb107 ≠ gb108)); have n6_ := Aside0.mk ((by rw [hg]; exact Nat.ne_of_gt (blk_lt (g := gb107) (o := .cells #[.int .i64 a0_0, .slice A0_1 l0_1.length c0_1] 24 (0, 0)) (kA BK107.out)) : gb108 ≠ gb107)); clear BK107; clear HB; have BK107 := n0_; have HB := n1_; have BK108 := n2_; have GW108 := n3_; have GE108 := n4_; have NB107_108 := n5_; have NB108_107 := n6_; clear n0_ n1_ n2_ n3_ n4_ n5_ n6_; clear hb hbox hg; have hnb19 := NB107_108.out; have hnc19 := NB108_107.out; have hcz20_0 : w18.cell? ⟨gb107, 0, none⟩ = some (.int .i64 a0_0) := (blk_cell BK107.out 0).trans rfl; have hcz20_1 : w18.cell? ⟨gb107, 1, none⟩ = some (.slice A0_1 l0_1.length c0_1) := (blk_cell BK107.out 1).trans rfl; have hfz20_0 := blk_frozen BK107.out 0; have hfz20_1 := blk_frozen BK107.out 1) | ((with_reducible refine gate_callee (f := 32) rfl ?_); refine goesL_ (some 6) rfl rfl Try.func32 (by kernel_rfl) rfl #[.agg #[.int .i64 a0_0, .slice A0_1 l0_1.length c0_1]] rfl (by (try simp only [List.map_toArray, List.map_cons, List.map_nil]); first | done | rfl | (simp only [List.length_drop, List.length_take]; rfl)) ?_; (with_reducible refine (graph_Check.calls a0_0 _ _ l0_1 t109 _ ?side1 ?side2 A3.out).mono ?_); (case side1 => repeat (first | exact (Kd.C_below HR0_1.out HB.out) | (with_reducible refine Kd.C_alloc ?_ _) | (with_reducible refine Kd.C_drewN ?_ _) | (with_reducible refine Kd.C_drew ?_))); (case side2 => exact HC0_1.out); rintro e w21 ⟨rfl, hb⟩; refine ⟨_, rfl, ?_⟩; have n0_ := Aside0.mk (blk_below (g := gb107) (o := .cells #[.int .i64 a0_0, .slice A0_1 l0_1.length c0_1] 24 (0, 0)) (kA BK107.out) hb); have n1_ := Aside0.mk (blk_below (g := gb108) (o := .cells #[.string a1_0, .int .i64 a1_1, .int .i64 a1_2] 26 (0, 0)) (kA BK108.out) hb); have n2_ := Aside0.mk (below_step (kB HB.out) hb); clear BK107; clear BK108; clear HB; have BK107 := n0_; have BK108 := n1_; have HB := n2_; clear n0_ n1_ n2_; (try clear hb); (try clear hb2); (try clear hk); (try clear hi); have hcz22_0 : w21.cell? ⟨gb108, 0, none⟩ = some (.string a1_0) := (blk_cell BK108.out 0).trans rfl; have hcz22_1 : w21.cell? ⟨gb108, 1, none⟩ = some (.int .i64 a1_1) := (blk_cell BK108.out 1).trans rfl; have hcz22_2 : w21.cell? ⟨gb108, 2, none⟩ = some (.int .i64 a1_2) := (blk_cell BK108.out 2).trans rfl; have hfz22_0 := blk_frozen BK108.out 0; have hfz22_1 := blk_frozen BK108.out 1; have hfz22_2 := blk_frozen BK108.out 2) | (go_at_call 19; (with_reducible refine (prog_Known.calls k a1_0 true _ A5.out).mono ?_); rintro e w23 ⟨rfl, hb⟩; have n0_ := Aside0.mk (blk_below (g := gb107) (o := .cells #[.int .i64 a0_0, .slice A0_1 l0_1.length c0_1] 24 (0, 0)) (kA BK107.out) hb); have n1_ := Aside0.mk (blk_below (g := gb108) (o := .cells #[.string a1_0, .int .i64 a1_1, .int .i64 a1_2] 26 (0, 0)) (kA BK108.out) hb); have n2_ := Aside0.mk (below_step (kB HB.out) hb); clear BK107; clear BK108; clear HB; have BK107 := n0_; have BK108 := n1_; have HB := n2_; clear n0_ n1_ n2_; (try clear hb); (try clear hb2); (try clear hk); (try clear hi); have hcz24_0 : w23.cell? ⟨gb108, 0, none⟩ = some (.string a1_0) := (blk_cell BK108.out 0).trans rfl; have hcz24_1 : w23.cell? ⟨gb108, 1, none⟩ = some (.int .i64 a1_1) := (blk_cell BK108.out 1).trans rfl; have hcz24_2 : w23.cell? ⟨gb108, 2, none⟩ = some (.int .i64 a1_2) := (blk_cell BK108.out 2).trans rfl; have hfz24_0 := blk_frozen BK108.out 0; have hfz24_1 := blk_frozen BK108.out 1; have hfz24_2 := blk_frozen BK108.out 2; have hcz25_0 : w23.cell? ⟨gb107, 0, none⟩ = some (.int .i64 a0_0) := (blk_cell BK107.out 0).trans rfl; have hcz25_1 : w23.cell? ⟨gb107, 1, none⟩ = some (.slice A0_1 l0_1.length c0_1) := (blk_cell BK107.out 1).trans rfl; have hfz25_0 := blk_frozen BK107.out 0; have hfz25_1 := blk_frozen BK107.out 1))
     go_ret
     exact ⟨by first | rfl | (simp [errW_none, errW_some] <;> rfl) | (simp [*, errW_none, errW_some] <;> rfl), by exact kB HB.out⟩
    ·rw [if_neg c16] at H
     have c16b0 : decide (a0_0 ≤ a1_1) = false := decide_eq_false c16
     clear c16
     by_cases c26 : a1_2 < 1
     ·rw [if_pos c26] at H
      have c26b0 := decide_eq_true c26
      clear c26
      obtain rfl := Option.some.inj H
      go_enter Try.func15, Try.ntmps15
      go_wp2_with (first | ((with_reducible refine gate_dst (N := 2) rfl ?_); refine box_event ?hg (N := 2) ?hd (cs := #[.int .i64 a0_0, .slice A0_1 l0_1.length c0_1]) (t := 24) ?hr ?_; (case hd => rfl); (case hg => rfl); (case hr => first | (go_simp; done) | (go_simp; rfl)); intro gb107 hg w27 hbox hb; have n0_ := Aside0.mk (below_step (kB HB.out) hb); have n1_ := Aside0.mk (hbox); have n2_ := Aside0.mk ((by rw [hg]; exact (below_size (kB HB.out)) : w.heap.size ≤ gb107)); have n3_ := Aside0.mk ((by rw [hg]; exact (below_size (kB HB.out)) : w.heap.size ≤ gb107)); clear HB; have HB := n0_; have BK107 := n1_; have GW107 := n2_; have GE107 := n3_; clear n0_ n1_ n2_ n3_; clear hb hbox hg) | ((with_reducible refine gate_dst (N := 3) rfl ?_); refine box_event ?hg (N := 3) ?hd (cs := #[.string a1_0, .int .i64 a1_1, .int .i64 a1_2]) (t := 26) ?hr ?_; (case hd => rfl); (case hg => rfl); (case hr => first | (go_simp; done) | (go_simp; rfl)); intro gb108 hg w28 hbox hb; have n0_ := Aside0.mk (blk_below (g := gb107) (o := .cells #[.int .i64 a0_0, .slice A0_1 l0_1.length c0_1] 24 (0, 0)) (kA BK107.out) hb); have n1_ := Aside0.mk (below_step (kB HB.out) hb); have n2_ := Aside0.mk (hbox); have n3_ := Aside0.mk ((by rw [hg]; exact (below_size (kB HB.out)) : w.heap.size ≤ gb108)); have n4_ := Aside0.mk ((by rw [hg]; exact (below_size (kB HB.out)) : w.heap.size ≤ gb108)); have n5_ := Aside0.mk ((by rw [hg]; exact Nat.ne_of_lt (blk_lt (g := gb107) (o := .cells #[.int .i64 a0_0, .slice A0_1 l0_1.length c0_1] 24 (0, 0)) (kA BK107.out)) : gb107 ≠ gb108)); have n6_ := Aside0.mk ((by rw [hg]; exact Nat.ne_of_gt (blk_lt (g := gb107) (o := .cells #[.int .i64 a0_0, .slice A0_1 l0_1.length c0_1] 24 (0, 0)) (kA BK107.out)) : gb108 ≠ gb107)); clear BK107; clear HB; have BK107 := n0_; have HB := n1_; have BK108 := n2_; have GW108 := n3_; have GE108 := n4_; have NB107_108 := n5_; have NB108_107 := n6_; clear n0_ n1_ n2_ n3_ n4_ n5_ n6_; clear hb hbox hg; have hnb29 := NB107_108.out; have hnc29 := NB108_107.out; have hcz30_0 : w28.cell? ⟨gb107, 0, none⟩ = some (.int .i64 a0_0) := (blk_cell BK107.out 0).trans rfl; have hcz30_1 : w28.cell? ⟨gb107, 1, none⟩ = some (.slice A0_1 l0_1.length c0_1) := (blk_cell BK107.out 1).trans rfl; have hfz30_0 := blk_frozen BK107.out 0; have hfz30_1 := blk_frozen BK107.out 1) | ((with_reducible refine gate_callee (f := 32) rfl ?_); refine goesL_ (some 6) rfl rfl Try.func32 (by kernel_rfl) rfl #[.agg #[.int .i64 a0_0, .slice A0_1 l0_1.length c0_1]] rfl (by (try simp only [List.map_toArray, List.map_cons, List.map_nil]); first | done | rfl | (simp only [List.length_drop, List.length_take]; rfl)) ?_; (with_reducible refine (graph_Check.calls a0_0 _ _ l0_1 t109 _ ?side1 ?side2 A3.out).mono ?_); (case side1 => repeat (first | exact (Kd.C_below HR0_1.out HB.out) | (with_reducible refine Kd.C_alloc ?_ _) | (with_reducible refine Kd.C_drewN ?_ _) | (with_reducible refine Kd.C_drew ?_))); (case side2 => exact HC0_1.out); rintro e w31 ⟨rfl, hb⟩; refine ⟨_, rfl, ?_⟩; have n0_ := Aside0.mk (blk_below (g := gb107) (o := .cells #[.int .i64 a0_0, .slice A0_1 l0_1.length c0_1] 24 (0, 0)) (kA BK107.out) hb); have n1_ := Aside0.mk (blk_below (g := gb108) (o := .cells #[.string a1_0, .int .i64 a1_1, .int .i64 a1_2] 26 (0, 0)) (kA BK108.out) hb); have n2_ := Aside0.mk (below_step (kB HB.out) hb); clear BK107; clear BK108; clear HB; have BK107 := n0_; have BK108 := n1_; have HB := n2_; clear n0_ n1_ n2_; (try clear hb); (try clear hb2); (try clear hk); (try clear hi); have hcz32_0 : w31.cell? ⟨gb108, 0, none⟩ = some (.string a1_0) := (blk_cell BK108.out 0).trans rfl; have hcz32_1 : w31.cell? ⟨gb108, 1, none⟩ = some (.int .i64 a1_1) := (blk_cell BK108.out 1).trans rfl; have hcz32_2 : w31.cell? ⟨gb108, 2, none⟩ = some (.int .i64 a1_2) := (blk_cell BK108.out 2).trans rfl; have hfz32_0 := blk_frozen BK108.out 0; have hfz32_1 := blk_frozen BK108.out 1; have hfz32_2 := blk_frozen BK108.out 2) | (go_at_call 19; (with_reducible refine (prog_Known.calls k a1_0 true _ A5.out).mono ?_); rintro e w33 ⟨rfl, hb⟩; have n0_ := Aside0.mk (blk_below (g := gb107) (o := .cells #[.int .i64 a0_0, .slice A0_1 l0_1.length c0_1] 24 (0, 0)) (kA BK107.out) hb); have n1_ := Aside0.mk (blk_below (g := gb108) (o := .cells #[.string a1_0, .int .i64 a1_1, .int .i64 a1_2] 26 (0, 0)) (kA BK108.out) hb); have n2_ := Aside0.mk (below_step (kB HB.out) hb); clear BK107; clear BK108; clear HB; have BK107 := n0_; have BK108 := n1_; have HB := n2_; clear n0_ n1_ n2_; (try clear hb); (try clear hb2); (try clear hk); (try clear hi); have hcz34_0 : w33.cell? ⟨gb108, 0, none⟩ = some (.string a1_0) := (blk_cell BK108.out 0).trans rfl; have hcz34_1 : w33.cell? ⟨gb108, 1, none⟩ = some (.int .i64 a1_1) := (blk_cell BK108.out 1).trans rfl; have hcz34_2 : w33.cell? ⟨gb108, 2, none⟩ = some (.int .i64 a1_2) := (blk_cell BK108.out 2).trans rfl; have hfz34_0 := blk_frozen BK108.out 0; have hfz34_1 := blk_frozen BK108.out 1; have hfz34_2 := blk_frozen BK108.out 2; have hcz35_0 : w33.cell? ⟨gb107, 0, none⟩ = some (.int .i64 a0_0) := (blk_cell BK107.out 0).trans rfl; have hcz35_1 : w33.cell? ⟨gb107, 1, none⟩ = some (.slice A0_1 l0_1.length c0_1) := (blk_cell BK107.out 1).trans rfl; have hfz35_0 := blk_frozen BK107.out 0; have hfz35_1 := blk_frozen BK107.out 1))
      go_ret
      exact ⟨by first | rfl | (simp [errW_none, errW_some] <;> rfl) | (simp [*, errW_none, errW_some] <;> rfl), by exact kB HB.out⟩
     ·rw [if_neg c26] at H
      have c26b0 := decide_eq_false c26
      clear c26
      by_cases c36 : a1_2 > 64
      ·rw [if_pos c36] at H
       have c36b0 : decide (64 < a1_2) = true := decide_eq_true c36
       clear c36
       obtain rfl := Option.some.inj H
       go_enter Try.func15, Try.ntmps15
       go_wp2_with (first | ((with_reducible refine gate_dst (N := 2) rfl ?_); refine box_event ?hg (N := 2) ?hd (cs := #[.int .i64 a0_0, .slice A0_1 l0_1.length c0_1]) (t := 24) ?hr ?_; (case hd => rfl); (case hg => rfl); (case hr => first | (go_simp; done) | (go_simp; rfl)); intro gb107 hg w37 hbox hb; have n0_ := Aside0.mk (below_step (kB HB.out) hb); have n1_ := Aside0.mk (hbox); have n2_ := Aside0.mk ((by rw [hg]; exact (below_size (kB HB.out)) : w.heap.size ≤ gb107)); have n3_ := Aside0.mk ((by rw [hg]; exact (below_size (kB HB.out)) : w.heap.size ≤ gb107)); clear HB; have HB := n0_; have BK107 := n1_; have GW107 := n2_; have GE107 := n3_; clear n0_ n1_ n2_ n3_; clear hb hbox hg) | ((with_reducible refine gate_dst (N := 3) rfl ?_); refine box_event ?hg (N := 3) ?hd (cs := #[.string a1_0, .int .i64 a1_1, .int .i64 a1_2]) (t := 26) ?hr ?_; (case hd => rfl); (case hg => rfl); (case hr => first | (go_simp; done) | (go_simp; rfl)); intro gb108 hg w38 hbox hb; have n0_ := Aside0.mk (blk_below (g := gb107) (o := .cells #[.int .i64 a0_0, .slice A0_1 l0_1.length c0_1] 24 (0, 0)) (kA BK107.out) hb); have n1_ := Aside0.mk (below_step (kB HB.out) hb); have n2_ := Aside0.mk (hbox); have n3_ := Aside0.mk ((by rw [hg]; exact (below_size (kB HB.out)) : w.heap.size ≤ gb108)); have n4_ := Aside0.mk ((by rw [hg]; exact (below_size (kB HB.out)) : w.heap.size ≤ gb108)); have n5_ := Aside0.mk ((by rw [hg]; exact Nat.ne_of_lt (blk_lt (g := gb107) (o := .cells #[.int .i64 a0_0, .slice A0_1 l0_1.length c0_1] 24 (0, 0)) (kA BK107.out)) : gb107 ≠ gb108)); have n6_ := Aside0.mk ((by rw [hg]; exact Nat.ne_of_gt (blk_lt (g := gb107) (o := .cells #[.int .i64 a0_0, .slice A0_1 l0_1.length c0_1] 24 (0, 0)) (kA BK107.out)) : gb108 ≠ gb107)); clear BK107; clear HB; have BK107 := n0_; have HB := n1_; have BK108 := n2_; have GW108 := n3_; have GE108 := n4_; have NB107_108 := n5_; have NB108_107 := n6_; clear n0_ n1_ n2_ n3_ n4_ n5_ n6_; clear hb hbox hg; have hnb39 := NB107_108.out; have hnc39 := NB108_107.out; have hcz40_0 : w38.cell? ⟨gb107, 0, none⟩ = some (.int .i64 a0_0) := (blk_cell BK107.out 0).trans rfl; have hcz40_1 : w38.cell? ⟨gb107, 1, none⟩ = some (.slice A0_1 l0_1.length c0_1) := (blk_cell BK107.out 1).trans rfl; have hfz40_0 := blk_frozen BK107.out 0; have hfz40_1 := blk_frozen BK107.out 1) | ((with_reducible refine gate_callee (f := 32) rfl ?_); refine goesL_ (some 6) rfl rfl Try.func32 (by kernel_rfl) rfl #[.agg #[.int .i64 a0_0, .slice A0_1 l0_1.length c0_1]] rfl (by (try simp only [List.map_toArray, List.map_cons, List.map_nil]); first | done | rfl | (simp only [List.length_drop, List.length_take]; rfl)) ?_; (with_reducible refine (graph_Check.calls a0_0 _ _ l0_1 t109 _ ?side1 ?side2 A3.out).mono ?_); (case side1 => repeat (first | exact (Kd.C_below HR0_1.out HB.out) | (with_reducible refine Kd.C_alloc ?_ _) | (with_reducible refine Kd.C_drewN ?_ _) | (with_reducible refine Kd.C_drew ?_))); (case side2 => exact HC0_1.out); rintro e w41 ⟨rfl, hb⟩; refine ⟨_, rfl, ?_⟩; have n0_ := Aside0.mk (blk_below (g := gb107) (o := .cells #[.int .i64 a0_0, .slice A0_1 l0_1.length c0_1] 24 (0, 0)) (kA BK107.out) hb); have n1_ := Aside0.mk (blk_below (g := gb108) (o := .cells #[.string a1_0, .int .i64 a1_1, .int .i64 a1_2] 26 (0, 0)) (kA BK108.out) hb); have n2_ := Aside0.mk (below_step (kB HB.out) hb); clear BK107; clear BK108; clear HB; have BK107 := n0_; have BK108 := n1_; have HB := n2_; clear n0_ n1_ n2_; (try clear hb); (try clear hb2); (try clear hk); (try clear hi); have hcz42_0 : w41.cell? ⟨gb108, 0, none⟩ = some (.string a1_0) := (blk_cell BK108.out 0).trans rfl; have hcz42_1 : w41.cell? ⟨gb108, 1, none⟩ = some (.int .i64 a1_1) := (blk_cell BK108.out 1).trans rfl; have hcz42_2 : w41.cell? ⟨gb108, 2, none⟩ = some (.int .i64 a1_2) := (blk_cell BK108.out 2).trans rfl; have hfz42_0 := blk_frozen BK108.out 0; have hfz42_1 := blk_frozen BK108.out 1; have hfz42_2 := blk_frozen BK108.out 2) | (go_at_call 19; (with_reducible refine (prog_Known.calls k a1_0 true _ A5.out).mono ?_); rintro e w43 ⟨rfl, hb⟩; have n0_ := Aside0.mk (blk_below (g := gb107) (o := .cells #[.int .i64 a0_0, .slice A0_1 l0_1.length c0_1] 24 (0, 0)) (kA BK107.out) hb); have n1_ := Aside0.mk (blk_below (g := gb108) (o := .cells #[.string a1_0, .int .i64 a1_1, .int .i64 a1_2] 26 (0, 0)) (kA BK108.out) hb); have n2_ := Aside0.mk (below_step (kB HB.out) hb); clear BK107; clear BK108; clear HB; have BK107 := n0_; have BK108 := n1_; have HB := n2_; clear n0_ n1_ n2_; (try clear hb); (try clear hb2); (try clear hk); (try clear hi); have hcz44_0 : w43.cell? ⟨gb108, 0, none⟩ = some (.string a1_0) := (blk_cell BK108.out 0).trans rfl; have hcz44_1 : w43.cell? ⟨gb108, 1, none⟩ = some (.int .i64 a1_1) := (blk_cell BK108.out 1).trans rfl; have hcz44_2 : w43.cell? ⟨gb108, 2, none⟩ = some (.int .i64 a1_2) := (blk_cell BK108.out 2).trans rfl; have hfz44_0 := blk_frozen BK108.out 0; have hfz44_1 := blk_frozen BK108.out 1; have hfz44_2 := blk_frozen BK108.out 2; have hcz45_0 : w43.cell? ⟨gb107, 0, none⟩ = some (.int .i64 a0_0) := (blk_cell BK107.out 0).trans rfl; have hcz45_1 : w43.cell? ⟨gb107, 1, none⟩ = some (.slice A0_1 l0_1.length c0_1) := (blk_cell BK107.out 1).trans rfl; have hfz45_0 := blk_frozen BK107.out 0; have hfz45_1 := blk_frozen BK107.out 1))
       go_ret
       exact ⟨by first | rfl | (simp [errW_none, errW_some] <;> rfl) | (simp [*, errW_none, errW_some] <;> rfl), by exact kB HB.out⟩
      ·rw [if_neg c36] at H
       have c36b0 : decide (64 < a1_2) = false := decide_eq_false c36
       clear c36
       obtain rfl := Option.some.inj H
       go_enter Try.func15, Try.ntmps15
       go_wp2_with (first | ((with_reducible refine gate_dst (N := 2) rfl ?_); refine box_event ?hg (N := 2) ?hd (cs := #[.int .i64 a0_0, .slice A0_1 l0_1.length c0_1]) (t := 24) ?hr ?_; (case hd => rfl); (case hg => rfl); (case hr => first | (go_simp; done) | (go_simp; rfl)); intro gb107 hg w46 hbox hb; have n0_ := Aside0.mk (below_step (kB HB.out) hb); have n1_ := Aside0.mk (hbox); have n2_ := Aside0.mk ((by rw [hg]; exact (below_size (kB HB.out)) : w.heap.size ≤ gb107)); have n3_ := Aside0.mk ((by rw [hg]; exact (below_size (kB HB.out)) : w.heap.size ≤ gb107)); clear HB; have HB := n0_; have BK107 := n1_; have GW107 := n2_; have GE107 := n3_; clear n0_ n1_ n2_ n3_; clear hb hbox hg) | ((with_reducible refine gate_dst (N := 3) rfl ?_); refine box_event ?hg (N := 3) ?hd (cs := #[.string a1_0, .int .i64 a1_1, .int .i64 a1_2]) (t := 26) ?hr ?_; (case hd => rfl); (case hg => rfl); (case hr => first | (go_simp; done) | (go_simp; rfl)); intro gb108 hg w47 hbox hb; have n0_ := Aside0.mk (blk_below (g := gb107) (o := .cells #[.int .i64 a0_0, .slice A0_1 l0_1.length c0_1] 24 (0, 0)) (kA BK107.out) hb); have n1_ := Aside0.mk (below_step (kB HB.out) hb); have n2_ := Aside0.mk (hbox); have n3_ := Aside0.mk ((by rw [hg]; exact (below_size (kB HB.out)) : w.heap.size ≤ gb108)); have n4_ := Aside0.mk ((by rw [hg]; exact (below_size (kB HB.out)) : w.heap.size ≤ gb108)); have n5_ := Aside0.mk ((by rw [hg]; exact Nat.ne_of_lt (blk_lt (g := gb107) (o := .cells #[.int .i64 a0_0, .slice A0_1 l0_1.length c0_1] 24 (0, 0)) (kA BK107.out)) : gb107 ≠ gb108)); have n6_ := Aside0.mk ((by rw [hg]; exact Nat.ne_of_gt (blk_lt (g := gb107) (o := .cells #[.int .i64 a0_0, .slice A0_1 l0_1.length c0_1] 24 (0, 0)) (kA BK107.out)) : gb108 ≠ gb107)); clear BK107; clear HB; have BK107 := n0_; have HB := n1_; have BK108 := n2_; have GW108 := n3_; have GE108 := n4_; have NB107_108 := n5_; have NB108_107 := n6_; clear n0_ n1_ n2_ n3_ n4_ n5_ n6_; clear hb hbox hg; have hnb48 := NB107_108.out; have hnc48 := NB108_107.out; have hcz49_0 : w47.cell? ⟨gb107, 0, none⟩ = some (.int .i64 a0_0) := (blk_cell BK107.out 0).trans rfl; have hcz49_1 : w47.cell? ⟨gb107, 1, none⟩ = some (.slice A0_1 l0_1.length c0_1) := (blk_cell BK107.out 1).trans rfl; have hfz49_0 := blk_frozen BK107.out 0; have hfz49_1 := blk_frozen BK107.out 1) | ((with_reducible refine gate_callee (f := 32) rfl ?_); refine goesL_ (some 6) rfl rfl Try.func32 (by kernel_rfl) rfl #[.agg #[.int .i64 a0_0, .slice A0_1 l0_1.length c0_1]] rfl (by (try simp only [List.map_toArray, List.map_cons, List.map_nil]); first | done | rfl | (simp only [List.length_drop, List.length_take]; rfl)) ?_; (with_reducible refine (graph_Check.calls a0_0 _ _ l0_1 t109 _ ?side1 ?side2 A3.out).mono ?_); (case side1 => repeat (first | exact (Kd.C_below HR0_1.out HB.out) | (with_reducible refine Kd.C_alloc ?_ _) | (with_reducible refine Kd.C_drewN ?_ _) | (with_reducible refine Kd.C_drew ?_))); (case side2 => exact HC0_1.out); rintro e w50 ⟨rfl, hb⟩; refine ⟨_, rfl, ?_⟩; have n0_ := Aside0.mk (blk_below (g := gb107) (o := .cells #[.int .i64 a0_0, .slice A0_1 l0_1.length c0_1] 24 (0, 0)) (kA BK107.out) hb); have n1_ := Aside0.mk (blk_below (g := gb108) (o := .cells #[.string a1_0, .int .i64 a1_1, .int .i64 a1_2] 26 (0, 0)) (kA BK108.out) hb); have n2_ := Aside0.mk (below_step (kB HB.out) hb); clear BK107; clear BK108; clear HB; have BK107 := n0_; have BK108 := n1_; have HB := n2_; clear n0_ n1_ n2_; (try clear hb); (try clear hb2); (try clear hk); (try clear hi); have hcz51_0 : w50.cell? ⟨gb108, 0, none⟩ = some (.string a1_0) := (blk_cell BK108.out 0).trans rfl; have hcz51_1 : w50.cell? ⟨gb108, 1, none⟩ = some (.int .i64 a1_1) := (blk_cell BK108.out 1).trans rfl; have hcz51_2 : w50.cell? ⟨gb108, 2, none⟩ = some (.int .i64 a1_2) := (blk_cell BK108.out 2).trans rfl; have hfz51_0 := blk_frozen BK108.out 0; have hfz51_1 := blk_frozen BK108.out 1; have hfz51_2 := blk_frozen BK108.out 2) | (go_at_call 19; (with_reducible refine (prog_Known.calls k a1_0 true _ A5.out).mono ?_); rintro e w52 ⟨rfl, hb⟩; have n0_ := Aside0.mk (blk_below (g := gb107) (o := .cells #[.int .i64 a0_0, .slice A0_1 l0_1.length c0_1] 24 (0, 0)) (kA BK107.out) hb); have n1_ := Aside0.mk (blk_below (g := gb108) (o := .cells #[.string a1_0, .int .i64 a1_1, .int .i64 a1_2] 26 (0, 0)) (kA BK108.out) hb); have n2_ := Aside0.mk (below_step (kB HB.out) hb); clear BK107; clear BK108; clear HB; have BK107 := n0_; have BK108 := n1_; have HB := n2_; clear n0_ n1_ n2_; (try clear hb); (try clear hb2); (try clear hk); (try clear hi); have hcz53_0 : w52.cell? ⟨gb108, 0, none⟩ = some (.string a1_0) := (blk_cell BK108.out 0).trans rfl; have hcz53_1 : w52.cell? ⟨gb108, 1, none⟩ = some (.int .i64 a1_1) := (blk_cell BK108.out 1).trans rfl; have hcz53_2 : w52.cell? ⟨gb108, 2, none⟩ = some (.int .i64 a1_2) := (blk_cell BK108.out 2).trans rfl; have hfz53_0 := blk_frozen BK108.out 0; have hfz53_1 := blk_frozen BK108.out 1; have hfz53_2 := blk_frozen BK108.out 2; have hcz54_0 : w52.cell? ⟨gb107, 0, none⟩ = some (.int .i64 a0_0) := (blk_cell BK107.out 0).trans rfl; have hcz54_1 : w52.cell? ⟨gb107, 1, none⟩ = some (.slice A0_1 l0_1.length c0_1) := (blk_cell BK107.out 1).trans rfl; have hfz54_0 := blk_frozen BK107.out 0; have hfz54_1 := blk_frozen BK107.out 1))
       go_ret
       exact ⟨by first | rfl | (simp [errW_none, errW_some] <;> rfl) | (simp [*, errW_none, errW_some] <;> rfl), by exact kB HB.out⟩
  ·replace c6 := Bool.eq_false_iff.mpr c6
   subst c6
   have H1 : (some 70) = some r := by rw [if_neg (show ¬ (false = true) by decide)] at H; exact H
   clear H
   have H := H1
   clear H1
   obtain rfl := Option.some.inj H
   go_enter Try.func15, Try.ntmps15
   go_wp2_with (first | ((with_reducible refine gate_dst (N := 2) rfl ?_); refine box_event ?hg (N := 2) ?hd (cs := #[.int .i64 a0_0, .slice A0_1 l0_1.length c0_1]) (t := 24) ?hr ?_; (case hd => rfl); (case hg => rfl); (case hr => first | (go_simp; done) | (go_simp; rfl)); intro gb107 hg w55 hbox hb; have n0_ := Aside0.mk (below_step (kB HB.out) hb); have n1_ := Aside0.mk (hbox); have n2_ := Aside0.mk ((by rw [hg]; exact (below_size (kB HB.out)) : w.heap.size ≤ gb107)); have n3_ := Aside0.mk ((by rw [hg]; exact (below_size (kB HB.out)) : w.heap.size ≤ gb107)); clear HB; have HB := n0_; have BK107 := n1_; have GW107 := n2_; have GE107 := n3_; clear n0_ n1_ n2_ n3_; clear hb hbox hg) | ((with_reducible refine gate_dst (N := 3) rfl ?_); refine box_event ?hg (N := 3) ?hd (cs := #[.string a1_0, .int .i64 a1_1, .int .i64 a1_2]) (t := 26) ?hr ?_; (case hd => rfl); (case hg => rfl); (case hr => first | (go_simp; done) | (go_simp; rfl)); intro gb108 hg w56 hbox hb; have n0_ := Aside0.mk (blk_below (g := gb107) (o := .cells #[.int .i64 a0_0, .slice A0_1 l0_1.length c0_1] 24 (0, 0)) (kA BK107.out) hb); have n1_ := Aside0.mk (below_step (kB HB.out) hb); have n2_ := Aside0.mk (hbox); have n3_ := Aside0.mk ((by rw [hg]; exact (below_size (kB HB.out)) : w.heap.size ≤ gb108)); have n4_ := Aside0.mk ((by rw [hg]; exact (below_size (kB HB.out)) : w.heap.size ≤ gb108)); have n5_ := Aside0.mk ((by rw [hg]; exact Nat.ne_of_lt (blk_lt (g := gb107) (o := .cells #[.int .i64 a0_0, .slice A0_1 l0_1.length c0_1] 24 (0, 0)) (kA BK107.out)) : gb107 ≠ gb108)); have n6_ := Aside0.mk ((by rw [hg]; exact Nat.ne_of_gt (blk_lt (g := gb107) (o := .cells #[.int .i64 a0_0, .slice A0_1 l0_1.length c0_1] 24 (0, 0)) (kA BK107.out)) : gb108 ≠ gb107)); clear BK107; clear HB; have BK107 := n0_; have HB := n1_; have BK108 := n2_; have GW108 := n3_; have GE108 := n4_; have NB107_108 := n5_; have NB108_107 := n6_; clear n0_ n1_ n2_ n3_ n4_ n5_ n6_; clear hb hbox hg; have hnb57 := NB107_108.out; have hnc57 := NB108_107.out; have hcz58_0 : w56.cell? ⟨gb107, 0, none⟩ = some (.int .i64 a0_0) := (blk_cell BK107.out 0).trans rfl; have hcz58_1 : w56.cell? ⟨gb107, 1, none⟩ = some (.slice A0_1 l0_1.length c0_1) := (blk_cell BK107.out 1).trans rfl; have hfz58_0 := blk_frozen BK107.out 0; have hfz58_1 := blk_frozen BK107.out 1) | ((with_reducible refine gate_callee (f := 32) rfl ?_); refine goesL_ (some 6) rfl rfl Try.func32 (by kernel_rfl) rfl #[.agg #[.int .i64 a0_0, .slice A0_1 l0_1.length c0_1]] rfl (by (try simp only [List.map_toArray, List.map_cons, List.map_nil]); first | done | rfl | (simp only [List.length_drop, List.length_take]; rfl)) ?_; (with_reducible refine (graph_Check.calls a0_0 _ _ l0_1 t109 _ ?side1 ?side2 A3.out).mono ?_); (case side1 => repeat (first | exact (Kd.C_below HR0_1.out HB.out) | (with_reducible refine Kd.C_alloc ?_ _) | (with_reducible refine Kd.C_drewN ?_ _) | (with_reducible refine Kd.C_drew ?_))); (case side2 => exact HC0_1.out); rintro e w59 ⟨rfl, hb⟩; refine ⟨_, rfl, ?_⟩; have n0_ := Aside0.mk (blk_below (g := gb107) (o := .cells #[.int .i64 a0_0, .slice A0_1 l0_1.length c0_1] 24 (0, 0)) (kA BK107.out) hb); have n1_ := Aside0.mk (blk_below (g := gb108) (o := .cells #[.string a1_0, .int .i64 a1_1, .int .i64 a1_2] 26 (0, 0)) (kA BK108.out) hb); have n2_ := Aside0.mk (below_step (kB HB.out) hb); clear BK107; clear BK108; clear HB; have BK107 := n0_; have BK108 := n1_; have HB := n2_; clear n0_ n1_ n2_; (try clear hb); (try clear hb2); (try clear hk); (try clear hi); have hcz60_0 : w59.cell? ⟨gb108, 0, none⟩ = some (.string a1_0) := (blk_cell BK108.out 0).trans rfl; have hcz60_1 : w59.cell? ⟨gb108, 1, none⟩ = some (.int .i64 a1_1) := (blk_cell BK108.out 1).trans rfl; have hcz60_2 : w59.cell? ⟨gb108, 2, none⟩ = some (.int .i64 a1_2) := (blk_cell BK108.out 2).trans rfl; have hfz60_0 := blk_frozen BK108.out 0; have hfz60_1 := blk_frozen BK108.out 1; have hfz60_2 := blk_frozen BK108.out 2) | (go_at_call 19; (with_reducible refine (prog_Known.calls k a1_0 false _ A5.out).mono ?_); rintro e w61 ⟨rfl, hb⟩; have n0_ := Aside0.mk (blk_below (g := gb107) (o := .cells #[.int .i64 a0_0, .slice A0_1 l0_1.length c0_1] 24 (0, 0)) (kA BK107.out) hb); have n1_ := Aside0.mk (blk_below (g := gb108) (o := .cells #[.string a1_0, .int .i64 a1_1, .int .i64 a1_2] 26 (0, 0)) (kA BK108.out) hb); have n2_ := Aside0.mk (below_step (kB HB.out) hb); clear BK107; clear BK108; clear HB; have BK107 := n0_; have BK108 := n1_; have HB := n2_; clear n0_ n1_ n2_; (try clear hb); (try clear hb2); (try clear hk); (try clear hi)))
   go_ret
   exact ⟨by first | rfl | (simp [errW_none, errW_some] <;> rfl) | (simp [*, errW_none, errW_some] <;> rfl), by exact kB HB.out⟩
 ·rw [if_neg c4] at H
  have c4b0 : (t109 == 0) = false := beq_eq_false_iff_ne.mpr c4
  have c4b1 : (t109 != 0) = true := bne_iff_ne.mpr c4
  obtain rfl := Option.some.inj H
  go_enter Try.func15, Try.ntmps15
  go_wp2_with (first | ((with_reducible refine gate_dst (N := 2) rfl ?_); refine box_event ?hg (N := 2) ?hd (cs := #[.int .i64 a0_0, .slice A0_1 l0_1.length c0_1]) (t := 24) ?hr ?_; (case hd => rfl); (case hg => rfl); (case hr => first | (go_simp; done) | (go_simp; rfl)); intro gb107 hg w62 hbox hb; have n0_ := Aside0.mk (below_step (kB HB.out) hb); have n1_ := Aside0.mk (hbox); have n2_ := Aside0.mk ((by rw [hg]; exact (below_size (kB HB.out)) : w.heap.size ≤ gb107)); have n3_ := Aside0.mk ((by rw [hg]; exact (below_size (kB HB.out)) : w.heap.size ≤ gb107)); clear HB; have HB := n0_; have BK107 := n1_; have GW107 := n2_; have GE107 := n3_; clear n0_ n1_ n2_ n3_; clear hb hbox hg) | ((with_reducible refine gate_dst (N := 3) rfl ?_); refine box_event ?hg (N := 3) ?hd (cs := #[.string a1_0, .int .i64 a1_1, .int .i64 a1_2]) (t := 26) ?hr ?_; (case hd => rfl); (case hg => rfl); (case hr => first | (go_simp; done) | (go_simp; rfl)); intro gb108 hg w63 hbox hb; have n0_ := Aside0.mk (blk_below (g := gb107) (o := .cells #[.int .i64 a0_0, .slice A0_1 l0_1.length c0_1] 24 (0, 0)) (kA BK107.out) hb); have n1_ := Aside0.mk (below_step (kB HB.out) hb); have n2_ := Aside0.mk (hbox); have n3_ := Aside0.mk ((by rw [hg]; exact (below_size (kB HB.out)) : w.heap.size ≤ gb108)); have n4_ := Aside0.mk ((by rw [hg]; exact (below_size (kB HB.out)) : w.heap.size ≤ gb108)); have n5_ := Aside0.mk ((by rw [hg]; exact Nat.ne_of_lt (blk_lt (g := gb107) (o := .cells #[.int .i64 a0_0, .slice A0_1 l0_1.length c0_1] 24 (0, 0)) (kA BK107.out)) : gb107 ≠ gb108)); have n6_ := Aside0.mk ((by rw [hg]; exact Nat.ne_of_gt (blk_lt (g := gb107) (o := .cells #[.int .i64 a0_0, .slice A0_1 l0_1.length c0_1] 24 (0, 0)) (kA BK107.out)) : gb108 ≠ gb107)); clear BK107; clear HB; have BK107 := n0_; have HB := n1_; have BK108 := n2_; have GW108 := n3_; have GE108 := n4_; have NB107_108 := n5_; have NB108_107 := n6_; clear n0_ n1_ n2_ n3_ n4_ n5_ n6_; clear hb hbox hg; have hnb64 := NB107_108.out; have hnc64 := NB108_107.out; have hcz65_0 : w63.cell? ⟨gb107, 0, none⟩ = some (.int .i64 a0_0) := (blk_cell BK107.out 0).trans rfl; have hcz65_1 : w63.cell? ⟨gb107, 1, none⟩ = some (.slice A0_1 l0_1.length c0_1) := (blk_cell BK107.out 1).trans rfl; have hfz65_0 := blk_frozen BK107.out 0; have hfz65_1 := blk_frozen BK107.out 1) | ((with_reducible refine gate_callee (f := 32) rfl ?_); refine goesL_ (some 6) rfl rfl Try.func32 (by kernel_rfl) rfl #[.agg #[.int .i64 a0_0, .slice A0_1 l0_1.length c0_1]] rfl (by (try simp only [List.map_toArray, List.map_cons, List.map_nil]); first | done | rfl | (simp only [List.length_drop, List.length_take]; rfl)) ?_; (with_reducible refine (graph_Check.calls a0_0 _ _ l0_1 t109 _ ?side1 ?side2 A3.out).mono ?_); (case side1 => repeat (first | exact (Kd.C_below HR0_1.out HB.out) | (with_reducible refine Kd.C_alloc ?_ _) | (with_reducible refine Kd.C_drewN ?_ _) | (with_reducible refine Kd.C_drew ?_))); (case side2 => exact HC0_1.out); rintro e w66 ⟨rfl, hb⟩; refine ⟨_, rfl, ?_⟩; have n0_ := Aside0.mk (blk_below (g := gb107) (o := .cells #[.int .i64 a0_0, .slice A0_1 l0_1.length c0_1] 24 (0, 0)) (kA BK107.out) hb); have n1_ := Aside0.mk (blk_below (g := gb108) (o := .cells #[.string a1_0, .int .i64 a1_1, .int .i64 a1_2] 26 (0, 0)) (kA BK108.out) hb); have n2_ := Aside0.mk (below_step (kB HB.out) hb); clear BK107; clear BK108; clear HB; have BK107 := n0_; have BK108 := n1_; have HB := n2_; clear n0_ n1_ n2_; (try clear hb); (try clear hb2); (try clear hk); (try clear hi)))
  go_ret
  exact ⟨by first | rfl | (simp [errW_none, errW_some] <;> rfl) | (simp [*, errW_none, errW_some] <;> rfl), by exact kB HB.out⟩

/-! ### prog_great: function 24 -/
def prog_great.f (a0 : Int) : Option (Bool) := if a0 > 1125899906842624 then (some true) else (some (decide (a0 < (-1125899906842624))))
set_option maxHeartbeats 8000000 in
set_option maxRecDepth 100000 in
theorem prog_great.calls (a0 : Int) (r : Bool) (w : World) (h : prog_great.f a0 = some r) :
  Calls Try.prog 24 #[.int .i64 a0] w fun e w' => e = .returned (.bool r) ∧ Drawn0 w w' := by
 have H : (if a0 > 1125899906842624 then (some true) else (some (decide (a0 < (-1125899906842624))))) = some r := h
 clear h
 by_cases c2 : a0 > 1125899906842624
 ·rw [if_pos c2] at H
  have c2b0 : decide (1125899906842624 < a0) = true := decide_eq_true c2
  clear c2
  obtain rfl := Option.some.inj H
  go_enter Try.func24, Try.ntmps24
  go_wp2
  go_ret
  exact ⟨by first | rfl | (simp; done) | (simp [*]; done), by repeat (first | exact Drawn0.refl _ | apply Drawn0.step)⟩
 ·rw [if_neg c2] at H
  have c2b0 : decide (1125899906842624 < a0) = false := decide_eq_false c2
  clear c2
  obtain rfl := Option.some.inj H
  go_enter Try.func24, Try.ntmps24
  go_wp2
  go_ret
  exact ⟨by first | rfl | (simp; done) | (simp [*]; done), by repeat (first | exact Drawn0.refl _ | apply Drawn0.step)⟩

/-! ### graph_Out: function 25 (given) -/
def ltE (x y : S46) : Bool := decide (x.f0 < y.f0) || (x.f0 == y.f0 && decide (x.f1 < y.f1))
theorem ltE_not (x y : S46) : ltE x y = false ↔ ¬ (x.f0 < y.f0 ∨ (x.f0 = y.f0 ∧ x.f1 < y.f1)) := by
 unfold ltE
 simp only [Bool.or_eq_false_iff, decide_eq_false_iff_not, Bool.and_eq_false_iff, beq_eq_false_iff_ne]
 omega
/-- Edges in order. -/
def sortE (l : List S46) : List S46 := l.mergeSort fun x y => !ltE y x
def leE (x y : S46) : Prop := ¬ (y.f0 < x.f0 ∨ (y.f0 = x.f0 ∧ y.f1 < x.f1))
theorem sortE_sorted (l : List S46) : EdgesSorted l (sortE l) := by
 refine ⟨List.mergeSort_perm l _, ?_⟩
 have h := List.pairwise_mergeSort (le := fun x y : S46 => !ltE y x) (fun a b c h1 h2 => by
  simp only [Bool.not_eq_true', ltE_not] at h1 h2 ⊢
  omega) (fun a b => by
  cases h : ltE b a with
  | false => rfl
  | true =>
   cases h2 : ltE a b with
   | false => rfl
   | true =>
    unfold ltE at h h2
    simp only [Bool.or_eq_true, decide_eq_true_eq, Bool.and_eq_true, beq_iff_eq] at h h2
    omega) l
 exact h.imp (fun {a b} h => by simpa [ltE_not] using h)
theorem permE_unique : ∀ {l l' : List S46}, l.Perm l' → (∀ x ∈ l, ∀ y ∈ l, leE x y → leE y x → x = y) → l.Pairwise leE → l'.Pairwise leE → l = l'
 | [], l', h, _, _, _ => by rw [List.nil_perm] at h; exact h.symm
 | x :: l, [], h, _, _, _ => by simp at h
 | x :: l, y :: l', h, hm, hs, hs' => by
  have hxy : x = y := by
   have hx : x ∈ y :: l' := h.subset (List.mem_cons_self ..)
   have hy : y ∈ x :: l := h.symm.subset (List.mem_cons_self ..)
   rcases List.mem_cons.1 hx with e | hx
   ·exact e
   ·rcases List.mem_cons.1 hy with e | hy'
    ·exact e.symm
    ·exact hm x (List.mem_cons_self ..) y hy ((List.pairwise_cons.1 hs).1 y hy') ((List.pairwise_cons.1 hs').1 x hx)
  subst hxy
  rw [permE_unique (List.perm_cons x |>.1 h) (fun a ha b hb => hm a (List.mem_cons_of_mem _ ha) b (List.mem_cons_of_mem _ hb)) (List.pairwise_cons.1 hs).2 (List.pairwise_cons.1 hs').2]
theorem simple_key : ∀ {l : List S46}, Simple l → ∀ x ∈ l, ∀ y ∈ l, x.f0 = y.f0 → x.f1 = y.f1 → x = y
 | [], _, x, hx, _, _, _, _ => by cases hx
 | a :: l, h, x, hx, y, hy, e0, e1 => by
  have h1 := (List.pairwise_cons.1 h).1
  have h2 := (List.pairwise_cons.1 h).2
  rcases List.mem_cons.1 hx with ex | hx2
  ·rcases List.mem_cons.1 hy with ey | hy2
   ·rw [ex, ey]
   ·subst ex
    exact absurd ⟨e0.symm, e1.symm⟩ (h1 y hy2)
  ·rcases List.mem_cons.1 hy with ey | hy2
   ·subst ey
    exact absurd ⟨e0, e1⟩ (h1 x hx2)
   ·exact simple_key h2 x hx2 y hy2 e0 e1
theorem sorted_unique {l l' : List S46} (hs : EdgesSorted l l') (hd : dupE l = false) : l' = sortE l := by
 have h2 := sortE_sorted l
 have hk := simple_key ((dupE_iff l).1 hd)
 refine permE_unique (hs.1.trans h2.1.symm) (fun x hx y hy h1 h3 => ?_) hs.2 h2.2
 have hx' := hs.1.subset hx
 have hy' := hs.1.subset hy
 unfold leE at h1 h3
 exact hk x hx' y hy' (by omega) (by omega)
def graph_Out.f (a0_0 : Int) (l0_1 : List S46) (a1 : Int) : Option (List S46) := if badG a0_0 l0_1 = true then none else if dupE l0_1 = true then none else some ((sortE l0_1).filter fun e => e.f0 == a1)
section
open Go.Sort Go.Shelf Go.Proofs.Ytdmihkffjbapjaa.Bridge
/-- The row of a graph's edges in order, made anew. -/
def NormPost (w : World) (n : Int) (l : List S46) (e : Ending) (w' : World) : Prop := ∃ v : Value, e = .returned (.tuple #[.agg #[.int .i64 n, v], .int .i64 0]) ∧ Kd.R k46 46 w' w.heap.size (fun _ => True) v (sortE l) ∧ Below w.heap.size w w'
def SortPost (w : World) (l : List S46) (W : World) (e : Ending) (w' : World) : Prop := ∃ v : Value, e = .returned v ∧ Kd.R k46 46 w' w.heap.size (fun _ => True) v (sortE l) ∧ Below W.heap.size W w'
theorem sorted_at (n : Int) (A : Option Addr) (c : Nat) (l : List S46) (w : World) (hr : Kd.C k46 w A l.length l) (h : badG n l = false) (hd : dupE l = false) (b : Nat) (W : World) (hW : Below w.heap.size w W) (hb : b < W.heap.size) (hc : W.cell? ⟨b, 0, none⟩ = some (.slice A l.length c)) :
  Calls Try.prog 43 #[.func (.func 51) #[] #[.pointer (some ⟨b, 0, none⟩)], .func (.func 45) #[] #[]] W (SortPost w l W) := by
 obtain ⟨n1, n2, n3, n4⟩ := badG_not h
 obtain ⟨gl, hgl⟩ := ge_of n n2 l n4
 have hgll : gl.length = l.length := by rw [← hgl]; simp
 have := sortedEdges.on b A c gl W (by omega) hb (by rw [hgll]; exact hc) (by rw [hgll, hgl]; exact Kd.C_below hr hW)
 rw [hgl] at this
 refine this.mono ?_
 rintro e w' ⟨v, l', he, hR, hs, hbb⟩
 rw [sorted_unique hs hd] at hR
 exact ⟨v, he, Kd.R_lower hR hW.size, hbb⟩
set_option maxHeartbeats 16000000 in
set_option maxRecDepth 100000 in
theorem graph_Norm.good (A0_1 : Option Addr) (a0_0 : Int) (c0_1 : Nat) (l0_1 : List S46) (w : World) (hr : Kd.C k46 w A0_1 l0_1.length l0_1) (h : badG a0_0 l0_1 = false) (hd : dupE l0_1 = false) :
  Calls Try.prog 47 #[.agg #[.int .i64 a0_0, .slice A0_1 l0_1.length c0_1]] w (NormPost w a0_0 l0_1) := by
 have hu := Try.underlying24
 have HSORT := fun b W => sorted_at a0_0 A0_1 c0_1 l0_1 w hr h hd b W
 have HCHK : ∀ W, Below w.heap.size w W → Calls Try.prog 32 #[.agg #[.int .i64 a0_0, .slice A0_1 l0_1.length c0_1]] W fun e w' => e = .returned (.int .i64 0) ∧ Below W.heap.size W w' := fun W hW => by
  have := graph_Check.good A0_1 a0_0 c0_1 l0_1 W (Kd.C_below hr hW) h
  rw [hd, if_neg (by decide)] at this
  exact this
 have HV : ∀ W : World, Calls Try.prog 44 #[.slice A0_1 l0_1.length c0_1] W fun e w' => ∃ b, e = .returned (.func (.func 51) #[] #[.pointer (some ⟨b, 0, none⟩)]) ∧ b < w'.heap.size ∧ w'.cell? ⟨b, 0, none⟩ = some (.slice A0_1 l0_1.length c0_1) ∧ Below W.heap.size W w' := fun W => (valuesE.calls A0_1 l0_1.length c0_1 W).mono fun e w' ⟨he, hw⟩ => ⟨W.heap.size, he, by rw [hw]; simp, by rw [hw]; simp, by rw [hw]; exact below_alloc (Below.refl _ _) _⟩
 clear hr h hd
 go_enter Try.func47, Try.ntmps47
 go_wp2_with (fail)
 refine (HCHK _ (by repeat (first | exact Below.refl _ _ | apply below_alloc | apply pw_below_drewN))).mono ?_
 rintro e w2 ⟨rfl, hb⟩
 have k0 := (hb.cell (p := ⟨w.heap.size, 0, none⟩) (by simp; omega)).trans (show _ = some (.int .i64 a0_0) by first | (go_simp; done) | (go_simp; rfl))
 have k1 := (hb.cell (p := ⟨w.heap.size, 1, none⟩) (by simp; omega)).trans (show _ = some (.slice A0_1 l0_1.length c0_1) by first | (go_simp; done) | (go_simp; rfl))
 have BK := Aside0.mk (blk_below (heap_alloc2_new _ _ _) hb)
 have hsz : Aside0 (w.heap.size + 2 ≤ w2.heap.size) := ⟨by have := hb.size; simp at this; omega⟩
 have HB2 : Aside0 (Below w.heap.size w w2) := ⟨by
   refine Below.trans ?_ (hb.mono ?_)
   ·repeat (first | exact Below.refl _ _ | apply below_alloc | apply pw_below_drewN)
   ·simp; omega⟩
 clear hb HCHK
 go_wp2
 go_region_held3 (fun w' => w'.cell? ⟨w.heap.size, 0, none⟩ = some (.int .i64 a0_0) ∧ w'.cell? ⟨w.heap.size, 1, none⟩ = some (.slice A0_1 l0_1.length c0_1)) (first | exact ⟨k0, k1⟩ | exact ⟨m0, m1⟩ | exact ⟨q0, q1⟩ | go_keep)
  (first
   | (go_at_call 44; refine (HV _).mono ?_; rintro e w3 ⟨b3, rfl, hlt3, hc3, hb3⟩; have m0 := (hb3.cell (p := ⟨w.heap.size, 0, none⟩) (by have := hsz.out; show w.heap.size < w2.heap.size; omega)).trans k0; have m1 := (hb3.cell (p := ⟨w.heap.size, 1, none⟩) (by have := hsz.out; show w.heap.size < w2.heap.size; omega)).trans k1; have BK3 := Aside0.mk (blk_below (blk_drew BK.out) hb3); have HB3 : Aside0 (Below w.heap.size w w3) := ⟨(below_drew1 HB2.out).trans (hb3.mono HB2.out.size)⟩; have HL3 := Aside0.mk hlt3; have HC3 := Aside0.mk hc3; have HZ3 : Aside0 (w.heap.size + 2 ≤ w3.heap.size) := ⟨Nat.le_trans hsz.out hb3.size⟩; clear hb3 hc3 hlt3)
   | (go_at_call 43; refine (HSORT _ _ HB3.out HL3.out HC3.out).mono ?_; rintro e w4 ⟨v4, rfl, hR, hb4⟩; obtain ⟨A4, c4, e4⟩ := Kd.R_slice hR; subst e4; have q0 := (hb4.cell (p := ⟨w.heap.size, 0, none⟩) (by have := HZ3.out; show w.heap.size < w3.heap.size; omega)).trans m0; have q1 := (hb4.cell (p := ⟨w.heap.size, 1, none⟩) (by have := HZ3.out; show w.heap.size < w3.heap.size; omega)).trans m1; have BK4 := Aside0.mk (blk_below BK3.out hb4); have HB4 : Aside0 (Below w.heap.size w w4) := ⟨HB3.out.trans (hb4.mono HB3.out.size)⟩; have HR4 := Aside0.mk hR; have HZ4 : Aside0 (w.heap.size + 2 ≤ w4.heap.size) := ⟨Nat.le_trans HZ3.out hb4.size⟩; clear hb4 hR; have s0 := (blk_cell BK4.out 0).trans (show _ = some (Value.int .i64 0) from rfl); have s1 := (blk_cell BK4.out 1).trans (show _ = some (Value.slice none 0 0) from rfl); have f0 := blk_frozen BK4.out 0; have f1 := blk_frozen BK4.out 1))
 go_wp2
 refine bodyPost_ret (results_ct rfl _ _ (w.heap.size + 1) 24 #[.int .i64 a0_0, .slice A4 (sortE l0_1).length c4] (0, 0) _ rfl ?hg Try.underlying24 rfl (by kernel_rfl)) rfl ?_
 case hg => exact blk_put (blk_put BK4.out 0 _ rfl) 1 _ rfl
 refine ⟨_, rfl, ?_, ?_⟩
 ·exact Kd.R_set (Kd.R_set HR4.out BK4.out (by decide) 0 _) (blk_set BK4.out 0 _) (by decide) 1 _
 ·exact below_set (below_set HB4.out (Nat.le_succ _)) (Nat.le_succ _)
/-- Edges that are picked, made anew. -/
def PickPost (w : World) (r : List S46) (e : Ending) (w' : World) : Prop := ∃ v : Value, e = .returned v ∧ Kd.R k46 46 w' w.heap.size (fun _ => True) v r ∧ Below w.heap.size w w'
theorem take_snocE {α : Type} (l : List α) (p : α → Bool) (i : Nat) (h : i < l.length) : (l.take (i + 1)).filter p = (l.take i).filter p ++ (if p l[i] = true then [l[i]] else []) := by
 rw [List.take_succ_eq_append_getElem h, List.filter_append]
 by_cases hp : p l[i] = true <;> simp [List.filter_cons, hp]
set_option maxHeartbeats 16000000 in
set_option maxRecDepth 100000 in
theorem graph_pick.good (p : S46 → Bool) (g : Nat) (lb : Array Value) (eg : ∀ args w, (callFunc g args).run Try.prog w = .ok (.enter g args) w) (A0 : Option Addr) (n : Int) (c0 : Nat) (l0 : List S46) (w : World) (hr0 : Kd.C k46 w A0 l0.length l0) (h : badG n l0 = false) (hd : dupE l0 = false) (hp : PredOn Try.prog g lb (fun x => .agg (encEdge x).toArray) p w) :
  Calls Try.prog 34 #[.agg #[.int .i64 n, .slice A0 l0.length c0], .func (.func g) #[] lb] w (PickPost w ((sortE l0).filter p)) := by
 have hu := Try.underlying24
 have HN : ∀ W, Below w.heap.size w W → Calls Try.prog 47 #[.agg #[.int .i64 n, .slice A0 l0.length c0]] W (NormPost W n l0) := fun W hW => graph_Norm.good A0 n c0 l0 W (Kd.C_below hr0 hW) h hd
 have HL : Aside0 ((sortE l0).length ≤ 512) := ⟨by rw [(sortE_sorted l0).1.length_eq]; exact (badG_not h).2.2.1⟩
 have HP := Aside0.mk hp
 clear hr0 h hd hp
 unfold NormPost at HN
 generalize sortE l0 = q at HN HL ⊢
 go_enter Try.func34, Try.ntmps34
 go_wp2_with (fail)
 refine (HN _ (by repeat (first | exact Below.refl _ _ | apply below_alloc | apply pw_below_drewN))).mono ?_
 rintro e w2 ⟨v2, rfl, hR, hb⟩
 obtain ⟨A2, c2, e2⟩ := Kd.R_slice hR
 subst e2
 have HB2 : Aside0 (Below w.heap.size w w2) := ⟨by
   refine Below.trans ?_ (hb.mono ?_)
   ·repeat (first | exact Below.refl _ _ | apply below_alloc | apply pw_below_drewN)
   ·simp⟩
 have HC2 := Aside0.mk (Kd.R_reads' hR).2.2
 clear hR hb HN
 go_wp2
 go_loopg [7, 18] (q.length) (fun kq v7 v18 w' => ∃ (i : Nat), v18 = .int .i64 (i : Int) ∧ Aside0 (i + kq = q.length) ∧ Aside0 (Kd.R k46 46 w' w2.heap.size (fun _ => True) v7 ((q.take i).filter p)) ∧ Aside0 (Below w2.heap.size w2 w'))
 case atStart => exact ⟨0, rfl, ⟨by omega⟩, ⟨by simpa using Kd.R_nil _ _ _ _ _⟩, ⟨below_alloc (Below.refl _ _) _⟩⟩
 case round =>
  obtain ⟨i, rfl, HI, HO, HW⟩ := hrel
  have HB := Aside0.mk (HB2.out.trans (HW.out.mono HB2.out.size))
  by_cases hlt : i < q.length
  ·have c1 : decide ((i : Int) < (q.length : Int)) = true := decide_eq_true (by omega)
   have p1 : 0 ≤ (i : Int) := by omega
   have q1 : (i : Int) < (q.length : Int) := by omega
   obtain ⟨ad, e1, hx0, hx1, hx2⟩ := at_T46 (Kd.C_below HC2.out HW.out) (i : Int) p1 q1
   cases e1
   rw [rd_edge q i hlt, Int.toNat_natCast] at hx0 hx1 hx2
   have hts := take_snocE q p i hlt
   have HLT := Aside0.mk hlt
   generalize hy : q[i] = y at hx0 hx1 hx2 hts
   clear hy
   have HTS := Aside0.mk hts
   clear hts hlt
   replace p1 := eq_true p1
   replace q1 := eq_true q1
   have hcall := fun (W : World) (hb : Below w.heap.size w W) => HP.out W y hb
   obtain ⟨gk1, rfl⟩ : ∃ m, gk = m + 1 := ⟨gk - 1, by have := HI.out; have := HLT.out; omega⟩
   have hw1 : wrap64 ((i : Int) + 1) = (i : Int) + 1 := by have h1 := HL.out; have h2 := HLT.out; unfold wrap64; omega
   cases hq : p y with
   | true =>
    rw [hq] at hcall HTS
    have HLE : Aside0 (((q.take i).filter p).length < 5864062014805) := ⟨by have h1 := List.length_filter_le p (q.take i); have h2 := HL.out; simp only [List.length_take] at h1; omega⟩
    go_wp2_with (first | (go_at_fn g; refine (hcall _ (below_alloc HB.out _)).mono ?_; rintro e w' ⟨rfl, hb⟩; have k0 := (hb.cell (p := ⟨wr.heap.size, 0, none⟩) (by simp)).trans (show _ = some (.int .i64 y.f0) by simp); have k1 := (hb.cell (p := ⟨wr.heap.size, 1, none⟩) (by simp)).trans (show _ = some (.int .i64 y.f1) by simp); have k2 := (hb.cell (p := ⟨wr.heap.size, 2, none⟩) (by simp)).trans (show _ = some (.int .i64 y.f2) by simp); have HW2 := Aside0.mk ((below_alloc HW.out (.cells #[.int .i64 y.f0, .int .i64 y.f1, .int .i64 y.f2] 46)).trans (hb.mono (by have := HW.out.size; simp; omega))); have HO2 := Aside0.mk (Kd.R_below (Kd.R_alloc HO.out (.cells #[.int .i64 y.f0, .int .i64 y.f1, .int .i64 y.f2] 46)) hb); clear hb HO) | (at_builtin; refine Kd.R_append k46 (w0 := w2) w2.heap.size rfl (.tmp 25) (.tmp 27) 22 46 (.agg #[(.int .i64 0), (.int .i64 0), (.int .i64 0)]) 24 rfl Try.underlying22 info46 rfl (by decide) (by omega) u7 ((q.take i).filter p) y [.int .i64 y.f0, .int .i64 y.f1, .int .i64 y.f2] (fun _ => True) (fun _ => False) rfl rfl ?aP (fun _ hk => hk.elim) ?aF ?aO ?aB ?aS ?aL ?_; (case aP => exact k46_mkM _ _ _ y); (case aB => exact HW2.out); (case aF => exact (fun _ _ => trivial)); (case aO => exact HO2.out); (case aS => exact (below_size HW2.out)); (case aL => have := HLE.out; omega); intro v113 w10 ho hb hg hat; have n0_ := Aside0.mk (hb); have n1_ := Aside0.mk (ho); clear HW2; clear HO2; have HW2 := n0_; have HO114 := n1_; clear n0_ n1_; clear ho hb hg hat))
    go_roundg gk1
    case measure => omega
    case rel => exact ⟨i + 1, by go_num, ⟨by have := HI.out; omega⟩, ⟨by rw [HTS.out]; exact HO114.out⟩, HW2⟩
   | false =>
    rw [hq] at hcall HTS
    go_wp2_with (first | (go_at_fn g; refine (hcall _ (below_alloc HB.out _)).mono ?_; rintro e w' ⟨rfl, hb⟩; have k0 := (hb.cell (p := ⟨wr.heap.size, 0, none⟩) (by simp)).trans (show _ = some (.int .i64 y.f0) by simp); have k1 := (hb.cell (p := ⟨wr.heap.size, 1, none⟩) (by simp)).trans (show _ = some (.int .i64 y.f1) by simp); have k2 := (hb.cell (p := ⟨wr.heap.size, 2, none⟩) (by simp)).trans (show _ = some (.int .i64 y.f2) by simp); have HW2 := Aside0.mk ((below_alloc HW.out (.cells #[.int .i64 y.f0, .int .i64 y.f1, .int .i64 y.f2] 46)).trans (hb.mono (by have := HW.out.size; simp; omega))); have HO2 := Aside0.mk (Kd.R_below (Kd.R_alloc HO.out (.cells #[.int .i64 y.f0, .int .i64 y.f1, .int .i64 y.f2] 46)) hb); clear hb HO))
    go_roundg gk1
    case measure => omega
    case rel => exact ⟨i + 1, by go_num, ⟨by have := HI.out; omega⟩, ⟨by rw [HTS.out]; simpa using HO2.out⟩, HW2⟩
  ·have c1 : decide ((i : Int) < (q.length : Int)) = false := decide_eq_false (by omega)
   have c1n : decide (i < q.length) = false := decide_eq_false (by omega)
   have hi : i = q.length := by have := HI.out; omega
   have HO3 : Aside0 (Kd.R k46 46 wr w2.heap.size (fun _ => True) u7 (q.filter p)) := ⟨by have := HO.out; rwa [hi, List.take_length] at this⟩
   clear hi HO HI hlt
   go_wp2
   go_ret
   exact ⟨_, rfl, Kd.R_lower HO3.out HB2.out.size, HB.out⟩
set_option maxHeartbeats 8000000 in
theorem graph_Out_1.on (v : Int) (b : Nat) (w : World) (hb : b < w.heap.size) (hc : w.cell? ⟨b, 0, none⟩ = some (.int .i64 v)) : PredOn Try.prog 35 #[.pointer (some ⟨b, 0, none⟩)] (fun x => .agg (encEdge x).toArray) (fun e => e.f0 == v) w := fun W x hW => by
 have hu := Try.underlying46
 have hc2 : W.cell? ⟨b, 0, none⟩ = some (.int .i64 v) := (hW.cell (p := ⟨b, 0, none⟩) hb).trans hc
 have hbW : b < W.heap.size := Nat.lt_of_lt_of_le hb hW.size
 have hne : b ≠ W.heap.size := by omega
 clear hc hb hW
 show Calls Try.prog 35 #[.agg #[.int .i64 x.f0, .int .i64 x.f1, .int .i64 x.f2], .pointer (some ⟨b, 0, none⟩)] W _
 go_enter Try.func35, Try.ntmps35
 go_wp2
 all_goals (go_ret; exact ⟨by first | rfl | (simp [*]; done), by repeat (first | exact Below.refl _ _ | apply below_alloc | apply pw_below_drewN)⟩)
set_option maxHeartbeats 8000000 in
set_option maxRecDepth 100000 in
theorem graph_Out.calls (a0_0 : Int) (A0_1 : Option Addr) (c0_1 : Nat) (l0_1 : List S46) (a1 : Int) (r : List S46) (w : World) (hr0_1 : Kd.C k46 w A0_1 l0_1.length l0_1) (hc0_1 : l0_1.length ≤ c0_1) (h : graph_Out.f a0_0 l0_1 a1 = some r) :
  Calls Try.prog 25 #[.agg #[.int .i64 a0_0, .slice A0_1 l0_1.length c0_1], .int .i64 a1] w fun e w' => ∃ v0_ : Value, e = .returned (v0_) ∧ Kd.R k46 46 w' w.heap.size (fun _ => True) v0_ r ∧ Below w.heap.size w w' := by
 unfold graph_Out.f at h
 cases hb : badG a0_0 l0_1 with
 | true => rw [hb, if_pos rfl] at h; cases h
 | false =>
  rw [hb, if_neg (by decide)] at h
  cases hd : dupE l0_1 with
  | true => rw [hd, if_pos rfl] at h; cases h
  | false =>
   rw [hd, if_neg (by decide)] at h
   obtain rfl := Option.some.inj h
   clear h
   have eg : ∀ args w, (callFunc 35 args).run Try.prog w = .ok (.enter 35 args) w := enters_of Try.func35 (by kernel_rfl) rfl
   have HP : ∀ (b : Nat) W, Below w.heap.size w W → b < W.heap.size → W.cell? ⟨b, 0, none⟩ = some (.int .i64 a1) → Calls Try.prog 34 #[.agg #[.int .i64 a0_0, .slice A0_1 l0_1.length c0_1], .func (.func 35) #[] #[.pointer (some ⟨b, 0, none⟩)]] W (PickPost W ((sortE l0_1).filter fun e => e.f0 == a1)) :=
    fun b W hW hlt hc => graph_pick.good (fun e => e.f0 == a1) 35 #[.pointer (some ⟨b, 0, none⟩)] eg A0_1 a0_0 c0_1 l0_1 W (Kd.C_below hr0_1 hW) hb hd (graph_Out_1.on a1 b W hlt hc)
   unfold PickPost at HP
   generalize (sortE l0_1).filter (fun e => e.f0 == a1) = q at HP ⊢
   clear hr0_1 hc0_1 hb hd eg
   go_enter Try.func25, Try.ntmps25
   go_wp2_with (fail)
   refine (HP _ _ ?h1 ?h2 ?h3).mono ?_
   case h1 => repeat (first | exact Below.refl _ _ | apply below_alloc | apply pw_below_drewN)
   case h2 => simp
   case h3 => first | (go_simp; done) | (go_simp; rfl)
   rintro e w2 ⟨v2, rfl, hR, hb⟩
   have HB2 : Aside0 (Below w.heap.size w w2) := ⟨by
    refine Below.trans ?_ (hb.mono ?_)
    ·repeat (first | exact Below.refl _ _ | apply below_alloc | apply pw_below_drewN)
    ·simp; omega⟩
   have HR2 := Aside0.mk (Kd.R_lower (base' := w.heap.size) hR (by simp; omega))
   clear hR hb HP
   go_wp2
   go_ret
   exact ⟨_, rfl, HR2.out, HB2.out⟩
end

/-! ### prog_down: function 37 -/
def prog_down.f (a0 : Int) (a1 : Int) : Option (Int) := if a1 = 0 then (none) else (if (Int.tmod a0 a1) < 0 then (some (wrap64 ((wrap64 (Int.tdiv a0 a1)) - 1))) else (some (wrap64 (Int.tdiv a0 a1))))
set_option maxHeartbeats 8000000 in
set_option maxRecDepth 100000 in
theorem prog_down.calls (a0 : Int) (a1 : Int) (r : Int) (w : World) (h : prog_down.f a0 a1 = some r) :
  Calls Try.prog 37 #[.int .i64 a0, .int .i64 a1] w fun e w' => e = .returned (.int .i64 r) ∧ Drawn0 w w' := by
 have H : (if a1 = 0 then (none) else (if (Int.tmod a0 a1) < 0 then (some (wrap64 ((wrap64 (Int.tdiv a0 a1)) - 1))) else (some (wrap64 (Int.tdiv a0 a1))))) = some r := h
 clear h
 by_cases c3 : a1 = 0
 ·rw [if_pos c3] at H
  exact absurd H (by simp)
 ·rw [if_neg c3] at H
  have c3b0 : (a1 == 0) = false := beq_eq_false_iff_ne.mpr c3
  have c3b1 : (a1 != 0) = true := bne_iff_ne.mpr c3
  by_cases c4 : (Int.tmod a0 a1) < 0
  ·rw [if_pos c4] at H
   have c4b0 : decide ((Int.tmod a0 a1) < 0) = true := decide_eq_true c4
   clear c4
   obtain rfl := Option.some.inj H
   go_enter Try.func37, Try.ntmps37
   go_wp2
   go_ret
   exact ⟨by first | rfl | (simp; done) | (simp [*]; done), by repeat (first | exact Drawn0.refl _ | apply Drawn0.step)⟩
  ·rw [if_neg c4] at H
   have c4b0 : decide ((Int.tmod a0 a1) < 0) = false := decide_eq_false c4
   clear c4
   obtain rfl := Option.some.inj H
   go_enter Try.func37, Try.ntmps37
   go_wp2
   go_ret
   exact ⟨by first | rfl | (simp; done) | (simp [*]; done), by repeat (first | exact Drawn0.refl _ | apply Drawn0.step)⟩

end Go.Proofs.Ytdmihkffjbapjaa.P
