/- What these Go functions compute, as Lean functions, and that they do. No condition. -/
import Derived.Test.YtpndhkeoljoapaaGreatPx0
import Derived.Test.YtpndhkeoljoapaaGreatPx3
import Derived.Test.YtpndhkeoljoapaaGreatPx4
import Derived.Test.YtpndhkeoljoapaaGreatPx6
import Derived.Test.YtpndhkeoljoapaaGreatPx7
import Derived.Test.YtpndhkeoljoapaaGreatPx8
import Derived.Test.YtpndhkeoljoapaaGreatPx9
namespace Go.Proofs.YtpndhkeoljoapaaGreat.P
open Go.RowKit Go.Proofs.YtpndhkeoljoapaaGreatW.PrintWords Go.Proofs.YtpndhkeoljoapaaGreatW.PrintLast Go.Proofs.YtpndhkeoljoapaaGreatW.PrintMore
attribute [local go_sem] max2_int min2_int max_two min_two max_three min_three max_four min_four   -- for this text's walks alone
set_option linter.unusedVariables false
set_option linter.unusedSimpArgs false
set_option linter.unnecessarySimpa false

/-! ### seq_Next: function 6 (given) -/
section
open Go.Shelf Go.Proofs.YtpndhkeoljoapaaGreat.Bridge
set_option maxHeartbeats 8000000 in
set_option maxRecDepth 100000 in
theorem seq_each.on (g : Nat) (lb : Array Value) (eg : ∀ args w, (callFunc g args).run Tryz.prog w = .ok (.enter g args) w) (A : Option Addr) (n c : Nat) (hn : n ≤ 1000000) (I : Nat → World → Prop) (Bad : Int → World → Prop)
  (hs : ∀ v, v < n → ∀ W, I v W → Calls Tryz.prog g (#[.int .i64 (v : Int)] ++ lb) W fun e w' => ∃ err : Int, e = .returned (.int .i64 err) ∧ ((err = 0 ∧ I (v + 1) w') ∨ (err ≠ 0 ∧ Bad err w'))) (w : World) (h0 : I 0 w) :
  Calls Tryz.prog 23 #[.slice A n c, .func (.func g) #[] lb] w fun e w' => ∃ err : Int, e = .returned (.int .i64 err) ∧ ((err = 0 ∧ I n w') ∨ (err ≠ 0 ∧ Bad err w')) := by
 have HS := Aside0.mk hs
 have HN := Aside0.mk hn
 have H0 := Aside0.mk h0
 clear hs hn h0
 go_enter Tryz.func23, Tryz.ntmps23
 go_wp2
 go_loopg [9] n (fun kq v9 w' => ∃ (i : Nat), v9 = .int .i64 (i : Int) ∧ Aside0 (i + kq = n) ∧ Aside0 (I i w'))
 case atStart => exact ⟨0, rfl, ⟨by omega⟩, H0⟩
 case round =>
  obtain ⟨i, rfl, HI, HW⟩ := hrel
  by_cases hlt : i < n
  ·have c1 : decide ((i : Int) < (n : Int)) = true := decide_eq_true (by omega)
   have c1n : decide (i < n) = true := decide_eq_true hlt
   have c1p : (i < n) = True := eq_true hlt
   have hw1 : wrap64 ((i : Int) + 1) = (i : Int) + 1 := by have := HN.out; unfold wrap64; omega
   obtain ⟨gk1, rfl⟩ : ∃ m, gk = m + 1 := ⟨gk - 1, by have := HI.out; omega⟩
   have HC := HS.out i hlt wr HW.out
   have HLT := Aside0.mk hlt
   clear hlt
   go_upto_region 5 with (first | (go_at_fn g; refine HC.mono ?_; rintro e w2 ⟨err, rfl, hor⟩; have HOR := Aside0.mk hor; clear hor))
   clear HC
   by_cases he : err = 0
   ·subst he
    have HW2 : Aside0 (I (i + 1) w2) := ⟨by
     rcases HOR.out with ⟨_, h⟩ | ⟨h, _⟩
     ·exact h
     ·exact absurd rfl h⟩
    go_wp2
    go_roundg gk1
    case measure => omega
    case rel => exact ⟨i + 1, by go_num, ⟨by have := HI.out; omega⟩, HW2⟩
   ·have b1 : (err != 0) = true := bne_iff_ne.mpr he
    have b0 : (err == 0) = false := beq_eq_false_iff_ne.mpr he
    have HE := Aside0.mk he
    clear he
    go_wp2
    go_ret
    exact ⟨err, rfl, .inr (HOR.out.resolve_left fun h => HE.out h.1)⟩
  ·have c1 : decide ((i : Int) < (n : Int)) = false := decide_eq_false (by omega)
   have c1n : decide (i < n) = false := decide_eq_false hlt
   have hi : i = n := by have := HI.out; omega
   have HW2 : Aside0 (I n wr) := ⟨by rw [← hi]; exact HW.out⟩
   clear hi HW HI hlt
   go_wp2
   go_ret
   exact ⟨0, rfl, .inl ⟨rfl, HW2.out⟩⟩
end
section
open Go.Shelf Go.Proofs.YtpndhkeoljoapaaGreat.Bridge
theorem eqVx (d : Nat) (w : World) (x0 y0 : Int) (x1 y1 : Int) (x2 y2 : Bool) (x3 y3 : Bool) (x4 y4 : Int) :
  (Op.equalIn (d + 2) 50 (.agg #[.int .i64 x0, .int .i64 x1, .bool x2, .bool x3, .int .i64 x4]) (.agg #[.int .i64 y0, .int .i64 y1, .bool y2, .bool y3, .int .i64 y4])).run Tryz.prog w = .ok (x0 == y0 && (x1 == y1 && (x2 == y2 && (x3 == y3 && (x4 == y4))))) w := by
 refine eqA_of Tryz.underlying50 (by kernel_rfl) ?_
 refine eqf_cons (by rfl) (by go_simp; rfl) (by go_simp; rfl) (by go_simp) ?_
 refine eqf_cons (by rfl) (by go_simp; rfl) (by go_simp; rfl) (by go_simp) ?_
 refine eqf_cons (by rfl) (by go_simp; rfl) (by go_simp; rfl) (by go_simp) ?_
 refine eqf_cons (by rfl) (by go_simp; rfl) (by go_simp; rfl) (by go_simp) ?_
 exact eqf_last (by rfl) (by go_simp; rfl) (by go_simp; rfl) (by go_simp)
attribute [local go_sem high] eqVx
set_option maxHeartbeats 8000000 in
set_option maxRecDepth 100000 in
theorem seq_Next_1.on (vs : List S50) (A : Option Addr) (c bL v : Nat) (hv : v < vs.length) (W : World) (hb : W.heap[bL]? = some (.cells #[.slice A vs.length c] 27 (0, 0))) (hC : Kd.C k50 W A vs.length vs) :
  Calls Tryz.prog 22 #[.int .i64 (v : Int), .pointer (some ⟨bL, 0, none⟩)] W fun e w' => e = .returned (.int .i64 (if vs[v].f0 = (v : Int) then 0 else 90)) ∧ Below W.heap.size W w' := by
 have hu := Tryz.underlying50
 have p1 : 0 ≤ (v : Int) := by omega
 have q1 : (v : Int) < (vs.length : Int) := by omega
 obtain ⟨ad, e1, hx0, hx1, hx2, hx3, hx4⟩ := at_T50 hC (v : Int) p1 q1
 cases e1
 rw [rd_atVertex vs v hv, Int.toNat_natCast] at hx0 hx1 hx2 hx3 hx4
 have cl : W.cell? ⟨bL, 0, none⟩ = some (.slice (some ad) vs.length c) := (blk_cell hb 0).trans rfl
 generalize vs[v] = y at hx0 hx1 hx2 hx3 hx4 ⊢
 have qn : decide (v < vs.length) = true := decide_eq_true hv
 replace p1 := eq_true p1
 replace q1 := eq_true q1
 replace hv := eq_true hv
 clear hb hC
 by_cases he : y.f0 = (v : Int)
 ·rw [if_pos he]
  have b0 : (y.f0 == (v : Int)) = true := beq_iff_eq.mpr he
  rw [he] at hx0
  clear he
  go_enter Tryz.func22, Tryz.ntmps22
  go_upto_region 1 with (fail)
  go_region_held3 (fun w' => w'.cell? ⟨bL, 0, none⟩ = some (.slice (some ad) vs.length c) ∧ w'.cell? (ad.add (v * 5)) = some (.int .i64 (v : Int)) ∧ w'.cell? ⟨(ad.add (v * 5)).block, (ad.add (v * 5)).off + 1, none⟩ = some (.int .i64 y.f1) ∧ w'.cell? ⟨(ad.add (v * 5)).block, (ad.add (v * 5)).off + 2, none⟩ = some (.bool y.f2) ∧ w'.cell? ⟨(ad.add (v * 5)).block, (ad.add (v * 5)).off + 3, none⟩ = some (.bool y.f3) ∧ w'.cell? ⟨(ad.add (v * 5)).block, (ad.add (v * 5)).off + 4, none⟩ = some (.int .i64 y.f4)) (first | exact ⟨cl, hx0, hx1, hx2, hx3, hx4⟩ | go_keep) (fail)
  go_wp2
  go_ret
  exact ⟨rfl, by repeat (first | exact Below.refl _ _ | apply below_drew1 | apply below_alloc | apply pw_below_drewN)⟩
 ·rw [if_neg he]
  have b0 : (y.f0 == (v : Int)) = false := beq_eq_false_iff_ne.mpr he
  clear he
  go_enter Tryz.func22, Tryz.ntmps22
  go_upto_region 1 with (fail)
  go_region_held3 (fun w' => w'.cell? ⟨bL, 0, none⟩ = some (.slice (some ad) vs.length c) ∧ w'.cell? (ad.add (v * 5)) = some (.int .i64 y.f0) ∧ w'.cell? ⟨(ad.add (v * 5)).block, (ad.add (v * 5)).off + 1, none⟩ = some (.int .i64 y.f1) ∧ w'.cell? ⟨(ad.add (v * 5)).block, (ad.add (v * 5)).off + 2, none⟩ = some (.bool y.f2) ∧ w'.cell? ⟨(ad.add (v * 5)).block, (ad.add (v * 5)).off + 3, none⟩ = some (.bool y.f3) ∧ w'.cell? ⟨(ad.add (v * 5)).block, (ad.add (v * 5)).off + 4, none⟩ = some (.int .i64 y.f4)) (first | exact ⟨cl, hx0, hx1, hx2, hx3, hx4⟩ | go_keep) (fail)
  go_wp2
  go_ret
  exact ⟨rfl, by repeat (first | exact Below.refl _ _ | apply below_drew1 | apply below_alloc | apply pw_below_drewN)⟩
end
section
open Go.Shelf Go.Proofs.YtpndhkeoljoapaaGreat.Bridge
/-- What came, put into a vertex. -/
def comeV (x : S50) (is : Bool) (n : Int) : S50 := ⟨x.f0, x.f1, x.f2, is, n⟩
set_option maxHeartbeats 8000000 in
set_option maxRecDepth 100000 in
theorem seq_Next_3.on (s s1 : Nat) (tag : ByteArray) (src steps : Int) (bJ bS bO gO cO : Nat) (vs : Value) (sent : List S61) (out : List S50) (v : Nat) (hv : v < out.length) (W : World)
  (hJ : W.heap[bJ]? = some (.cells #[.string tag, .int .i64 src, .int .i64 steps] 26 (0, 0))) (hS : W.heap[bS]? = some (.cells #[vs] 29 (0, 0))) (hO : W.heap[bO]? = some (.cells #[.slice (some ⟨gO, 0, none⟩) out.length cO] 27 (0, 0)))
  (hR : Kd.R k61 61 W s1 (fun _ => True) vs sent) (hRO : Kd.R k50 50 W s (fun _ => True) (.slice (some ⟨gO, 0, none⟩) out.length cO) out)
  (nJ : bJ ≠ gO) (nS : bS ≠ gO) (nO : bO ≠ gO) (n : Int) (is : Bool) (er : Int) (hc : fold_Came.f tag sent (v : Int) = some (n, is, er)) :
  Calls Tryz.prog 27 #[.int .i64 (v : Int), .pointer (some ⟨bJ, 0, none⟩), .pointer (some ⟨bS, 0, none⟩), .pointer (some ⟨bO, 0, none⟩)] W fun e w' => e = .returned (.int .i64 er) ∧ ∃ w3, Below W.heap.size W w3 ∧ w' = (w3.setCell ⟨gO, v * 5 + 3, none⟩ (.bool is)).setCell ⟨gO, v * 5 + 4, none⟩ (.int .i64 n) := by
 have hu := Tryz.underlying50
 have hu2 := Tryz.underlying26
 obtain ⟨AS, cS, rfl⟩ := Kd.R_slice hR
 have HCAME := fold_Came.calls tag AS cS sent (v : Int) n is er W (Kd.R_reads' hR).2.2 (Kd.R_reads' hR).2.1 hc
 have p1 : 0 ≤ (v : Int) := by omega
 have q1 : (v : Int) < (out.length : Int) := by omega
 have x0 : W.cell? ⟨bJ, 0, none⟩ = some (.string tag) := (blk_cell hJ 0).trans rfl
 have x1 : W.cell? ⟨bS, 0, none⟩ = some (.slice AS sent.length cS) := (blk_cell hS 0).trans rfl
 have BO := Aside0.mk hO
 have RO := Aside0.mk hRO
 have NO := Aside0.mk nO
 have HV := Aside0.mk hv
 clear hJ hS hO hR hRO hc nJ nS nO hv
 go_enter Tryz.func27, Tryz.ntmps27
 go_upto_region 2 with (first | (go_at_call 28; refine HCAME.mono ?_; rintro e w2 ⟨rfl, hb⟩; have HB := Aside0.mk hb; clear hb))
 have HO2 := Aside0.mk (Kd.R_below RO.out HB.out)
 have y0 : w2.cell? ⟨bO, 0, none⟩ = some (.slice (some ⟨gO, 0, none⟩) out.length cO) := (blk_cell (blk_below BO.out HB.out) 0).trans rfl
 obtain ⟨ce, hcl, hM, hcc, hfr⟩ := Kd.R_elem HO2.out z50 (v : Int) p1 q1
 obtain rfl := k50_openM hM
 have y3 := hcc 3 _ rfl
 have y4 := hcc 4 _ rfl
 have z3 := hfr 3
 have z4 := hfr 4
 simp only [show (k50).sz = 5 from rfl, Int.toNat_natCast] at y3 y4 z3 z4
 clear hcl hM hcc hfr
 have qn : decide (v < out.length) = true := decide_eq_true HV.out
 have qp := eq_true HV.out
 replace p1 := eq_true p1
 replace q1 := eq_true q1
 have k1 : ∀ o u, (w2.setCell ⟨gO, o, none⟩ u).cell? ⟨bO, 0, none⟩ = some (.slice (some ⟨gO, 0, none⟩) out.length cO) := fun o u => (cell_far (a := ⟨bO, 0, none⟩) (p := ⟨gO, o, none⟩) NO.out u).trans y0
 have k2 : ∀ o u o2 u2, ((w2.setCell ⟨gO, o, none⟩ u).setCell ⟨gO, o2, none⟩ u2).cell? ⟨bO, 0, none⟩ = some (.slice (some ⟨gO, 0, none⟩) out.length cO) := fun o u o2 u2 => (cell_far (a := ⟨bO, 0, none⟩) (p := ⟨gO, o2, none⟩) NO.out u2).trans (k1 o u)
 go_region_held3 (fun w' => w'.cell? ⟨bO, 0, none⟩ = some (.slice (some ⟨gO, 0, none⟩) out.length cO)) (first | exact y0 | exact k1 _ _ | exact k2 _ _ _ _ | go_keep) (fail)
 all_goals
  go_wp2
  go_ret
  exact ⟨rfl, w2.drew, below_drew1 HB.out, rfl⟩
end
section
open Go.Shelf Go.Proofs.YtpndhkeoljoapaaGreat.Bridge
/-- The boxes that the closures of Next read. -/
def NextBox (W : World) (bG bJ bA bL bO : Nat) (g j a l o : Array Value) : Prop := W.heap[bG]? = some (.cells g 24 (0, 0)) ∧ W.heap[bJ]? = some (.cells j 26 (0, 0)) ∧ W.heap[bA]? = some (.cells a 3 (0, 0)) ∧ W.heap[bL]? = some (.cells l 27 (0, 0)) ∧ W.heap[bO]? = some (.cells o 27 (0, 0))
/-- What stands in memory between two rounds of Next: what was there at the call, the boxes, what was sent, and the vertices so far. -/
def NextInv (w W : World) (bG bJ bA bL bO bS : Nat) (g j a l : Array Value) (N gO cO : Nat) (sent : List S61) (out : List S50) : Prop :=
 Below w.heap.size w W ∧ NextBox W bG bJ bA bL bO g j a l #[.slice (some ⟨gO, 0, none⟩) N cO] ∧ w.heap.size ≤ bS ∧
 ∃ sv, W.heap[bS]? = some (.cells #[sv] 29 (0, 0)) ∧ Kd.R k61 61 W w.heap.size (fun _ => True) sv sent ∧ Kd.R k50 50 W w.heap.size (fun _ => True) (.slice (some ⟨gO, 0, none⟩) N cO) out
section
variable {w W W1 : World} {bG bJ bA bL bO bS : Nat} {g j a l o : Array Value} {N gO cO : Nat} {sent : List S61} {out : List S50}
theorem heap_lt {W : World} {k : Nat} {o : Obj} (h : W.heap[k]? = some o) : k < W.heap.size := (Array.getElem?_eq_some_iff.1 h).1
theorem NextBox.keep (h : NextBox W bG bJ bA bL bO g j a l o) (hk : ∀ (k : Nat) (c : Array Value) (t : Nat), t ≠ 61 → t ≠ 50 → t ≠ 29 → W.heap[k]? = some (.cells c t (0, 0)) → W1.heap[k]? = W.heap[k]?) : NextBox W1 bG bJ bA bL bO g j a l o := by
 obtain ⟨h1, h2, h3, h4, h5⟩ := h
 exact ⟨(hk _ _ _ (by decide) (by decide) (by decide) h1).trans h1, (hk _ _ _ (by decide) (by decide) (by decide) h2).trans h2, (hk _ _ _ (by decide) (by decide) (by decide) h3).trans h3, (hk _ _ _ (by decide) (by decide) (by decide) h4).trans h4, (hk _ _ _ (by decide) (by decide) (by decide) h5).trans h5⟩
theorem NextInv.len (h : NextInv w W bG bJ bA bL bO bS g j a l N gO cO sent out) : N = out.length := by
 obtain ⟨_, _, _, _, _, _, h2⟩ := h
 exact (Kd.R_reads' h2).1
theorem NextInv.below (h : NextInv w W bG bJ bA bL bO bS g j a l N gO cO sent out) (hb : Below W.heap.size W W1) : NextInv w W1 bG bJ bA bL bO bS g j a l N gO cO sent out := by
 obtain ⟨h0, h1, h2, sv, h3, h4, h5⟩ := h
 exact ⟨h0.trans (hb.mono h0.size), h1.keep (fun k c t _ _ _ hk => hb.block k (heap_lt hk)), h2, sv, (hb.block _ (heap_lt h3)).trans h3, Kd.R_below h4 hb, Kd.R_below h5 hb⟩
theorem grown_below {B : Nat} {row : Option Nat} (h : Below B w W) (hB : B ≤ W.heap.size) (hg : W.grownBy W1 row) (hr : ∀ k, k < B → some k ≠ row) : Below B w W1 :=
 ⟨hg.os.trans h.os, hg.tape.trans h.tape, hg.output.trans h.output, Nat.le_trans h.size hg.size, fun k hk => (hg.block k (Nat.lt_of_lt_of_le hk hB) (hr k hk)).trans (h.block k hk)⟩
theorem NextInv.put (h : NextInv w W bG bJ bA bL bO bS g j a l N gO cO sent out) (v : Nat) (hv : v < N) (seg : List Value) (i : Nat) (hi : i + seg.length ≤ 5) (x : S50)
  (hx : ∀ y, y = out.getD v z50 → [.int .i64 y.f0, .int .i64 y.f1, .bool y.f2, .bool y.f3, .int .i64 y.f4].take i ++ seg ++ [.int .i64 y.f0, .int .i64 y.f1, .bool y.f2, .bool y.f3, .int .i64 y.f4].drop (i + seg.length) = [.int .i64 x.f0, .int .i64 x.f1, .bool x.f2, .bool x.f3, .int .i64 x.f4]) :
  NextInv w (W.setCells gO (v * 5 + i) seg) bG bJ bA bL bO bS g j a l N gO cO sent (out.set v x) := by
 have hlen := h.len
 obtain ⟨h0, h1, h2, sv, h3, h4, h5⟩ := h
 obtain ⟨g2, c2, e2, hge, hgl, cells, hcell⟩ := Kd.R_form h5 (by omega)
 simp only [Value.slice.injEq, Option.some.injEq, Addr.mk.injEq, and_true] at e2
 obtain ⟨rfl, _, _⟩ := e2
 obtain ⟨ce, hcl, hM, hcc, hfr⟩ := Kd.R_elem h5 z50 (v : Int) (by omega) (by omega)
 obtain rfl := k50_openM hM
 obtain ⟨hrow, hg⟩ := Kd.R_seg h5 (v : Int) (by omega) (by omega) (seg := seg) (j := i) hcl hcc hi (x' := x) (by rw [Int.toNat_natCast, hx _ rfl]; exact k50_mkM _ _ _ x) (fun _ hk => hk)
 rw [Int.toNat_natCast] at hrow hg
 have far : ∀ (k : Nat) (c : Array Value) (t : Nat), t ≠ 50 → W.heap[k]? = some (.cells c t (0, 0)) → (W.setCells gO (v * 5 + i) seg).heap[k]? = W.heap[k]? := fun k c t ht hk => hg.block k (heap_lt hk) (fun e => by
  cases e
  rw [hcell] at hk
  simp only [Option.some.injEq, Obj.cells.injEq] at hk
  exact ht hk.2.1.symm)
 refine ⟨grown_below h0 h0.size hg (fun k hk e => by cases e; omega), h1.keep (fun k c t _ ht _ hk => far k c t ht hk), h2, sv, (far _ _ _ (by decide) h3).trans h3, Kd.R_mono (Kd.R_step (Kd.R_bound h4) (fun k hk _ => ?_)) (fun _ _ => trivial), hrow⟩
 obtain ⟨_, _, hlt, q, hq, cs, hc⟩ := hk
 have hq' : q = 61 := by simpa [show (k61).E = [] from rfl] using hq
 subst hq'
 exact far k cs _ (by decide) hc
theorem NextInv.app (h : NextInv w W bG bJ bA bL bO bS g j a l N gO cO sent out) {sv : Value} (hS : W.heap[bS]? = some (.cells #[sv] 29 (0, 0))) (sv1 : Value) (sent1 : List S61) (hg : W.grownBy W1 sv.ownBlock) (hR : Kd.R k61 61 W1 w.heap.size (fun _ => True) sv1 sent1) (hN : 0 < N) : NextInv w (W1.setCell ⟨bS, 0, none⟩ sv1) bG bJ bA bL bO bS g j a l N gO cO sent1 out := by
 obtain ⟨h0, h1, h2, sv', h3, h4, h5⟩ := h
 rw [hS] at h3
 simp only [Option.some.injEq, Obj.cells.injEq, Array.mk.injEq, List.cons.injEq, and_true] at h3
 subst h3
 have far : ∀ (k : Nat) (c : Array Value) (t : Nat), t ≠ 61 → W.heap[k]? = some (.cells c t (0, 0)) → W1.heap[k]? = W.heap[k]? := fun k c t ht hk => hg.block k (heap_lt hk) (Kd.R_ne h4 hk (fun e => ht e.symm))
 have b1 := (far _ _ _ (by decide) hS).trans hS
 have far2 : ∀ (k : Nat) (c : Array Value) (t : Nat), t ≠ 29 → W1.heap[k]? = some (.cells c t (0, 0)) → (W1.setCell ⟨bS, 0, none⟩ sv1).heap[k]? = W1.heap[k]? := fun k c t ht hk => Below.heap_setCell W1 ⟨bS, 0, none⟩ sv1 k (fun e => by
  subst e
  rw [b1] at hk
  simp only [Option.some.injEq, Obj.cells.injEq] at hk
  exact ht hk.2.1.symm)
 have own : ∀ k, k < w.heap.size → some k ≠ sv.ownBlock := fun k hk e => by
  obtain ⟨inner, ho⟩ := Kd.R_own h4
  rcases ho.2 with ⟨e2, _⟩ | ⟨g', cap, cur, e2, hb, _⟩
  ·rw [e2] at e
   cases e
  ·rw [e2] at e
   have e3 : k = g' := Option.some.inj (show some k = some g' from e)
   omega
 refine ⟨below_set (grown_below h0 h0.size hg own) h2, h1.keep (fun k c t h1 h2 h3 hk => ?_), h2, sv1, blk_put b1 0 _ rfl, Kd.R_set hR b1 (by decide) 0 _, Kd.R_set (Kd.R_mono (Kd.R_step (Kd.R_bound h5) (fun k hk _ => ?_)) (fun _ _ => trivial)) b1 (by decide) 0 _⟩
 ·have e1 := far k c t h1 hk
  exact (far2 k c t h3 (e1.trans hk)).trans e1
 ·obtain ⟨_, _, hlt, q, hq, cs, hc⟩ := hk
  have hq' : q = 50 := by simpa [show (k50).E = [] from rfl] using hq
  subst hq'
  exact far k cs _ (by decide) hc
end
end
section
open Go.Shelf Go.Proofs.YtpndhkeoljoapaaGreat.Bridge
theorem setCell_swap (w : World) {a b : Addr} (h : a.block ≠ b.block) (u v : Value) : (w.setCell a u).setCell b v = (w.setCell b v).setCell a u := by
 unfold World.setCell
 simp only
 congr 1
 refine Array.ext_getElem? (fun k => ?_)
 simp only [Array.getElem?_modify]
 by_cases h1 : a.block = k
 ·have h2 : ¬ b.block = k := fun e => h (h1.trans e.symm)
  simp only [h1, h2, if_true, if_false]
 ·by_cases h2 : b.block = k
  ·simp only [h1, h2, if_true, if_false]
  ·simp only [h1, h2, if_false]
theorem setCell_last (w : World) {b : Addr} {g : Nat} (h : g ≠ b.block) (v : Value) : ∀ (vs : List Value) (o : Nat), (w.setCells g o vs).setCell b v = (w.setCell b v).setCells g o vs := by
 intro vs
 induction vs generalizing w with
 | nil => intro o; rfl
 | cons u r ih =>
  intro o
  rw [World.setCells, World.setCells, ih, setCell_swap w (a := ⟨g, o, none⟩) (b := b) h u v]
section
variable {w W : World} {m B : Nat} {v a0 a1 a2 a3 a4 b0 b1 b2 b3 b4 : Value} {l : List S61}
theorem put5_blk (hb : w.heap[m]? = some (.cells #[b0, b1, b2, b3, b4] 50 (0, 0))) : (((((w.setCell ⟨m, 0, none⟩ a0).setCell ⟨m, 1, none⟩ a1).setCell ⟨m, 2, none⟩ a2).setCell ⟨m, 3, none⟩ a3).setCell ⟨m, 4, none⟩ a4).heap[m]? = some (.cells #[a0, a1, a2, a3, a4] 50 (0, 0)) := blk_put (blk_put (blk_put (blk_put (blk_put hb 0 _ rfl) 1 _ rfl) 2 _ rfl) 3 _ rfl) 4 _ rfl
theorem put5_R (hb : w.heap[m]? = some (.cells #[b0, b1, b2, b3, b4] 50 (0, 0))) (hR : Kd.R k61 61 w B (fun _ => True) v l) : Kd.R k61 61 (((((w.setCell ⟨m, 0, none⟩ a0).setCell ⟨m, 1, none⟩ a1).setCell ⟨m, 2, none⟩ a2).setCell ⟨m, 3, none⟩ a3).setCell ⟨m, 4, none⟩ a4) B (fun _ => True) v l :=
 have h0 := blk_put hb 0 a0 rfl
 have h1 := blk_put h0 1 a1 rfl
 have h2 := blk_put h1 2 a2 rfl
 have h3 := blk_put h2 3 a3 rfl
 Kd.R_set (Kd.R_set (Kd.R_set (Kd.R_set (Kd.R_set hR hb (by decide) 0 _) h0 (by decide) 1 _) h1 (by decide) 2 _) h2 (by decide) 3 _) h3 (by decide) 4 _
theorem put5_below (hm : W.heap.size ≤ m) (h : Below W.heap.size W w) : Below W.heap.size W (((((w.setCell ⟨m, 0, none⟩ a0).setCell ⟨m, 1, none⟩ a1).setCell ⟨m, 2, none⟩ a2).setCell ⟨m, 3, none⟩ a3).setCell ⟨m, 4, none⟩ a4) := below_set (below_set (below_set (below_set (below_set h hm) hm) hm) hm) hm
end
/-- A vertex's five cells written, and the box of what was sent, in either order. -/
theorem NextInv.both {w W W1 : World} {bG bJ bA bL bO bS : Nat} {g j a l : Array Value} {N gO cO : Nat} {sent sent1 : List S61} {out : List S50} (h : NextInv w W bG bJ bA bL bO bS g j a l N gO cO sent out) {sv : Value} (hS : W.heap[bS]? = some (.cells #[sv] 29 (0, 0))) (sv1 : Value) (hg : W.grownBy W1 sv.ownBlock) (hR : Kd.R k61 61 W1 w.heap.size (fun _ => True) sv1 sent1) (v : Nat) (hv : v < N) (hne : gO ≠ bS) (r1 r2 : Int) (r3 r4 : Bool) (r5 : Int) :
  NextInv w ((((((W1.setCell ⟨bS, 0, none⟩ sv1).setCell ⟨gO, v * 5, none⟩ (.int .i64 r1)).setCell ⟨gO, v * 5 + 1, none⟩ (.int .i64 r2)).setCell ⟨gO, v * 5 + 2, none⟩ (.bool r3)).setCell ⟨gO, v * 5 + 3, none⟩ (.bool r4)).setCell ⟨gO, v * 5 + 4, none⟩ (.int .i64 r5)) bG bJ bA bL bO bS g j a l N gO cO sent1 (out.set v ⟨r1, r2, r3, r4, r5⟩) ∧
  NextInv w ((((((W1.setCell ⟨gO, v * 5, none⟩ (.int .i64 r1)).setCell ⟨gO, v * 5 + 1, none⟩ (.int .i64 r2)).setCell ⟨gO, v * 5 + 2, none⟩ (.bool r3)).setCell ⟨gO, v * 5 + 3, none⟩ (.bool r4)).setCell ⟨gO, v * 5 + 4, none⟩ (.int .i64 r5)).setCell ⟨bS, 0, none⟩ sv1) bG bJ bA bL bO bS g j a l N gO cO sent1 (out.set v ⟨r1, r2, r3, r4, r5⟩) := by
 have h1 := (h.app hS sv1 sent1 hg hR (by omega)).put v hv [.int .i64 r1, .int .i64 r2, .bool r3, .bool r4, .int .i64 r5] 0 (show 0 + 5 ≤ 5 from Nat.le_refl 5) ⟨r1, r2, r3, r4, r5⟩ (fun y _ => rfl)
 have e2 := setCell_last W1 (b := ⟨bS, 0, none⟩) (g := gO) hne sv1 [.int .i64 r1, .int .i64 r2, .bool r3, .bool r4, .int .i64 r5] (v * 5 + 0)
 refine ⟨h1, ?_⟩
 rw [← e2] at h1
 exact h1
set_option maxHeartbeats 16000000 in
set_option maxRecDepth 100000 in
theorem seq_Next_2.on {w W : World} {bG bJ bA bL bO bS : Nat} {N gO cO : Nat} {sent : List S61} {out : List S50} (n src steps at_ : Int) (tag : ByteArray) (AE AL : Option Addr) (cE cL : Nat) (es : List S48) (vs : List S50)
  (h : NextInv w W bG bJ bA bL bO bS #[.int .i64 n, .slice AE es.length cE] #[.string tag, .int .i64 src, .int .i64 steps] #[.int .i64 at_] #[.slice AL N cL] N gO cO sent out) (hE : Kd.C k48 w AE es.length es) (hcE : es.length ≤ cE) (hV : Kd.C k50 w AL N vs)
  (v : Nat) (hv : v < N) (y : S50) (hy : rd_T50 vs (v : Int) = y) (r1 r2 : Int) (r3 r4 : Bool) (r5 : Int) (ms : List S61) (er : Int) (hl : sent.length + ms.length ≤ 1000000)
  (hst : prog_Step.f n es tag src steps at_ y.f0 y.f1 y.f2 y.f3 y.f4 = some (r1, r2, r3, r4, r5, ms, er)) :
  Calls Tryz.prog 25 #[.int .i64 (v : Int), .pointer (some ⟨bG, 0, none⟩), .pointer (some ⟨bJ, 0, none⟩), .pointer (some ⟨bA, 0, none⟩), .pointer (some ⟨bL, 0, none⟩), .pointer (some ⟨bS, 0, none⟩), .pointer (some ⟨bO, 0, none⟩)] W fun e w' => e = .returned (.int .i64 er) ∧ NextInv w w' bG bJ bA bL bO bS #[.int .i64 n, .slice AE es.length cE] #[.string tag, .int .i64 src, .int .i64 steps] #[.int .i64 at_] #[.slice AL N cL] N gO cO (sent ++ ms) (out.set v ⟨r1, r2, r3, r4, r5⟩) := by
 have hu := Tryz.underlying50
 have hu2 := Tryz.underlying26
 have hu3 := Tryz.underlying24
 have HH := Aside0.mk h
 obtain ⟨h0, ⟨hG, hJ, hA, hL, hO⟩, hbS, sv, hS, hR, hRO⟩ := h
 obtain ⟨ad, e1, hx0, hx1, hx2, hx3, hx4⟩ := at_T50 (Kd.C_below hV h0) (v : Int) (by omega) (by omega)
 cases e1
 rw [hy, Int.toNat_natCast] at hx0 hx1 hx2 hx3 hx4
 have HSTEP : ∀ W', Below W.heap.size W W' → Calls Tryz.prog 26 #[.agg #[.int .i64 n, .slice AE es.length cE], .agg #[.string tag, .int .i64 src, .int .i64 steps], .int .i64 at_, .agg #[.int .i64 y.f0, .int .i64 y.f1, .bool y.f2, .bool y.f3, .int .i64 y.f4]] W' fun e w' => ∃ v5_ : Value, e = .returned (.tuple #[.agg #[.int .i64 r1, .int .i64 r2, .bool r3, .bool r4, .int .i64 r5], v5_, .int .i64 er]) ∧ Kd.R k61 61 w' W'.heap.size (fun _ => True) v5_ ms ∧ Below W'.heap.size W' w' := fun W' hW' => prog_Step.calls n AE cE es tag src steps at_ y.f0 y.f1 y.f2 y.f3 y.f4 r1 r2 r3 r4 r5 ms er W' (Kd.C_below hE (h0.trans (hW'.mono h0.size))) hcE hst
 have HK : ∀ W', Below W.heap.size W W' → (W'.cell? ⟨bG, 0, none⟩ = some (.int .i64 n) ∧ W'.cell? ⟨bG, 1, none⟩ = some (.slice AE es.length cE) ∧ W'.cell? ⟨bJ, 0, none⟩ = some (.string tag) ∧ W'.cell? ⟨bJ, 1, none⟩ = some (.int .i64 src) ∧ W'.cell? ⟨bJ, 2, none⟩ = some (.int .i64 steps) ∧ W'.cell? ⟨bA, 0, none⟩ = some (.int .i64 at_) ∧ W'.cell? ⟨bL, 0, none⟩ = some (.slice (some ad) N cL) ∧ W'.cell? (ad.add (v * 5)) = some (.int .i64 y.f0) ∧ W'.cell? ⟨(ad.add (v * 5)).block, (ad.add (v * 5)).off + 1, none⟩ = some (.int .i64 y.f1) ∧ W'.cell? ⟨(ad.add (v * 5)).block, (ad.add (v * 5)).off + 2, none⟩ = some (.bool y.f2) ∧ W'.cell? ⟨(ad.add (v * 5)).block, (ad.add (v * 5)).off + 3, none⟩ = some (.bool y.f3) ∧ W'.cell? ⟨(ad.add (v * 5)).block, (ad.add (v * 5)).off + 4, none⟩ = some (.int .i64 y.f4)) := fun W' hb => by
  have one : ∀ {a : Addr} {u : Value}, W.cell? a = some u → W'.cell? a = some u := fun {a u} hc => (hb.cell (World.block_lt_of_cell? W a hc)).trans hc
  exact ⟨one ((blk_cell hG 0).trans rfl), one ((blk_cell hG 1).trans rfl), one ((blk_cell hJ 0).trans rfl), one ((blk_cell hJ 1).trans rfl), one ((blk_cell hJ 2).trans rfl), one ((blk_cell hA 0).trans rfl), one ((blk_cell hL 0).trans rfl), one hx0, one hx1, one hx2, one hx3, one hx4⟩
 have HGL : Aside0 (gO < W.heap.size) := ⟨by
  obtain ⟨g2, c2, e2, _, hlt, _⟩ := Kd.R_form hRO (by have := HH.out.len; omega)
  simp only [Value.slice.injEq, Option.some.injEq, Addr.mk.injEq, and_true] at e2
  obtain ⟨rfl, -, -⟩ := e2
  exact hlt⟩
 have p1 : (0 ≤ (v : Int)) = True := eq_true (by omega)
 have q1 : ((v : Int) < (N : Int)) = True := eq_true (by omega)
 have qn : decide (v < N) = true := decide_eq_true hv
 have qp := eq_true hv
 have HV := Aside0.mk hv
 have HL := Aside0.mk hl
 clear h0 hG hJ hA hL hO hbS hS hR hRO hx0 hx1 hx2 hx3 hx4 hE hcE hV hst hy hl hv
 go_enter Tryz.func25, Tryz.ntmps25
 go_upto_region 1 with (fail)
 go_cut [9, 10, 11] (fun v9 v10 v11 wc => ∃ (m : Nat), v9 = .pointer (some ⟨m, 0, none⟩) ∧ v11 = .int .i64 er ∧ Aside0 (wc.heap[m]? = some (.cells #[.int .i64 r1, .int .i64 r2, .bool r3, .bool r4, .int .i64 r5] 50 (0, 0))) ∧ Aside0 (Kd.R k61 61 wc W.heap.size (fun _ => True) v10 ms) ∧ Aside0 (Below W.heap.size W wc) ∧ Aside0 (W.heap.size ≤ m))
 case first =>
  have hsl := HK W (Below.refl _ _)
  go_region_held3 (fun w' => w'.cell? ⟨bG, 0, none⟩ = some (.int .i64 n) ∧ w'.cell? ⟨bG, 1, none⟩ = some (.slice AE es.length cE) ∧ w'.cell? ⟨bJ, 0, none⟩ = some (.string tag) ∧ w'.cell? ⟨bJ, 1, none⟩ = some (.int .i64 src) ∧ w'.cell? ⟨bJ, 2, none⟩ = some (.int .i64 steps) ∧ w'.cell? ⟨bA, 0, none⟩ = some (.int .i64 at_) ∧ w'.cell? ⟨bL, 0, none⟩ = some (.slice (some ad) N cL) ∧ w'.cell? (ad.add (v * 5)) = some (.int .i64 y.f0) ∧ w'.cell? ⟨(ad.add (v * 5)).block, (ad.add (v * 5)).off + 1, none⟩ = some (.int .i64 y.f1) ∧ w'.cell? ⟨(ad.add (v * 5)).block, (ad.add (v * 5)).off + 2, none⟩ = some (.bool y.f2) ∧ w'.cell? ⟨(ad.add (v * 5)).block, (ad.add (v * 5)).off + 3, none⟩ = some (.bool y.f3) ∧ w'.cell? ⟨(ad.add (v * 5)).block, (ad.add (v * 5)).off + 4, none⟩ = some (.int .i64 y.f4)) (first | (with_reducible exact hsl) | (with_reducible refine HK _ ?_; repeat (first | (with_reducible exact HB3.out) | (with_reducible exact Below.refl _ _) | with_reducible apply below_drew1 | with_reducible apply below_alloc | with_reducible refine below_set ?_ (Nat.le_refl _) | with_reducible refine below_set ?_ HSZ.out)))
   (first
    | (go_at_call 26; refine (HSTEP _ (by repeat (first | exact Below.refl _ _ | apply below_drew1 | apply below_drew | apply below_alloc))).mono ?_; rintro x w3 ⟨mv, rfl, hr, hb3⟩; have hb4 : Below (W.alloc (.cells #[.int .i64 0, .int .i64 0, .bool false, .bool false, .int .i64 0] 50)).heap.size (W.alloc (.cells #[.int .i64 0, .int .i64 0, .bool false, .bool false, .int .i64 0] 50)) w3 := (by first | exact hb3 | exact (below_drew1 (Below.refl _ _)).trans hb3); have BKm := Aside0.mk (blk_below (blk_new W _) hb4); have HR3 := Aside0.mk (Kd.R_lower (base' := W.heap.size) hr (show W.heap.size ≤ (W.alloc (.cells #[.int .i64 0, .int .i64 0, .bool false, .bool false, .int .i64 0] 50)).heap.size by simp)); have HB3 : Aside0 (Below W.heap.size W w3) := ⟨(below_alloc (Below.refl _ _) _).trans (hb4.mono (by simp))⟩; clear hr hb3 hb4; have m0 : w3.cell? ⟨W.heap.size, 0, none⟩ = some (Value.int .i64 0) := (blk_cell BKm.out 0).trans rfl; have m1 : w3.cell? ⟨W.heap.size, 1, none⟩ = some (Value.int .i64 0) := (blk_cell BKm.out 1).trans rfl; have m2 : w3.cell? ⟨W.heap.size, 2, none⟩ = some (Value.bool false) := (blk_cell BKm.out 2).trans rfl; have m3 : w3.cell? ⟨W.heap.size, 3, none⟩ = some (Value.bool false) := (blk_cell BKm.out 3).trans rfl; have m4 : w3.cell? ⟨W.heap.size, 4, none⟩ = some (Value.int .i64 0) := (blk_cell BKm.out 4).trans rfl; have f0 := blk_frozen BKm.out 0; have f1 := blk_frozen BKm.out 1; have f2 := blk_frozen BKm.out 2; have f3 := blk_frozen BKm.out 3; have f4 := blk_frozen BKm.out 4)
    | (go_at_call 26; refine (HSTEP _ (by repeat (first | exact Below.refl _ _ | apply below_drew1 | apply below_drew | apply below_alloc))).mono ?_; rintro x w3 ⟨mv, rfl, hr, hb3⟩; have HR3 := Aside0.mk (Kd.R_lower (base' := W.heap.size) hr (Nat.le_refl _)); have HB3 : Aside0 (Below W.heap.size W w3) := ⟨(show Below W.heap.size W W.drew from below_drew1 (Below.refl _ _)).trans (hb3.mono (Nat.le_refl _))⟩; have HSZ : Aside0 (W.heap.size ≤ w3.heap.size) := ⟨HB3.out.size⟩; clear hr hb3))
  all_goals
   go_wp2
   go_meet
   case rel => exact ⟨_, rfl, rfl, ⟨by first | (with_reducible exact blk_new _ _) | (with_reducible exact blk_drew (blk_new _ _)) | (with_reducible exact put5_blk BKm.out) | (with_reducible exact blk_drew (put5_blk BKm.out))⟩, ⟨by first | (with_reducible exact Kd.R_alloc HR3.out _) | (with_reducible exact Kd.R_drew (Kd.R_alloc HR3.out _)) | (with_reducible exact put5_R BKm.out HR3.out) | (with_reducible exact Kd.R_drew (put5_R BKm.out HR3.out))⟩, ⟨by first | (with_reducible exact below_alloc HB3.out _) | (with_reducible exact below_drew1 (below_alloc HB3.out _)) | (with_reducible exact put5_below (Nat.le_refl _) HB3.out) | (with_reducible exact below_drew1 (put5_below (Nat.le_refl _) HB3.out))⟩, ⟨by first | exact HSZ.out | exact Nat.le_refl _⟩⟩
 case rest =>
  obtain ⟨m, rfl, rfl, BK, HR1, HB1, HM⟩ := hcut
  clear HK HSTEP
  have HI := Aside0.mk (NextInv.below HH.out HB1.out)
  clear HH
  obtain ⟨h0, ⟨hG, hJ, hA, hL, hO⟩, hbS, sv, hS, hR, hRO⟩ := HI.out
  obtain ⟨AM, cM, eM⟩ := Kd.R_slice HR1.out
  subst eM
  have hlen := HI.out.len
  obtain ⟨g2, c2, e2, _, hgl, cells, hcell⟩ := Kd.R_form hRO (by have := HV.out; omega)
  simp only [Value.slice.injEq, Option.some.injEq, Addr.mk.injEq, and_true] at e2
  obtain ⟨rfl, -, -⟩ := e2
  have nOG : bO ≠ gO := fun e => by
   rw [e, hcell] at hO
   simp at hO
  have nOS : bO ≠ bS := fun e => by
   rw [e, hS] at hO
   simp at hO
  have nMG : m ≠ gO := by have := HGL.out; have := HM.out; omega
  have nMS : m ≠ bS := fun e => by
   have := BK.out
   rw [e, hS] at this
   simp at this
  have nGS : gO ≠ bS := fun e => by
   rw [e, hS] at hcell
   simp at hcell
  have FAR : ∀ w4 : World, wc.grownBy w4 sv.ownBlock → w4.heap[bO]? = some (.cells #[.slice (some ⟨gO, 0, none⟩) N cO] 27 (0, 0)) ∧ w4.heap[m]? = some (.cells #[.int .i64 r1, .int .i64 r2, .bool r3, .bool r4, .int .i64 r5] 50 (0, 0)) ∧ w4.heap[bS]? = some (.cells #[sv] 29 (0, 0)) ∧ w4.heap[gO]? = wc.heap[gO]? := fun w4 hg => ⟨(hg.block bO (heap_lt hO) (Kd.R_ne hR hO (by decide))).trans hO, (hg.block m (heap_lt BK.out) (Kd.R_ne hR BK.out (by decide))).trans BK.out, (hg.block bS (heap_lt hS) (Kd.R_ne hR hS (by decide))).trans hS, hg.block gO hgl (Kd.R_ne hR hcell (by decide))⟩
  have HKS : ∀ W' : World, W'.heap[bO]? = some (.cells #[.slice (some ⟨gO, 0, none⟩) N cO] 27 (0, 0)) → W'.heap[m]? = some (.cells #[.int .i64 r1, .int .i64 r2, .bool r3, .bool r4, .int .i64 r5] 50 (0, 0)) → W'.heap[bS]? = some (.cells #[sv] 29 (0, 0)) → (W'.cell? ⟨bO, 0, none⟩ = some (.slice (some ⟨gO, 0, none⟩) N cO) ∧ W'.cell? ⟨m, 0, none⟩ = some (.int .i64 r1) ∧ W'.cell? ⟨m, 1, none⟩ = some (.int .i64 r2) ∧ W'.cell? ⟨m, 2, none⟩ = some (.bool r3) ∧ W'.cell? ⟨m, 3, none⟩ = some (.bool r4) ∧ W'.cell? ⟨m, 4, none⟩ = some (.int .i64 r5) ∧ W'.cell? ⟨bS, 0, none⟩ = some sv) := fun W' h1 h2 h3 => ⟨(blk_cell h1 0).trans rfl, (blk_cell h2 0).trans rfl, (blk_cell h2 1).trans rfl, (blk_cell h2 2).trans rfl, (blk_cell h2 3).trans rfl, (blk_cell h2 4).trans rfl, (blk_cell h3 0).trans rfl⟩
  have hs0 := HKS wc.drew (blk_drew hO) (blk_drew BK.out) (blk_drew hS)
  have cS0 : wc.cell? ⟨bS, 0, none⟩ = some sv := (blk_cell hS 0).trans rfl
  obtain ⟨ce, hcl, hM, hcc, hfr⟩ := Kd.R_elem hRO z50 (v : Int) (by omega) (by have := HV.out; omega)
  obtain rfl := k50_openM hM
  have HT : ∀ w4 : World, w4.heap[gO]? = wc.heap[gO]? → (w4.cell? ⟨gO, v * 5, none⟩ = some (.int .i64 (out.getD v z50).f0) ∧ w4.cell? ⟨gO, v * 5 + 1, none⟩ = some (.int .i64 (out.getD v z50).f1) ∧ w4.cell? ⟨gO, v * 5 + 2, none⟩ = some (.bool (out.getD v z50).f2) ∧ w4.cell? ⟨gO, v * 5 + 3, none⟩ = some (.bool (out.getD v z50).f3) ∧ w4.cell? ⟨gO, v * 5 + 4, none⟩ = some (.int .i64 (out.getD v z50).f4)) ∧ ∀ i, w4.frozen? ⟨gO, v * 5 + i, none⟩ = false := fun w4 hg => ⟨⟨(World.cell?_of_block hg).trans (hcc 0 _ rfl), (World.cell?_of_block hg).trans (hcc 1 _ rfl), (World.cell?_of_block hg).trans (hcc 2 _ rfl), (World.cell?_of_block hg).trans (hcc 3 _ rfl), (World.cell?_of_block hg).trans (hcc 4 _ rfl)⟩, fun i => (World.frozen?_of_block hg).trans (hfr i)⟩
  have FAR_ := Aside0.mk FAR
  have HT_ := Aside0.mk HT
  have HKS_ := Aside0.mk HKS
  clear FAR HT HKS
  have HRS := Aside0.mk hR
  have HS0 := Aside0.mk hS
  have HO0 := Aside0.mk hO
  have H0B := Aside0.mk h0
  have HCM := Aside0.mk (Kd.R_reads' HR1.out).2.2
  have NOG := Aside0.mk nOG
  have NOS := Aside0.mk nOS
  have NMG := Aside0.mk nMG
  have NMS := Aside0.mk nMS
  have NGS := Aside0.mk nGS
  clear hG hJ hA hL hO hbS hS hR hRO h0 hlen hgl hcell hcl hM hcc hfr nOG nOS nMG nMS nGS HR1
  have n1_ := NGS.out
  have n2_ := NGS.out.symm
  have n3_ : (gO == bS) = false := beq_eq_false_iff_ne.mpr n1_
  have n4_ : (bS == gO) = false := beq_eq_false_iff_ne.mpr n2_
  go_upto_region 2 with (fail)
  refine start_ (n := 9) (S := (fun w' => w'.cell? ⟨bO, 0, none⟩ = some (.slice (some ⟨gO, 0, none⟩) N cO) ∧ w'.cell? ⟨m, 0, none⟩ = some (.int .i64 r1) ∧ w'.cell? ⟨m, 1, none⟩ = some (.int .i64 r2) ∧ w'.cell? ⟨m, 2, none⟩ = some (.bool r3) ∧ w'.cell? ⟨m, 3, none⟩ = some (.bool r4) ∧ w'.cell? ⟨m, 4, none⟩ = some (.int .i64 r5) ∧ w'.cell? ⟨bS, 0, none⟩ = some sv)) (ds := [8]) #[false, false, false, false, false, false, false, false, false] (by kernel_rfl) rfl rfl hs0 (fun hHeld => ?_)
  refine take_ (i := 0) (N := some 24) (v := ?_) (a' := ?_) #[true, false, false, false, false, false, false, false, false] rfl rfl (by kernel_rfl) (fun _ _ _ h => h) (Or.inl ⟨by rfl, ?_⟩) hHeld ?_ ?_
  rotate_left
  ·rintro w' ⟨s0, s1, s2, s3, s4, s5, s6⟩
   go_simp
   with_reducible rfl
  rotate_left
  ·simp only [Act.put, List.setIfInBounds_toArray, List.set_cons_zero, List.set_cons_succ, i64_w, i32_w]
   rfl
  refine take_ (i := 1) (N := some 25) (v := ?_) (a' := ?_) #[true, true, false, false, false, false, false, false, false] rfl rfl (by kernel_rfl) (fun _ _ _ h => h) (Or.inl ⟨by rfl, ?_⟩) hHeld ?_ ?_
  rotate_left
  ·rintro w' ⟨s0, s1, s2, s3, s4, s5, s6⟩
   go_simp
   with_reducible rfl
  rotate_left
  ·simp only [Act.put, List.setIfInBounds_toArray, List.set_cons_zero, List.set_cons_succ, i64_w, i32_w]
   rfl
  refine take_ (i := 2) (N := some 26) (v := ?_) (a' := ?_) #[true, true, true, false, false, false, false, false, false] rfl rfl (by kernel_rfl) (fun _ _ _ h => h) (Or.inl ⟨by rfl, ?_⟩) hHeld ?_ ?_
  rotate_left
  ·rintro w' ⟨s0, s1, s2, s3, s4, s5, s6⟩
   go_simp
   with_reducible rfl
  rotate_left
  ·simp only [Act.put, List.setIfInBounds_toArray, List.set_cons_zero, List.set_cons_succ, i64_w, i32_w]
   rfl
  refine take_ (i := 3) (N := some 27) (v := ?_) (a' := ?_) #[true, true, true, true, false, false, false, false, false] rfl rfl (by kernel_rfl) (fun _ _ _ h => h) (Or.inl ⟨by rfl, ?_⟩) hHeld ?_ ?_
  rotate_left
  ·rintro w' ⟨s0, s1, s2, s3, s4, s5, s6⟩
   go_simp
   with_reducible rfl
  rotate_left
  ·simp only [Act.put, List.setIfInBounds_toArray, List.set_cons_zero, List.set_cons_succ, i64_w, i32_w]
   rfl
  refine take_ (i := 4) (N := some 28) (v := ?_) (a' := ?_) #[true, true, true, true, true, false, false, false, false] rfl rfl (by kernel_rfl) (fun _ _ _ h => h) (Or.inl ⟨by rfl, ?_⟩) hHeld ?_ ?_
  rotate_left
  ·rintro w' ⟨s0, s1, s2, s3, s4, s5, s6⟩
   go_simp
   with_reducible rfl
  rotate_left
  ·simp only [Act.put, List.setIfInBounds_toArray, List.set_cons_zero, List.set_cons_succ, i64_w, i32_w]
   rfl
  refine one_ (i := 5) (N := some 29) #[true, true, true, true, true, true, false, false, false] rfl rfl (by kernel_rfl) (by decide) (fun K hK => ?_)
  refine Kd.R_append_rows_step k61 (w0 := wc) w.heap.size (by rfl) (.tmp 27) (.tmp 28) 29 61 (.agg #[(.int .i64 0), (.int .i64 0), (.int .i64 0)]) 24 (by rfl) Tryz.underlying29 info61 rfl (by decide) (by omega) sv sent ms AM ms.length cM (fun _ => True) (fun _ => False) (by rfl) (by rfl) (by first | exact HRS.out | exact Kd.R_drew HRS.out) (by first | exact HCM.out | exact Kd.C_drew HCM.out) (fun _ _ h => h) (fun _ h => h.elim) (fun _ _ => trivial) (by first | exact Below.refl _ _ | exact below_drew1 (Below.refl _ _)) (by first | exact H0B.out.size) (by have := HL.out; omega) ?_; intro v1 w4 hr4 hb4 hg4 _; obtain ⟨A1, c1, e1⟩ := Kd.R_slice hr4; (rw [List.length_append] at e1); subst e1; have HG4 : Aside0 (wc.grownBy w4 sv.ownBlock) := ⟨⟨hg4.os, hg4.tape, hg4.output, hg4.size, hg4.block⟩⟩; have HR4 := Aside0.mk hr4; have BO4 := Aside0.mk (FAR_.out w4 HG4.out).1; have BM4 := Aside0.mk (FAR_.out w4 HG4.out).2.1; have BS4 := Aside0.mk (FAR_.out w4 HG4.out).2.2.1; obtain ⟨⟨t0, t1, t2, t3, t4⟩, zz⟩   := HT_.out w4 (FAR_.out w4 HG4.out).2.2.2; have z0 := zz 0; have z1 := zz 1; have z2 := zz 2; have z3 := zz 3; have z4 := zz 4; (rw [Nat.add_zero] at z0); have ts : w4.cell? ⟨bS, 0, none⟩ = some sv := (blk_cell BS4.out 0).trans rfl; have zs := blk_frozen BS4.out 0; clear hr4 hb4 hg4 zz
  refine hK.out _ _ (HKS_.out w4 BO4.out BM4.out BS4.out) (fun hHeld => ?_)
  clear hK K
  refine norm_ (a' := ?_) ?_ ?_
  rotate_left
  ·show Act.put _ (some 29) _ = _
   simp only [Act.put, List.setIfInBounds_toArray, List.set_cons_zero, List.set_cons_succ, i64_w, i32_w]
   rfl
  refine take_ (i := 6) (N := some 30) (v := ?_) (a' := ?_) #[true, true, true, true, true, true, true, false, false] rfl rfl (by kernel_rfl) (fun _ _ _ h => h) (Or.inl ⟨by rfl, ?_⟩) hHeld ?_ ?_
  rotate_left
  ·rintro w' ⟨s0, s1, s2, s3, s4, s5, s6⟩
   go_simp
   with_reducible rfl
  rotate_left
  ·simp only [Act.put, List.setIfInBounds_toArray, List.set_cons_zero, List.set_cons_succ, i64_w, i32_w]
   rfl
  refine one_ (i := 7) (N := none) #[true, true, true, true, true, true, true, true, false] rfl rfl (by kernel_rfl) (by decide) (fun K hK => ?_)
  go_simp
  refine hK.out _ _ (by (with_reducible refine HKS_.out _ ?_ ?_ ?_ <;> (repeat (first | (with_reducible exact BO4.out) | (with_reducible exact BM4.out) | (with_reducible exact BS4.out) | with_reducible refine blk_far ?_ NOG.out _ | with_reducible refine blk_far ?_ NMG.out _ | with_reducible refine blk_far ?_ NGS.out.symm _)))) (fun hHeld => ?_)
  clear hK K
  refine last_ (i := 8) (N := none) #[true, true, true, true, true, true, true, true, true] rfl rfl (by kernel_rfl) (by decide) (fun K hK => ?_)
  go_simp
  refine hK.out _ _ ?_
  refine done_ (by kernel_rfl) ?_
  go_wp2
  go_ret
  exact ⟨rfl, (NextInv.both HI.out HS0.out _ HG4.out HR4.out v HV.out NGS.out r1 r2 r3 r4 r5).2⟩
end
section
open Go.Shelf Go.Proofs.YtpndhkeoljoapaaGreat.Bridge
/-- What a closure's round leaves, of Next's third closure. -/
theorem seq_Next_3.inv {w W : World} {bG bJ bA bL bO bS : Nat} {g a l : Array Value} {N gO cO : Nat} {sent : List S61} {out : List S50} (tag : ByteArray) (src steps : Int) (h : NextInv w W bG bJ bA bL bO bS g #[.string tag, .int .i64 src, .int .i64 steps] a l N gO cO sent out) (v : Nat) (hv : v < N) (n : Int) (is : Bool) (er : Int) (hc : fold_Came.f tag sent (v : Int) = some (n, is, er)) :
  Calls Tryz.prog 27 #[.int .i64 (v : Int), .pointer (some ⟨bJ, 0, none⟩), .pointer (some ⟨bS, 0, none⟩), .pointer (some ⟨bO, 0, none⟩)] W fun e w' => e = .returned (.int .i64 er) ∧ NextInv w w' bG bJ bA bL bO bS g #[.string tag, .int .i64 src, .int .i64 steps] a l N gO cO sent (out.set v (comeV (out.getD v z50) is n)) := by
 have hlen := h.len
 obtain ⟨h0, ⟨hG, hJ, hA, hL, hO⟩, hbS, sv, hS, hR, hRO⟩ := id h
 obtain ⟨g2, c2, e2, _, hgl, cells, hcell⟩ := Kd.R_form hRO (by omega)
 simp only [Value.slice.injEq, Option.some.injEq, Addr.mk.injEq, and_true] at e2
 obtain ⟨rfl, -, -⟩ := e2
 have nJ : bJ ≠ gO := fun e => by
  rw [e, hcell] at hJ
  simp at hJ
 have nS : bS ≠ gO := fun e => by
  rw [e, hcell] at hS
  simp at hS
 have nO : bO ≠ gO := fun e => by
  rw [e, hcell] at hO
  simp at hO
 rw [hlen] at hO hRO
 refine (seq_Next_3.on w.heap.size w.heap.size tag src steps bJ bS bO gO cO sv sent out v (by omega) W hJ hS hO hR hRO nJ nS nO n is er hc).mono ?_
 rintro e w' ⟨rfl, w3, hb, rfl⟩
 exact ⟨rfl, (h.below hb).put v hv [.bool is, .int .i64 n] 3 (show 3 + 2 ≤ 5 from Nat.le_refl 5) (comeV (out.getD v z50) is n) (fun y hy => by subst hy; rfl)⟩
def vxOf (p : Int × Int × Bool × Bool × Int × List S61 × Int) : S50 := ⟨p.1, p.2.1, p.2.2.1, p.2.2.2.1, p.2.2.2.2.1⟩
/-- The vertices behind their steps and what was sent, one by one, till there is an error. -/
def stepsA (n : Int) (es : List S48) (tag : ByteArray) (src steps at_ : Int) : List S50 → List S50 → List S61 → Option (List S50 × List S61 × Int)
 | [], o, s => some (o, s, 0)
 | y :: r, o, s => (prog_Step.f n es tag src steps at_ y.f0 y.f1 y.f2 y.f3 y.f4).bind fun p => if p.2.2.2.2.2.2 = 0 then stepsA n es tag src steps at_ r (o ++ [vxOf p]) (s ++ p.2.2.2.2.2.1) else some (o ++ [vxOf p], s ++ p.2.2.2.2.2.1, p.2.2.2.2.2.2)
theorem stepsA_len {n : Int} {es : List S48} {tag : ByteArray} {src steps at_ : Int} : ∀ {r o : List S50} {s : List S61} {q : List S50 × List S61 × Int}, stepsA n es tag src steps at_ r o s = some q → s.length ≤ q.2.1.length
 | [], o, s, q, h => by
  obtain rfl := Option.some.inj (show some (o, s, (0 : Int)) = some q from h)
  exact Nat.le_refl _
 | y :: r, o, s, q, h => by
  obtain ⟨p, _, h⟩ := Option.bind_eq_some_iff.mp (show (prog_Step.f n es tag src steps at_ y.f0 y.f1 y.f2 y.f3 y.f4).bind _ = some q from h)
  split at h
  ·have := stepsA_len h
   rw [List.length_append] at this
   omega
  ·obtain rfl := Option.some.inj h
   simp
/-- What came put into the vertices, one by one, till there is an error. -/
def comesA (tag : ByteArray) (s : List S61) : List S50 → List S50 → Option (List S50 × Int)
 | [], o => some (o, 0)
 | y :: r, o => (fold_Came.f tag s (o.length : Int)).bind fun c => if c.2.2 = 0 then comesA tag s r (o ++ [comeV y c.2.1 c.1]) else some (o ++ [comeV y c.2.1 c.1], c.2.2)
/-- Has each vertex its own number? -/
def idsOk : List S50 → Nat → Bool
 | [], _ => true
 | y :: r, i => y.f0 == (i : Int) && idsOk r (i + 1)
def seq_Next.f (a0_0 : Int) (l0_1 : List S48) (a1_0 : ByteArray) (a1_1 a1_2 a2 : Int) (l3 : List S50) : Option (List S50 × List S61 × Int) :=
 (prog_Check.f 20 a0_0 l0_1 a1_0 a1_1 a1_2).bind fun c =>
  if c = 0 then
   if a2 < 0 then some ([], [], 70) else if a2 ≥ a1_2 then some ([], [], 70)
   else if l3.length ≤ 1000000 then
    if (l3.length : Int) ≠ a0_0 then some ([], [], 90)
    else if idsOk l3 0 = false then some ([], [], 90)
    else (stepsA a0_0 l0_1 a1_0 a1_1 a1_2 a2 l3 [] []).bind fun q =>
     if q.2.1.length ≤ 1000000 then
      if q.2.2 = 0 then (comesA a1_0 q.2.1 q.1 []).bind fun p => if p.2 = 0 then some (p.1, sortMsg q.2.1, 0) else some ([], [], p.2)
      else some ([], [], q.2.2)
     else none
   else none
  else some ([], [], 70)
theorem set_mid {α : Type} (o : List α) (y x : α) (r : List α) : (o ++ y :: r).set o.length x = (o ++ [x]) ++ r := by
 rw [List.set_append_right _ _ (Nat.le_refl _), Nat.sub_self, List.set_cons_zero, List.append_assoc]
 rfl
theorem get_mid (o : List S50) (y : S50) (r : List S50) (z : S50) : (o ++ y :: r).getD o.length z = y := by
 simp [List.getD_eq_getElem?_getD]
end
section
open Go.Shelf Go.Proofs.YtpndhkeoljoapaaGreat.Bridge
theorem V_empty {w : World} {base b : Nat} (h : w.heap[b]? = some (.cells #[] 50 (0, 0))) (hb : base ≤ b) : Kd.R k50 50 w base (fun _ => True) (.slice (some ⟨b, 0, none⟩) 0 0) [] := by
 refine ⟨fun _ _ => trivial, [], ⟨rfl, .inr ⟨b, 0, #[], rfl, hb, h, Nat.le_refl _, by decide, rfl, rfl⟩⟩, ⟨rfl, fun j x hx => by simp at hx⟩⟩
set_option maxHeartbeats 8000000 in
set_option maxRecDepth 100000 in
theorem cloneV.on (ad : Addr) (N c : Nat) (vs : List S50) (w : World) (hC : Kd.C k50 w (some ad) N vs) (hN : N ≤ 1000000) :
  Calls Tryz.prog 24 #[.slice (some ad) N c] w fun e w' => ∃ v, e = .returned v ∧ Kd.R k50 50 w' w.heap.size (fun _ => True) v vs ∧ Below w.heap.size w w' := by
 have q1 : ∀ (w : World) (a : Option Addr) (n c n' c' : Nat), (binOp .eql 27 (.slice a n c) (.slice none n' c')).run Tryz.prog w = .ok (.bool a.isNone) w := fun w a n c n' c' => Lib.run_eql_slice_nil w _ _ a n c n' c' Tryz.underlying27
 have HC := Aside0.mk hC
 have HN := Aside0.mk hN
 clear hC hN
 go_enter Tryz.func24, Tryz.ntmps24
 go_wp2_with (at_builtin; refine Kd.R_append_rows k50 (w0 := w) w.heap.size rfl (.tmp 5) (.tmp 6) 27 50 (.agg #[(.int .i64 0), (.int .i64 0), (.bool false), (.bool false), (.int .i64 0)]) 32 rfl Tryz.underlying27 info50 rfl (by decide) (by omega) (.slice (some ⟨w.heap.size, 0, none⟩) 0 0) [] vs _ _ _ (fun _ => True) (fun _ => False) rfl rfl (V_empty (Go.heap_alloc_new w _) (Nat.le_refl _)) (Kd.C_alloc HC.out _) (fun _ _ h => h) (fun _ h => h.elim) (fun _ _ => trivial) (below_alloc (Below.refl _ _) _) (by simp) (by have := HN.out; simp; omega) ?_; intro v1 w5 ho hb hg hat; (simp only [List.nil_append] at ho); have HB := Aside0.mk hb; have HO := Aside0.mk ho; clear hb ho hg hat)
 go_ret
 exact ⟨_, rfl, HO.out, HB.out⟩
end
section
open Go.Shelf Go.Proofs.YtpndhkeoljoapaaGreat.Bridge
theorem odd_each (A : Option Addr) (c bL : Nat) (vs : List S50) (hN : vs.length ≤ 1000000) (W0 : World) (hb : W0.heap[bL]? = some (.cells #[.slice A vs.length c] 27 (0, 0))) (hC : Kd.C k50 W0 A vs.length vs) :
  Calls Tryz.prog 23 #[.slice A vs.length c, .func (.func 22) #[] #[.pointer (some ⟨bL, 0, none⟩)]] W0 fun e w' => e = .returned (.int .i64 (if idsOk vs 0 = true then 0 else 90)) ∧ Below W0.heap.size W0 w' := by
 refine (seq_each.on 22 #[.pointer (some ⟨bL, 0, none⟩)] (enters_of Tryz.func22 (by kernel_rfl) rfl) A vs.length c hN (fun i W => Below W0.heap.size W0 W ∧ idsOk vs 0 = idsOk (vs.drop i) i) (fun err W => err = 90 ∧ idsOk vs 0 = false ∧ Below W0.heap.size W0 W) ?_ W0 ⟨Below.refl _ _, by rw [List.drop_zero]⟩).mono ?_
 ·rintro v hv W ⟨hB, hi⟩
  refine (seq_Next_1.on vs A c bL v hv W (blk_below hb hB) (Kd.C_below hC hB)).mono ?_
  rintro e w' ⟨rfl, hb2⟩
  rw [List.drop_eq_getElem_cons hv, idsOk] at hi
  have hB2 := hB.trans (hb2.mono hB.size)
  by_cases he : vs[v].f0 = (v : Int)
  ·rw [if_pos he]
   refine ⟨0, rfl, .inl ⟨rfl, hB2, ?_⟩⟩
   rw [hi, beq_iff_eq.mpr he, Bool.true_and]
  ·rw [if_neg he]
   refine ⟨90, rfl, .inr ⟨by decide, rfl, ?_, hB2⟩⟩
   rw [hi, beq_eq_false_iff_ne.mpr he, Bool.false_and]
 ·rintro e w' ⟨err, rfl, ⟨rfl, hB, hi⟩ | ⟨_, rfl, hi, hB⟩⟩
  ·rw [List.drop_of_length_le (Nat.le_refl _)] at hi
   rw [hi]
   exact ⟨rfl, hB⟩
  ·rw [hi]
   exact ⟨rfl, hB⟩
theorem steps_each {w W : World} {bG bJ bA bL bO bS : Nat} {gO cO : Nat} (n src steps at_ : Int) (tag : ByteArray) (AE AL : Option Addr) (cE cL : Nat) (es : List S48) (vs : List S50) (q : List S50 × List S61 × Int)
  (h : NextInv w W bG bJ bA bL bO bS #[.int .i64 n, .slice AE es.length cE] #[.string tag, .int .i64 src, .int .i64 steps] #[.int .i64 at_] #[.slice AL vs.length cL] vs.length gO cO [] vs) (hE : Kd.C k48 w AE es.length es) (hcE : es.length ≤ cE) (hV : Kd.C k50 w AL vs.length vs)
  (hN : vs.length ≤ 1000000) (hq : stepsA n es tag src steps at_ vs [] [] = some q) (hl : q.2.1.length ≤ 1000000) :
  Calls Tryz.prog 23 #[.slice AL vs.length cL, .func (.func 25) #[] #[.pointer (some ⟨bG, 0, none⟩), .pointer (some ⟨bJ, 0, none⟩), .pointer (some ⟨bA, 0, none⟩), .pointer (some ⟨bL, 0, none⟩), .pointer (some ⟨bS, 0, none⟩), .pointer (some ⟨bO, 0, none⟩)]] W fun e w' => e = .returned (.int .i64 q.2.2) ∧ Below w.heap.size w w' ∧ (q.2.2 = 0 → NextInv w w' bG bJ bA bL bO bS #[.int .i64 n, .slice AE es.length cE] #[.string tag, .int .i64 src, .int .i64 steps] #[.int .i64 at_] #[.slice AL vs.length cL] vs.length gO cO q.2.1 q.1) := by
 refine (seq_each.on 25 #[.pointer (some ⟨bG, 0, none⟩), .pointer (some ⟨bJ, 0, none⟩), .pointer (some ⟨bA, 0, none⟩), .pointer (some ⟨bL, 0, none⟩), .pointer (some ⟨bS, 0, none⟩), .pointer (some ⟨bO, 0, none⟩)] (enters_of Tryz.func25 (by kernel_rfl) rfl) AL vs.length cL hN
  (fun i X => ∃ o s, o.length = i ∧ stepsA n es tag src steps at_ (vs.drop i) o s = some q ∧ NextInv w X bG bJ bA bL bO bS #[.int .i64 n, .slice AE es.length cE] #[.string tag, .int .i64 src, .int .i64 steps] #[.int .i64 at_] #[.slice AL vs.length cL] vs.length gO cO s (o ++ vs.drop i)) (fun err X => err = q.2.2 ∧ Below w.heap.size w X) ?_ W ⟨[], [], rfl, by rw [List.drop_zero]; exact hq, by rw [List.drop_zero]; exact h⟩).mono ?_
 ·rintro v hv X ⟨o, s, rfl, hst, hI⟩
  rw [List.drop_eq_getElem_cons hv] at hst hI
  obtain ⟨p, hp, hst⟩ := Option.bind_eq_some_iff.mp (show (prog_Step.f n es tag src steps at_ vs[o.length].f0 vs[o.length].f1 vs[o.length].f2 vs[o.length].f3 vs[o.length].f4).bind _ = some q from hst)
  obtain ⟨r1, r2, r3, r4, r5, ms, er⟩ := p
  have hlen : s.length + ms.length ≤ 1000000 := by
   split at hst
   ·have h9 : (s ++ ms).length ≤ q.2.1.length := stepsA_len hst
    rw [List.length_append] at h9
    omega
   ·obtain rfl := Option.some.inj hst
    have h9 : (s ++ ms).length ≤ 1000000 := hl
    rw [List.length_append] at h9
    exact h9
  refine (seq_Next_2.on n src steps at_ tag AE AL cE cL es vs hI hE hcE hV o.length hv vs[o.length] (rd_atVertex vs o.length hv) r1 r2 r3 r4 r5 ms er hlen hp).mono ?_
  rintro e w' ⟨rfl, hI2⟩
  rw [set_mid] at hI2
  refine ⟨er, rfl, ?_⟩
  by_cases he : er = 0
  ·rw [if_pos he] at hst
   exact .inl ⟨he, _, _, by simp, hst, hI2⟩
  ·rw [if_neg he] at hst
   obtain rfl := Option.some.inj hst
   exact .inr ⟨he, rfl, hI2.1⟩
 ·rintro e w' ⟨err, rfl, ⟨rfl, o, s, _, hst, hI⟩ | ⟨he, rfl, hB⟩⟩
  ·rw [List.drop_of_length_le (Nat.le_refl _)] at hst hI
   rw [List.append_nil] at hI
   obtain rfl := Option.some.inj (show some (o, s, (0 : Int)) = some q from hst)
   exact ⟨rfl, hI.1, fun _ => hI⟩
  ·exact ⟨rfl, hB, fun h0 => absurd h0 he⟩
theorem comes_each {w W : World} {bG bJ bA bL bO bS : Nat} {g a l : Array Value} {gO cO : Nat} (src steps : Int) (tag : ByteArray) (AL : Option Addr) (cL N : Nat) (vs : List S50) (s : List S61) (q : List S50 × Int)
  (h : NextInv w W bG bJ bA bL bO bS g #[.string tag, .int .i64 src, .int .i64 steps] a l N gO cO s vs) (hN : N ≤ 1000000) (hq : comesA tag s vs [] = some q) :
  Calls Tryz.prog 23 #[.slice AL N cL, .func (.func 27) #[] #[.pointer (some ⟨bJ, 0, none⟩), .pointer (some ⟨bS, 0, none⟩), .pointer (some ⟨bO, 0, none⟩)]] W fun e w' => e = .returned (.int .i64 q.2) ∧ Below w.heap.size w w' ∧ (q.2 = 0 → NextInv w w' bG bJ bA bL bO bS g #[.string tag, .int .i64 src, .int .i64 steps] a l N gO cO s q.1) := by
 have hlen := h.len
 refine (seq_each.on 27 #[.pointer (some ⟨bJ, 0, none⟩), .pointer (some ⟨bS, 0, none⟩), .pointer (some ⟨bO, 0, none⟩)] (enters_of Tryz.func27 (by kernel_rfl) rfl) AL N cL hN
  (fun i X => ∃ o, o.length = i ∧ comesA tag s (vs.drop i) o = some q ∧ NextInv w X bG bJ bA bL bO bS g #[.string tag, .int .i64 src, .int .i64 steps] a l N gO cO s (o ++ vs.drop i)) (fun err X => err = q.2 ∧ Below w.heap.size w X) ?_ W ⟨[], rfl, by rw [List.drop_zero]; exact hq, by rw [List.drop_zero]; exact h⟩).mono ?_
 ·rintro v hv X ⟨o, rfl, hst, hI⟩
  rw [List.drop_eq_getElem_cons (by omega)] at hst hI
  obtain ⟨p, hp, hst⟩ := Option.bind_eq_some_iff.mp (show (fold_Came.f tag s (o.length : Int)).bind _ = some q from hst)
  obtain ⟨n, is, er⟩ := p
  refine (seq_Next_3.inv tag src steps hI o.length hv n is er hp).mono ?_
  rintro e w' ⟨rfl, hI2⟩
  rw [get_mid, set_mid] at hI2
  refine ⟨er, rfl, ?_⟩
  by_cases he : er = 0
  ·rw [if_pos he] at hst
   exact .inl ⟨he, _, by simp, hst, hI2⟩
  ·rw [if_neg he] at hst
   obtain rfl := Option.some.inj hst
   exact .inr ⟨he, rfl, hI2.1⟩
 ·rintro e w' ⟨err, rfl, ⟨rfl, o, _, hst, hI⟩ | ⟨he, rfl, hB⟩⟩
  ·rw [List.drop_of_length_le (by omega)] at hst hI
   rw [List.append_nil] at hI
   obtain rfl := Option.some.inj (show some (o, (0 : Int)) = some q from hst)
   exact ⟨rfl, hI.1, fun _ => hI⟩
  ·exact ⟨rfl, hB, fun h0 => absurd h0 he⟩
end
section
open Go.Shelf Go.Proofs.YtpndhkeoljoapaaGreat.Bridge
def NextPost (w : World) (r : List S50 × List S61 × Int) (e : Ending) (w' : World) : Prop :=
 ∃ v0_ v1_ : Value, e = .returned (.tuple #[v0_, v1_, .int .i64 r.2.2]) ∧ Kd.R k50 50 w' w.heap.size (fun _ => True) v0_ r.1 ∧ Kd.R k61 61 w' w.heap.size (fun _ => True) v1_ r.2.1 ∧ Below w.heap.size w w'
theorem NextPost.none {w w' : World} {er : Int} (h : Below w.heap.size w w') : NextPost w ([], [], er) (.returned (.tuple #[.slice none 0 0, .slice none 0 0, .int .i64 er])) w' := ⟨_, _, rfl, Kd.R_nil _ _ _ _ _, Kd.R_nil _ _ _ _ _, h⟩
set_option maxHeartbeats 16000000 in
set_option maxRecDepth 100000 in
theorem seq_Next.w_odd (A0_1 A3 : Option Addr) (c0_1 c3 : Nat) (n src steps at_ : Int) (tag : ByteArray) (es : List S48) (N : Nat) (w : World) (c : Int) (HCK : ∀ W, Below w.heap.size w W → Calls Tryz.prog 21 #[.agg #[.int .i64 n, .slice A0_1 es.length c0_1], .agg #[.string tag, .int .i64 src, .int .i64 steps]] W fun e w' => e = .returned (.int .i64 c) ∧ Below W.heap.size W w') (hc : ¬ (c = 0 ∧ 0 ≤ at_ ∧ at_ < steps)) :
  Calls Tryz.prog 6 #[.agg #[.int .i64 n, .slice A0_1 es.length c0_1], .agg #[.string tag, .int .i64 src, .int .i64 steps], .int .i64 at_, .slice A3 N c3] w (NextPost w ([], [], 70)) := by
 have hu4 := Tryz.underlying26
 have hu5 := Tryz.underlying24
 go_enter Tryz.func6, Tryz.ntmps6
 go_wp2_with (fail)
 refine (HCK _ (by repeat (first | exact Below.refl _ _ | apply below_alloc | apply pw_below_drewN))).mono ?_
 rintro e w2 ⟨rfl, hb⟩
 obtain ⟨BG, BJ, BA, BL, SZ2, HB2⟩ := four_blocks hb
 clear hb HCK
 have j2 : w2.cell? ⟨w.heap.size + 1, 2, none⟩ = some (.int .i64 steps) := (blk_cell BJ.out 2).trans rfl
 have a0 : w2.cell? ⟨w.heap.size + 1 + 1, 0, none⟩ = some (.int .i64 at_) := (blk_cell BA.out 0).trans rfl
 by_cases h0 : c = 0
 ·have z0 : (c != 0) = false := bne_eq_false_iff_eq.mpr h0
  by_cases h1 : at_ < 0
  ·have z1 : decide (at_ < 0) = true := decide_eq_true h1
   have HC := Aside0.mk hc
   clear hc h0 h1
   go_wp2
   go_ret3
   exact NextPost.none HB2.out
  ·have z1 : decide (at_ < 0) = false := decide_eq_false h1
   have z2 : decide (steps ≤ at_) = true := decide_eq_true (by omega)
   clear hc h0 h1
   go_wp2
   go_ret3
   exact NextPost.none HB2.out
 ·have z0 : (c != 0) = true := bne_iff_ne.mpr h0
  clear hc h0
  go_wp2
  go_ret3
  exact NextPost.none HB2.out
end
section
open Go.Shelf Go.Proofs.YtpndhkeoljoapaaGreat.Bridge
set_option maxHeartbeats 16000000 in
set_option maxRecDepth 100000 in
theorem seq_Next.w_form (A0_1 A3 : Option Addr) (c0_1 c3 : Nat) (n src steps at_ : Int) (tag : ByteArray) (es : List S48) (vs : List S50) (w : World) (hr3 : Kd.C k50 w A3 vs.length vs) (HCK : ∀ W, Below w.heap.size w W → Calls Tryz.prog 21 #[.agg #[.int .i64 n, .slice A0_1 es.length c0_1], .agg #[.string tag, .int .i64 src, .int .i64 steps]] W fun e w' => e = .returned (.int .i64 0) ∧ Below W.heap.size W w') (h0 : 0 ≤ at_) (h1 : at_ < steps) (hN : vs.length ≤ 1000000) (hf : (vs.length : Int) ≠ n ∨ idsOk vs 0 = false) :
  Calls Tryz.prog 6 #[.agg #[.int .i64 n, .slice A0_1 es.length c0_1], .agg #[.string tag, .int .i64 src, .int .i64 steps], .int .i64 at_, .slice A3 vs.length c3] w (NextPost w ([], [], 90)) := by
 have hu4 := Tryz.underlying26
 have hu5 := Tryz.underlying24
 have z1 : decide (at_ < 0) = false := decide_eq_false (by omega)
 have z2 : decide (steps ≤ at_) = false := decide_eq_false (by omega)
 have HR3 := Aside0.mk hr3
 have HN := Aside0.mk hN
 have HF := Aside0.mk hf
 clear hr3 hN h0 h1 hf
 go_enter Tryz.func6, Tryz.ntmps6
 go_wp2_with (fail)
 refine (HCK _ (by repeat (first | exact Below.refl _ _ | apply below_alloc | apply pw_below_drewN))).mono ?_
 rintro e w2 ⟨rfl, hb⟩
 obtain ⟨BG, BJ, BA, BL, SZ2, HB2⟩ := four_blocks hb
 clear hb HCK
 have g0 : w2.cell? ⟨w.heap.size, 0, none⟩ = some (.int .i64 n) := (blk_cell BG.out 0).trans rfl
 have j2 : w2.cell? ⟨w.heap.size + 1, 2, none⟩ = some (.int .i64 steps) := (blk_cell BJ.out 2).trans rfl
 have a0 : w2.cell? ⟨w.heap.size + 1 + 1, 0, none⟩ = some (.int .i64 at_) := (blk_cell BA.out 0).trans rfl
 have l0 : w2.cell? ⟨w.heap.size + 1 + 1 + 1, 0, none⟩ = some (.slice A3 vs.length c3) := (blk_cell BL.out 0).trans rfl
 by_cases hl : (vs.length : Int) = n
 ·have y0 : ((vs.length : Int) != n) = false := bne_eq_false_iff_eq.mpr hl
  have HI : Aside0 (idsOk vs 0 = false) := ⟨HF.out.resolve_left (fun h => h hl)⟩
  have HE := odd_each A3 c3 (w.heap.size + 1 + 1 + 1) vs HN.out w2 BL.out (Kd.C_below HR3.out HB2.out)
  rw [HI.out, if_neg Bool.false_ne_true] at HE
  clear hl
  go_wp2_with (first | (go_at_call 23; refine HE.mono ?_; rintro e w3 ⟨rfl, hb3⟩; have HB3 := Aside0.mk (HB2.out.trans (hb3.mono HB2.out.size)); clear hb3))
  go_ret3
  exact NextPost.none HB3.out
 ·have y0 : ((vs.length : Int) != n) = true := bne_iff_ne.mpr hl
  clear hl
  go_wp2
  go_ret3
  exact NextPost.none HB2.out
end
section
open Go.Shelf Go.Proofs.YtpndhkeoljoapaaGreat.Bridge
/-- The boxes of what was sent and of the vertices, made behind the copy. -/
theorem next_start {w w3 w4 : World} {n src steps at_ : Int} {tag : ByteArray} {AE AL : Option Addr} {cE cL : Nat} {m N gO cO : Nat} {vs : List S50}
  (BG : w3.heap[w.heap.size]? = some (.cells #[.int .i64 n, .slice AE m cE] 24 (0, 0))) (BJ : w3.heap[w.heap.size + 1]? = some (.cells #[.string tag, .int .i64 src, .int .i64 steps] 26 (0, 0))) (BA : w3.heap[w.heap.size + 1 + 1]? = some (.cells #[.int .i64 at_] 3 (0, 0))) (BL : w3.heap[w.heap.size + 1 + 1 + 1]? = some (.cells #[.slice AL N cL] 27 (0, 0)))
  (hB : Below w.heap.size w w3) (hb : Below w3.heap.size w3 w4) (hR : Kd.R k50 50 w4 w3.heap.size (fun _ => True) (.slice (some ⟨gO, 0, none⟩) N cO) vs) :
  NextInv w ((w4.alloc (.cells #[.slice (some ⟨gO, 0, none⟩) N cO] 27)).alloc (.cells #[.slice none 0 0] 29)) w.heap.size (w.heap.size + 1) (w.heap.size + 1 + 1) (w.heap.size + 1 + 1 + 1) w4.heap.size (w4.heap.size + 1) #[.int .i64 n, .slice AE m cE] #[.string tag, .int .i64 src, .int .i64 steps] #[.int .i64 at_] #[.slice AL N cL] N gO cO [] vs := by
 have hs : (w4.alloc (.cells #[.slice (some ⟨gO, 0, none⟩) N cO] 27)).heap.size = w4.heap.size + 1 := by simp
 have hB4 : Below w.heap.size w w4 := hB.trans (hb.mono hB.size)
 have hBX : Below w4.heap.size w4 ((w4.alloc (.cells #[.slice (some ⟨gO, 0, none⟩) N cO] 27)).alloc (.cells #[.slice none 0 0] 29)) := below_alloc (below_alloc (Below.refl _ _) _) _
 have up : ∀ {k : Nat} {o : Obj}, w3.heap[k]? = some o → ((w4.alloc (.cells #[.slice (some ⟨gO, 0, none⟩) N cO] 27)).alloc (.cells #[.slice none 0 0] 29)).heap[k]? = some o := fun hk => blk_below (blk_below hk hb) hBX
 have bS : ((w4.alloc (.cells #[.slice (some ⟨gO, 0, none⟩) N cO] 27)).alloc (.cells #[.slice none 0 0] 29)).heap[w4.heap.size + 1]? = some (.cells #[.slice none 0 0] 29 (0, 0)) := by
  have := blk_new (w4.alloc (.cells #[.slice (some ⟨gO, 0, none⟩) N cO] 27)) (.cells #[.slice none 0 0] 29)
  rw [hs] at this
  exact this
 exact ⟨hB4.trans (hBX.mono hB4.size), ⟨up BG, up BJ, up BA, up BL, blk_alloc (blk_new w4 _) _⟩, Nat.le_trans hB4.size (Nat.le_succ _), .slice none 0 0, bS, Kd.R_nil _ _ _ _ _, Kd.R_lower (Kd.R_below hR hBX) hB.size⟩
set_option maxHeartbeats 16000000 in
set_option maxRecDepth 100000 in
theorem seq_Next.w_main (A0_1 A3 : Option Addr) (c0_1 c3 : Nat) (n src steps at_ : Int) (tag : ByteArray) (es : List S48) (vs : List S50) (w : World) (hr0 : Kd.C k48 w A0_1 es.length es) (hc0 : es.length ≤ c0_1) (hr3 : Kd.C k50 w A3 vs.length vs) (HCK : ∀ W, Below w.heap.size w W → Calls Tryz.prog 21 #[.agg #[.int .i64 n, .slice A0_1 es.length c0_1], .agg #[.string tag, .int .i64 src, .int .i64 steps]] W fun e w' => e = .returned (.int .i64 0) ∧ Below W.heap.size W w') (h0 : 0 ≤ at_) (h1 : at_ < steps) (hN : vs.length ≤ 1000000) (hp : 0 < vs.length) (hl : (vs.length : Int) = n) (hi : idsOk vs 0 = true)
  (q : List S50 × List S61 × Int) (hq : stepsA n es tag src steps at_ vs [] [] = some q) (hql : q.2.1.length ≤ 1000000) (r : List S50 × List S61 × Int) (hr : (if q.2.2 = 0 then (comesA tag q.2.1 q.1 []).bind fun p => if p.2 = 0 then some (p.1, sortMsg q.2.1, 0) else some ([], [], p.2) else some ([], [], q.2.2)) = some r) :
  Calls Tryz.prog 6 #[.agg #[.int .i64 n, .slice A0_1 es.length c0_1], .agg #[.string tag, .int .i64 src, .int .i64 steps], .int .i64 at_, .slice A3 vs.length c3] w (NextPost w r) := by
 have hu4 := Tryz.underlying26
 have hu5 := Tryz.underlying24
 have z1 : decide (at_ < 0) = false := decide_eq_false (by omega)
 have z2 : decide (steps ≤ at_) = false := decide_eq_false (by omega)
 have y0 : ((vs.length : Int) != n) = false := bne_eq_false_iff_eq.mpr hl
 obtain ⟨ad, rfl, _⟩ := hr3.2.2 hp
 have HR0 := Aside0.mk hr0
 have HC0 := Aside0.mk hc0
 have HR3 := Aside0.mk hr3
 have HN := Aside0.mk hN
 have HP := Aside0.mk hp
 have HI := Aside0.mk hi
 have HQ := Aside0.mk hq
 have HQL := Aside0.mk hql
 have HR := Aside0.mk hr
 clear hr0 hc0 hr3 hN h0 h1 hp hl hi hq hql hr
 go_enter Tryz.func6, Tryz.ntmps6
 go_wp2_with (fail)
 refine (HCK _ (by repeat (first | exact Below.refl _ _ | apply below_alloc | apply pw_below_drewN))).mono ?_
 rintro e w2 ⟨rfl, hb⟩
 obtain ⟨BG, BJ, BA, BL, SZ2, HB2⟩ := four_blocks hb
 clear hb HCK
 have g0 : w2.cell? ⟨w.heap.size, 0, none⟩ = some (.int .i64 n) := (blk_cell BG.out 0).trans rfl
 have j2 : w2.cell? ⟨w.heap.size + 1, 2, none⟩ = some (.int .i64 steps) := (blk_cell BJ.out 2).trans rfl
 have a0 : w2.cell? ⟨w.heap.size + 1 + 1, 0, none⟩ = some (.int .i64 at_) := (blk_cell BA.out 0).trans rfl
 have l0 : w2.cell? ⟨w.heap.size + 1 + 1 + 1, 0, none⟩ = some (.slice (some ad) vs.length c3) := (blk_cell BL.out 0).trans rfl
 have HE := odd_each (some ad) c3 (w.heap.size + 1 + 1 + 1) vs HN.out w2 BL.out (Kd.C_below HR3.out HB2.out)
 rw [HI.out, if_pos rfl] at HE
 go_upto_region 6 with (first | (go_at_call 23; refine HE.mono ?_; rintro e w3 ⟨rfl, hb3⟩; have HB3 := Aside0.mk hb3; clear hb3))
 clear HE
 have HB3' : Aside0 (Below w.heap.size w w3) := ⟨HB2.out.trans (HB3.out.mono HB2.out.size)⟩
 have BG3 := Aside0.mk (blk_below BG.out HB3.out)
 have BJ3 := Aside0.mk (blk_below BJ.out HB3.out)
 have BA3 := Aside0.mk (blk_below BA.out HB3.out)
 have BL3 := Aside0.mk (blk_below BL.out HB3.out)
 clear g0 j2 a0 l0 BG BJ BA BL
 have l0 : w3.cell? ⟨w.heap.size + 1 + 1 + 1, 0, none⟩ = some (.slice (some ad) vs.length c3) := (blk_cell BL3.out 0).trans rfl
 have HCL := cloneV.on ad vs.length c3 vs w3 (Kd.C_below HR3.out HB3'.out) HN.out
 have f0 : ∀ (X : World) o, (X.alloc (.cells #[o] 27)).frozen? ⟨X.heap.size, 0, none⟩ = false := fun X o => blk_frozen (blk_new X _) 0
 go_upto_region 9 with (first | (go_at_call 24; refine HCL.mono ?_; rintro e w4 ⟨v4, rfl, hr4, hb4⟩; obtain ⟨gO, cO, e4, _, _, _⟩ := Kd.R_form hr4 HP.out; subst e4; have HR4 := Aside0.mk hr4; have HB4 := Aside0.mk hb4; clear hr4 hb4))
 have HNI := Aside0.mk (next_start BG3.out BJ3.out BA3.out BL3.out HB3'.out HB4.out HR4.out)
 clear BG3 BJ3 BA3 BL3 HR4 HB4 HB3 HCL f0 l0
 generalize ((w4.alloc (.cells #[.slice (some ⟨gO, 0, none⟩) vs.length cO] 27)).alloc (.cells #[.slice none 0 0] 29)) = X at HNI ⊢
 generalize w4.heap.size = bO at HNI ⊢
 have l0 : X.cell? ⟨w.heap.size + 1 + 1 + 1, 0, none⟩ = some (.slice (some ad) vs.length c3) := (blk_cell HNI.out.2.1.2.2.2.1 0).trans rfl
 have HST := steps_each n src steps at_ tag A0_1 (some ad) c0_1 c3 es vs q HNI.out HR0.out HC0.out HR3.out HN.out HQ.out HQL.out
 obtain ⟨qo, qs, qe⟩ := q
 go_upto_region 10 with (first | (go_at_call 23; refine HST.mono ?_; rintro e w5 ⟨rfl, hb5, hn5⟩; have HB5 := Aside0.mk hb5; have HN5 := Aside0.mk hn5; clear hb5 hn5))
 clear HST l0
 by_cases he : qe = 0
 ·subst he
  have hr := HR.out
  rw [if_pos rfl] at hr
  obtain ⟨⟨po, pe⟩, hp1, hp2⟩ := Option.bind_eq_some_iff.mp hr
  have HN6 := Aside0.mk (HN5.out rfl)
  have HP2 := Aside0.mk hp2
  have l5 : w5.cell? ⟨w.heap.size + 1 + 1 + 1, 0, none⟩ = some (.slice (some ad) vs.length c3) := (blk_cell HN6.out.2.1.2.2.2.1 0).trans rfl
  have HCM := comes_each src steps tag (some ad) c3 vs.length qo qs (po, pe) HN6.out HN.out hp1
  clear hr hp1 hp2
  go_upto_region 14 with (first | (go_at_call 23; refine HCM.mono ?_; rintro e w6 ⟨rfl, hb6, hn6⟩; have HB6 := Aside0.mk hb6; have HN7 := Aside0.mk hn6; clear hb6 hn6))
  clear HCM l5
  by_cases he2 : pe = 0
  ·subst he2
   have hp2 := HP2.out
   rw [if_pos rfl] at hp2
   obtain rfl := Option.some.inj hp2
   have HN8 := Aside0.mk (HN7.out rfl)
   obtain ⟨_, ⟨_, _, _, _, hO⟩, _, sv, hS, hRS, hRO⟩ := HN8.out
   obtain ⟨AS, cS, eS⟩ := Kd.R_slice hRS
   subst eS
   have b0 : w6.cell? ⟨bO, 0, none⟩ = some (.slice (some ⟨gO, 0, none⟩) vs.length cO) := (blk_cell hO 0).trans rfl
   have s0 : w6.cell? ⟨bO + 1, 0, none⟩ = some (.slice AS qs.length cS) := (blk_cell hS 0).trans rfl
   have HSO := Aside0.mk hRO
   have HSORT : ∀ W, Below w6.heap.size w6 W → Calls Tryz.prog 29 #[.slice AS qs.length cS] W fun e w' => ∃ v0_ : Value, e = .returned v0_ ∧ Kd.R k61 61 w' W.heap.size (fun _ => True) v0_ (sortMsg qs) ∧ Below W.heap.size W w' := fun W hW => fold_Sort.calls AS cS qs (sortMsg qs) W (Kd.C_below (Kd.R_reads' hRS).2.2 hW) (Kd.R_reads' hRS).2.1 (by unfold fold_Sort.f; rw [if_pos (by have h9 : qs.length ≤ 1000000 := HQL.out; omega)])
   clear hp2 hO hS hRS hRO
   go_upto_region 16 with (fail)
   go_region_held3 (fun w' => w'.cell? ⟨bO, 0, none⟩ = some (.slice (some ⟨gO, 0, none⟩) vs.length cO) ∧ w'.cell? ⟨bO + 1, 0, none⟩ = some (.slice AS qs.length cS)) (first | exact ⟨b0, s0⟩ | exact ⟨b9, s9⟩ | go_keep)
    (first
     | (go_at_call 29; refine (HSORT _ (by repeat (first | exact Below.refl _ _ | apply below_drew1 | apply below_drew))).mono ?_; rintro e w7 ⟨v7, rfl, hr7, hb7⟩; obtain ⟨A7, c7, e7⟩ := Kd.R_slice hr7; subst e7; have hb8 : Below w6.heap.size w6 w7 := (below_drew1 (Below.refl _ _)).trans (hb7.mono (by first | exact Nat.le_refl _ | simp)); have HB8 := Aside0.mk hb8; have HR8 := Aside0.mk (Kd.R_lower hr7 (show w.heap.size ≤ _ from HN8.out.1.size)); have b9 := (hb8.cell (p := ⟨bO, 0, none⟩) (World.block_lt_of_cell? w6 _ b0)).trans b0; have s9 := (hb8.cell (p := ⟨bO + 1, 0, none⟩) (World.block_lt_of_cell? w6 _ s0)).trans s0; clear hr7 hb7 hb8))
   all_goals
    go_wp2
    go_ret3
    exact ⟨_, _, rfl, Kd.R_below HSO.out HB8.out, HR8.out, HN8.out.1.trans (HB8.out.mono HN8.out.1.size)⟩
  ·have hp2 := HP2.out
   rw [if_neg he2] at hp2
   obtain rfl := Option.some.inj hp2
   have y1 : (pe != 0) = true := bne_iff_ne.mpr he2
   clear hp2 he2
   go_wp2
   go_ret3
   exact NextPost.none HB6.out
 ·have hr := HR.out
  rw [if_neg he] at hr
  obtain rfl := Option.some.inj hr
  have y1 : (qe != 0) = true := bne_iff_ne.mpr he
  clear hr he
  go_wp2
  go_ret3
  exact NextPost.none HB5.out
end
theorem seq_Next.calls (a0_0 : Int) (A0_1 : Option Addr) (c0_1 : Nat) (l0_1 : List S48) (a1_0 : ByteArray) (a1_1 a1_2 a2 : Int) (A3 : Option Addr) (c3 : Nat) (l3 : List S50) (r1 : List S50) (r2 : List S61) (r3 : Int) (w : World) (hr0_1 : Kd.C k48 w A0_1 l0_1.length l0_1) (hc0_1 : l0_1.length ≤ c0_1) (hr3 : Kd.C k50 w A3 l3.length l3) (hc3 : l3.length ≤ c3) (h : seq_Next.f a0_0 l0_1 a1_0 a1_1 a1_2 a2 l3 = some (r1, r2, r3)) :
  Calls Tryz.prog 6 #[.agg #[.int .i64 a0_0, .slice A0_1 l0_1.length c0_1], .agg #[.string a1_0, .int .i64 a1_1, .int .i64 a1_2], .int .i64 a2, .slice A3 l3.length c3] w fun e w' => ∃ v0_ v1_ : Value, e = .returned (.tuple #[v0_, v1_, .int .i64 r3]) ∧ Kd.R k50 50 w' w.heap.size (fun _ => True) v0_ r1 ∧ Kd.R k61 61 w' w.heap.size (fun _ => True) v1_ r2 ∧ Below w.heap.size w w' := by
 unfold seq_Next.f at h
 obtain ⟨c, hc, h⟩ := Option.bind_eq_some_iff.mp h
 have HCK : ∀ W, Below w.heap.size w W → Calls Tryz.prog 21 #[.agg #[.int .i64 a0_0, .slice A0_1 l0_1.length c0_1], .agg #[.string a1_0, .int .i64 a1_1, .int .i64 a1_2]] W fun e w' => e = .returned (.int .i64 c) ∧ Below W.heap.size W w' := fun W hW => prog_Check.calls 20 a0_0 A0_1 c0_1 l0_1 a1_0 a1_1 a1_2 c W (Kd.C_below hr0_1 hW) hc0_1 hc
 by_cases hc0 : c = 0
 ·subst hc0
  rw [if_pos rfl] at h
  by_cases h1 : a2 < 0
  ·rw [if_pos h1] at h
   simp only [Option.some.injEq, Prod.mk.injEq] at h
   obtain ⟨rfl, rfl, rfl⟩ := h
   exact seq_Next.w_odd A0_1 A3 c0_1 c3 a0_0 a1_1 a1_2 a2 a1_0 l0_1 l3.length w 0 HCK (by omega)
  ·rw [if_neg h1] at h
   by_cases h2 : a2 ≥ a1_2
   ·rw [if_pos h2] at h
    simp only [Option.some.injEq, Prod.mk.injEq] at h
    obtain ⟨rfl, rfl, rfl⟩ := h
    exact seq_Next.w_odd A0_1 A3 c0_1 c3 a0_0 a1_1 a1_2 a2 a1_0 l0_1 l3.length w 0 HCK (by omega)
   ·rw [if_neg h2] at h
    by_cases h3 : l3.length ≤ 1000000
    ·rw [if_pos h3] at h
     by_cases h4 : (l3.length : Int) ≠ a0_0
     ·rw [if_pos h4] at h
      simp only [Option.some.injEq, Prod.mk.injEq] at h
      obtain ⟨rfl, rfl, rfl⟩ := h
      exact seq_Next.w_form A0_1 A3 c0_1 c3 a0_0 a1_1 a1_2 a2 a1_0 l0_1 l3 w hr3 HCK (by omega) (by omega) h3 (.inl h4)
     ·rw [if_neg h4] at h
      by_cases h5 : idsOk l3 0 = false
      ·rw [if_pos h5] at h
       simp only [Option.some.injEq, Prod.mk.injEq] at h
       obtain ⟨rfl, rfl, rfl⟩ := h
       exact seq_Next.w_form A0_1 A3 c0_1 c3 a0_0 a1_1 a1_2 a2 a1_0 l0_1 l3 w hr3 HCK (by omega) (by omega) h3 (.inr h5)
      ·rw [if_neg h5] at h
       obtain ⟨q, hq, h⟩ := Option.bind_eq_some_iff.mp h
       by_cases h6 : q.2.1.length ≤ 1000000
       ·rw [if_pos h6] at h
        have hb := (badG_not (check_zero hc).1).1
        exact seq_Next.w_main A0_1 A3 c0_1 c3 a0_0 a1_1 a1_2 a2 a1_0 l0_1 l3 w hr0_1 hc0_1 hr3 HCK (by omega) (by omega) h3 (by omega) (by omega) (by simpa using h5) q hq h6 (r1, r2, r3) h
       ·rw [if_neg h6] at h
        cases h
    ·rw [if_neg h3] at h
     cases h
 ·rw [if_neg hc0] at h
  simp only [Option.some.injEq, Prod.mk.injEq] at h
  obtain ⟨rfl, rfl, rfl⟩ := h
  exact seq_Next.w_odd A0_1 A3 c0_1 c3 a0_0 a1_1 a1_2 a2 a1_0 l0_1 l3.length w c HCK (fun h => hc0 h.1)

/-! ### seq_Quiet: function 11 (given) -/
/-- Does one go on, or came something to him? -/
def loudV (x : S50) : Bool := x.f2 || x.f3
def seq_Quiet.f (l0 : List S50) : Option Bool := if l0.length ≤ 9223372036854775806 then some (!(l0.any loudV)) else none
section
open Go.Shelf Go.Proofs.YtpndhkeoljoapaaGreat.Bridge
set_option maxHeartbeats 8000000 in
theorem seq_Quiet_1.on (w : World) : PredOn Tryz.prog 34 #[] (fun x => .agg (encVertex x).toArray) loudV w := fun W x hW => by
 have hu := Tryz.underlying50
 show Calls Tryz.prog 34 #[.agg #[.int .i64 x.f0, .int .i64 x.f1, .bool x.f2, .bool x.f3, .int .i64 x.f4]] W _
 unfold loudV
 generalize x.f0 = y0
 generalize x.f1 = y1
 generalize x.f2 = y2
 generalize x.f3 = y3
 generalize x.f4 = y4
 cases y2 <;>
 ·go_enter Tryz.func34, Tryz.ntmps34
  go_wp2
  go_ret
  exact ⟨by first | rfl | (simp [*]; done), by repeat (first | exact Below.refl _ _ | apply below_alloc | apply pw_below_drewN)⟩
set_option maxHeartbeats 8000000 in
theorem seq_Quiet.calls (A0 : Option Addr) (c0 : Nat) (l0 : List S50) (r : Bool) (w : World) (hr0 : Kd.C k50 w A0 l0.length l0) (hc0 : l0.length ≤ c0) (h : seq_Quiet.f l0 = some r) :
  Calls Tryz.prog 11 #[.slice A0 l0.length c0] w fun e w' => e = .returned (.bool r) ∧ Below w.heap.size w w' := by
 unfold seq_Quiet.f at h
 split at h
 ·rename_i hl
  obtain rfl := Option.some.inj h
  have eg : ∀ args w, (callFunc 34 args).run Tryz.prog w = .ok (.enter 34 args) w := enters_of Tryz.func34 (by kernel_rfl) rfl
  have HQ := fun (W : World) (hW : Below w.heap.size w W) => hasVertex.on loudV 34 #[] eg A0 c0 l0 W (Kd.C_below hr0 hW) hl (seq_Quiet_1.on W)
  clear hr0 hc0 hl h eg
  generalize l0.any loudV = b at HQ ⊢
  go_enter Tryz.func11, Tryz.ntmps11
  go_wp2_with (first | (go_at_call 33; refine (HQ _ (by repeat (first | exact Below.refl _ _ | apply below_drew1 | apply below_alloc))).mono ?_; rintro e w2 ⟨rfl, hb⟩; have HB := Aside0.mk hb; clear hb))
  go_ret
  exact ⟨rfl, HB.out⟩
 ·cases h
end

end Go.Proofs.YtpndhkeoljoapaaGreat.P
