/- What these Go functions compute, as Lean functions, and that they do. No condition. -/
import Derived.Test.YtpndhkeoljoapaaGreatPx0
import Derived.Test.YtpndhkeoljoapaaGreatPx3
import Derived.Test.YtpndhkeoljoapaaGreatPx4
import Derived.Test.YtpndhkeoljoapaaGreatPx5
namespace Go.Proofs.YtpndhkeoljoapaaGreat.P
open Go.RowKit Go.Proofs.YtpndhkeoljoapaaGreatW.PrintWords Go.Proofs.YtpndhkeoljoapaaGreatW.PrintLast Go.Proofs.YtpndhkeoljoapaaGreatW.PrintMore
attribute [local go_sem] max2_int min2_int max_two min_two max_three min_three max_four min_four   -- for this text's walks alone
set_option linter.unusedVariables false
set_option linter.unusedSimpArgs false
set_option linter.unnecessarySimpa false

/-! ### prog_Step: function 26 (given) -/
/-- How much more goes along an edge. -/
def weightV (t : List UInt8) (e : S48) : Int := if t = sSssp then e.f2 else if t = sBfs then 1 else 0
def sendV (t : List UInt8) (id what : Int) (e : S48) : S61 := ⟨id, e.f1, what + weightV t e⟩
def bigS (v : Int) : Bool := decide (v > 1125899906842624) || decide (v < -1125899906842624)
/-- What a vertex that takes part comes to, and sends. -/
def goesV (l : List S48) (t : List UInt8) (source steps at_ id value : Int) (has : Bool) (inn : Int) : Int × Int × Bool × Bool × Int × List S61 × Int :=
 let edges := (sortE l).filter fun e => e.f0 == id
 let s := stepV t source steps at_ id value has inn (edges.length : Int)
 let ms := if s.2.2.1 = true then edges.map (sendV t id s.2.2.2) else []
 if (bigS s.1 || ms.any fun m => bigS m.f2) = true then (0, 0, false, false, 0, [], 71) else (id, s.1, s.2.1, false, 0, ms, 0)
def prog_Step.f (a0_0 : Int) (l0_1 : List S48) (a1_0 : ByteArray) (a1_1 a1_2 a2 a3_0 a3_1 : Int) (a3_2 a3_3 : Bool) (a3_4 : Int) : Option (Int × Int × Bool × Bool × Int × List S61 × Int) :=
 (prog_Check.f 20 a0_0 l0_1 a1_0 a1_1 a1_2).bind fun c =>
  if c = 0 then
   if a3_0 < 0 ∨ a3_0 ≥ a0_0 ∨ a2 < 0 ∨ a2 ≥ a1_2 then some (0, 0, false, false, 0, [], 70)
   else if (bigS a3_1 || bigS a3_4) = true then some (0, 0, false, false, 0, [], 71)
   else if (!a3_2 && !a3_3) = true then some (a3_0, a3_1, a3_2, a3_3, a3_4, [], 0)
   else some (goesV l0_1 a1_0.toList a1_1 a1_2 a2 a3_0 a3_1 a3_3 (if a3_3 = true then a3_4 else 0))
  else some (0, 0, false, false, 0, [], 70)
section
open Go.Shelf Go.Proofs.YtpndhkeoljoapaaGreat.Bridge
/-- Two blocks may turn, and what is made anew: nothing else below s. -/
structure Kept (s bf bl : Nat) (w w' : World) : Prop where
 os : w'.os = w.os
 tape : w'.tape = w.tape
 output : w'.output = w.output
 size : w.heap.size ≤ w'.heap.size
 block : ∀ k, k < s → k ≠ bf → k ≠ bl → w'.heap[k]? = w.heap[k]?
theorem Kept.of_below {s bf bl : Nat} {w w' : World} (h : Below s w w') : Kept s bf bl w w' := ⟨h.os, h.tape, h.output, h.size, fun k hk _ _ => h.block k hk⟩
theorem Kept.refl (s bf bl : Nat) (w : World) : Kept s bf bl w w := .of_below (Below.refl _ _)
theorem Kept.trans {s bf bl : Nat} {w w1 w2 : World} (h : Kept s bf bl w w1) (k : Kept s bf bl w1 w2) : Kept s bf bl w w2 :=
 ⟨k.os.trans h.os, k.tape.trans h.tape, k.output.trans h.output, Nat.le_trans h.size k.size, fun i hi hf hl => (k.block i hi hf hl).trans (h.block i hi hf hl)⟩
theorem Kept.set {s bf bl : Nat} (w : World) (g j : Nat) (u : Value) (hg : g = bf ∨ g = bl) : Kept s bf bl w (w.setCell ⟨g, j, none⟩ u) := by
 have h : Below 0 w (w.setCell ⟨g, j, none⟩ u) := (Below.refl 0 w).setCell (Nat.zero_le _) _
 exact ⟨h.os, h.tape, h.output, h.size, fun k _ hf hl => Below.heap_setCell w ⟨g, j, none⟩ u k (by rcases hg with e | e <;> simp only <;> omega)⟩
theorem Kept.to_below {s bf bl B : Nat} {w w' : World} (h : Kept s bf bl w w') (hf : B ≤ bf) (hl : B ≤ bl) (hs : B ≤ s) : Below B w w' :=
 ⟨h.os, h.tape, h.output, h.size, fun k hk => h.block k (by omega) (by omega) (by omega)⟩
theorem Kept.cell {s bf bl b o : Nat} {w w' : World} (h : Kept s bf bl w w') (hb : b < s) (hf : b ≠ bf) (hl : b ≠ bl) : w'.cell? ⟨b, o, none⟩ = w.cell? ⟨b, o, none⟩ := by
 unfold World.cell?
 rw [h.block b hb hf hl]
def SendPost (s bf bl : Nat) (W : World) (fl : Bool) (xs : List S61) (m : S61) (e : Ending) (w' : World) : Prop :=
 ∃ v' : Value, e = .returned (.tuple #[]) ∧ Kd.R k61 61 w' s (fun _ => True) v' (xs ++ [m]) ∧ w'.heap[bf]? = some (.cells #[.bool (fl || bigS m.f2)] 4 (0, 0)) ∧ w'.heap[bl]? = some (.cells #[v'] 29 (0, 0)) ∧ Kept s bf bl W w'
def SendPost' (s bf bl : Nat) (W : World) (x : Bool) (xs : List S61) (m : S61) (e : Ending) (w' : World) : Prop :=
 ∃ v' : Value, e = .returned (.tuple #[]) ∧ Kd.R k61 61 w' s (fun _ => True) v' (xs ++ [m]) ∧ w'.heap[bf]? = some (.cells #[.bool x] 4 (0, 0)) ∧ w'.heap[bl]? = some (.cells #[v'] 29 (0, 0)) ∧ Kept s bf bl W w'
theorem weight_ok (t : ByteArray) (e : S48) : prog_weight.f t e.f0 e.f1 e.f2 = some (weightV t.toList e) := by
 unfold prog_weight.f weightV
 split
 ·rfl
 ·split <;> rfl
theorem great_ok (v : Int) : prog_great.f v = some (bigS v) := by
 unfold prog_great.f bigS
 by_cases h : v > 1125899906842624
 ·rw [if_pos h, decide_eq_true h]; rfl
 ·rw [if_neg h, decide_eq_false h]; rfl
theorem send_facts {W W1 w3 : World} (e : S48) (h1 : Below (W.heap.size + 1) (W.alloc (.cells #[.int .i64 e.f0, .int .i64 e.f1, .int .i64 e.f2] 48)) W1) (hb : Below W1.heap.size W1 w3) :
  Aside0 (W1.heap.size ≤ w3.heap.size) ∧ Aside0 (Below W.heap.size W w3) ∧ (∀ b i u, b < W.heap.size → (W.alloc (.cells #[.int .i64 e.f0, .int .i64 e.f1, .int .i64 e.f2] 48)).cell? ⟨b, i, none⟩ = some u → w3.cell? ⟨b, i, none⟩ = some u) ∧ w3.cell? ⟨W.heap.size, 0, none⟩ = some (.int .i64 e.f0) ∧ w3.cell? ⟨W.heap.size, 1, none⟩ = some (.int .i64 e.f1) ∧ w3.cell? ⟨W.heap.size, 2, none⟩ = some (.int .i64 e.f2) := by
 have hsz : (W.alloc (.cells #[.int .i64 e.f0, .int .i64 e.f1, .int .i64 e.f2] 48)).heap.size = W.heap.size + 1 := by simp
 have hb0 : Below W.heap.size W (W.alloc (.cells #[.int .i64 e.f0, .int .i64 e.f1, .int .i64 e.f2] 48)) := below_alloc (Below.refl _ _) _
 have h13 : Below (W.heap.size + 1) (W.alloc (.cells #[.int .i64 e.f0, .int .i64 e.f1, .int .i64 e.f2] 48)) w3 := h1.trans (hb.mono (by have := h1.size; omega))
 refine ⟨⟨hb.size⟩, ⟨hb0.trans (h13.mono (by omega))⟩, fun b i u hlt hu => (h13.cell (p := ⟨b, i, none⟩) (by show b < _; omega)).trans hu, ?_, ?_, ?_⟩
 ·exact (h13.cell (p := ⟨W.heap.size, 0, none⟩) (by show W.heap.size < _; omega)).trans (show _ = some (Value.int .i64 e.f0) by simp)
 ·exact (h13.cell (p := ⟨W.heap.size, 1, none⟩) (by show W.heap.size < _; omega)).trans (show _ = some (Value.int .i64 e.f1) by simp)
 ·exact (h13.cell (p := ⟨W.heap.size, 2, none⟩) (by show W.heap.size < _; omega)).trans (show _ = some (Value.int .i64 e.f2) by simp)
theorem below_alloc' {B : Nat} {w W : World} (h : Below B w W) (hB : B ≤ W.heap.size) (o : Obj) : Below B w (W.alloc o) := h.alloc hB o
theorem send_facts2 {W w3 : World} (e : S48) (hb : Below ((W.alloc (.cells #[.int .i64 e.f0, .int .i64 e.f1, .int .i64 e.f2] 48)).alloc (.cells #[.int .i64 0, .int .i64 0, .int .i64 0] 61)).drew.heap.size ((W.alloc (.cells #[.int .i64 e.f0, .int .i64 e.f1, .int .i64 e.f2] 48)).alloc (.cells #[.int .i64 0, .int .i64 0, .int .i64 0] 61)).drew w3) :
  Aside0 (w3.heap[W.heap.size + 1]? = some (.cells #[.int .i64 0, .int .i64 0, .int .i64 0] 61 (0, 0))) ∧ Aside0 (((W.alloc (.cells #[.int .i64 e.f0, .int .i64 e.f1, .int .i64 e.f2] 48)).alloc (.cells #[.int .i64 0, .int .i64 0, .int .i64 0] 61)).drew.heap.size ≤ w3.heap.size) ∧ Aside0 (Below W.heap.size W w3) ∧ (∀ b i u, b < W.heap.size → (W.alloc (.cells #[.int .i64 e.f0, .int .i64 e.f1, .int .i64 e.f2] 48)).cell? ⟨b, i, none⟩ = some u → w3.cell? ⟨b, i, none⟩ = some u) ∧ w3.cell? ⟨W.heap.size, 0, none⟩ = some (.int .i64 e.f0) ∧ w3.cell? ⟨W.heap.size, 1, none⟩ = some (.int .i64 e.f1) ∧ w3.cell? ⟨W.heap.size, 2, none⟩ = some (.int .i64 e.f2) :=
 ⟨⟨blk_below (blk_drew (heap_alloc2_new W _ _)) hb⟩, send_facts e (below_drew1 (below_alloc' (Below.refl _ _) (by simp) _)) hb⟩
theorem far3 {w : World} {b i m : Nat} {u a1 a2 a3 : Value} (h : w.cell? ⟨b, i, none⟩ = some u) (hne : b ≠ m) : (((w.setCell ⟨m, 0, none⟩ a1).setCell ⟨m, 1, none⟩ a2).setCell ⟨m, 2, none⟩ a3).cell? ⟨b, i, none⟩ = some u := by
 rw [cell_far (a := ⟨b, i, none⟩) (p := ⟨m, 2, none⟩) hne, cell_far (a := ⟨b, i, none⟩) (p := ⟨m, 1, none⟩) hne, cell_far (a := ⟨b, i, none⟩) (p := ⟨m, 0, none⟩) hne]
 exact h
set_option maxHeartbeats 16000000 in
set_option maxRecDepth 100000 in
theorem prog_Step_1.on (tag : ByteArray) (id what : Int) (e : S48) (bx bw bj bf bl s : Nat) (fl : Bool) (v : Value) (xs : List S61) (W : World)
  (hx : W.cell? ⟨bx, 0, none⟩ = some (.int .i64 id)) (hw : W.cell? ⟨bw, 0, none⟩ = some (.int .i64 what)) (hj : W.cell? ⟨bj, 0, none⟩ = some (.string tag)) (hf : W.heap[bf]? = some (.cells #[.bool fl] 4 (0, 0))) (hl : W.heap[bl]? = some (.cells #[v] 29 (0, 0)))
  (hR : Kd.R k61 61 W s (fun _ => True) v xs) (hs : s ≤ W.heap.size) (lx : bx < s) (lw : bw < s) (lj : bj < s) (lf : bf < s) (ll : bl < s) (hfl : bf ≠ bl) (hlen : xs.length < 1000000)
  (b1 : -9007199254740992 ≤ what) (b2 : what ≤ 9007199254740992) (b3 : -9007199254740992 ≤ weightV tag.toList e) (b4 : weightV tag.toList e ≤ 9007199254740992) :
  Calls Tryz.prog 44 #[.agg #[.int .i64 e.f0, .int .i64 e.f1, .int .i64 e.f2], .pointer (some ⟨bx, 0, none⟩), .pointer (some ⟨bw, 0, none⟩), .pointer (some ⟨bj, 0, none⟩), .pointer (some ⟨bf, 0, none⟩), .pointer (some ⟨bl, 0, none⟩)] W (SendPost s bf bl W fl xs ⟨id, e.f1, what + weightV tag.toList e⟩) := by
 have hu1 := Tryz.underlying48
 have hu2 := Tryz.underlying61
 have hu3 := Tryz.underlying50
 have hu4 := Tryz.underlying26
 have HWt : ∀ W, Calls Tryz.prog 45 #[.string tag, .agg #[.int .i64 e.f0, .int .i64 e.f1, .int .i64 e.f2]] W fun x w' => x = .returned (.int .i64 (weightV tag.toList e)) ∧ Below W.heap.size W w' := fun W => prog_weight.calls tag e.f0 e.f1 e.f2 _ W (weight_ok tag e)
 generalize weightV tag.toList e = wt at HWt b3 b4 ⊢
 have HG : ∀ W, Calls Tryz.prog 41 #[.int .i64 (what + wt)] W fun x w' => x = .returned (.bool (bigS (what + wt))) ∧ Drawn0 W w' := fun W => prog_great.calls _ _ W (great_ok _)
 rw [show SendPost s bf bl W fl xs (⟨id, e.f1, what + wt⟩ : S61) = SendPost' s bf bl W (fl || bigS (what + wt)) xs (⟨id, e.f1, what + wt⟩ : S61) from rfl]
 generalize bigS (what + wt) = gr at HG ⊢
 have hw1 : IntKind.i64.wrap (what + wt) = what + wt := IntWalk.i64_in _ (by omega)
 have hw2 : wrap64 (what + wt) = what + wt := by unfold wrap64; omega
 have hbx : bx < W.heap.size := by omega
 have hbw : bw < W.heap.size := by omega
 have hbj : bj < W.heap.size := by omega
 have LX := Aside0.mk (show bx < W.heap.size by omega)
 have LW := Aside0.mk (show bw < W.heap.size by omega)
 have LJ := Aside0.mk (show bj < W.heap.size by omega)
 clear hbx hbw hbj
 have x0 : (W.alloc (.cells #[.int .i64 e.f0, .int .i64 e.f1, .int .i64 e.f2] 48)).cell? ⟨bx, 0, none⟩ = some (.int .i64 id) := cell_old hx
 have x1 : (W.alloc (.cells #[.int .i64 e.f0, .int .i64 e.f1, .int .i64 e.f2] 48)).cell? ⟨bw, 0, none⟩ = some (.int .i64 what) := cell_old hw
 have x2 : (W.alloc (.cells #[.int .i64 e.f0, .int .i64 e.f1, .int .i64 e.f2] 48)).cell? ⟨bj, 0, none⟩ = some (.string tag) := cell_old hj
 have HF := Aside0.mk hf
 have HLc := Aside0.mk hl
 have HR := Aside0.mk hR
 have HS := Aside0.mk (show s ≤ W.heap.size from hs)
 have HLF := Aside0.mk (show bf < s from lf)
 have HLL := Aside0.mk (show bl < s from ll)
 have HNE := Aside0.mk hfl
 have HLEN := Aside0.mk hlen
 clear hf hl hR hs lx lw lj lf ll hlen b1 b2 b3 b4 hx hw hj hfl
 go_enter Tryz.func44, Tryz.ntmps44
 go_upto_region 1 with (fail)
 go_cut [7] (fun v7 wc => ∃ (m : Nat), v7 = .pointer (some ⟨m, 0, none⟩) ∧ Aside0 (wc.heap[m]? = some (.cells #[.int .i64 id, .int .i64 e.f1, .int .i64 (what + wt)] 61 (0, 0))) ∧ Aside0 (Below W.heap.size W wc) ∧ Aside0 (W.heap.size ≤ m))
 case first =>
  go_region_held3 (fun w' => w'.cell? ⟨bx, 0, none⟩ = some (.int .i64 id) ∧ w'.cell? ⟨bw, 0, none⟩ = some (.int .i64 what) ∧ w'.cell? ⟨bj, 0, none⟩ = some (.string tag) ∧ w'.cell? ⟨W.heap.size, 0, none⟩ = some (.int .i64 e.f0) ∧ w'.cell? ⟨W.heap.size, 1, none⟩ = some (.int .i64 e.f1) ∧ w'.cell? ⟨W.heap.size, 2, none⟩ = some (.int .i64 e.f2)) (first | exact ⟨x0, x1, x2, by simp, by simp, by simp⟩ | exact ⟨y0, y1, y2, y3, y4, y5⟩ | exact ⟨far3 y0 N0.out, far3 y1 N1.out, far3 y2 N2.out, far3 y3 (Nat.ne_of_lt (Nat.lt_succ_self _)), far3 y4 (Nat.ne_of_lt (Nat.lt_succ_self _)), far3 y5 (Nat.ne_of_lt (Nat.lt_succ_self _))⟩ | go_keep)
   (first
    | (go_at_call 45; refine (HWt _).mono ?_; rintro x w3 ⟨rfl, hb3⟩; obtain ⟨H1, HB3, HOLD, y3, y4, y5⟩ := send_facts e (below_drew1 (Below.refl _ _)) hb3; have y0 := HOLD bx 0 _ LX.out x0; have y1 := HOLD bw 0 _ LW.out x1; have y2 := HOLD bj 0 _ LJ.out x2; clear hb3 HOLD)
    | (go_at_call 45; refine (HWt _).mono ?_; rintro x w3 ⟨rfl, hb3⟩; obtain ⟨BKm, H1, HB3, HOLD, y3, y4, y5⟩ := send_facts2 e hb3; have y0 := HOLD bx 0 _ LX.out x0; have y1 := HOLD bw 0 _ LW.out x1; have y2 := HOLD bj 0 _ LJ.out x2; clear hb3 HOLD; have m0 : w3.cell? ⟨W.heap.size + 1, 0, none⟩ = some (Value.int .i64 0) := (blk_cell BKm.out 0).trans rfl; have m1 : w3.cell? ⟨W.heap.size + 1, 1, none⟩ = some (Value.int .i64 0) := (blk_cell BKm.out 1).trans rfl; have m2 : w3.cell? ⟨W.heap.size + 1, 2, none⟩ = some (Value.int .i64 0) := (blk_cell BKm.out 2).trans rfl; have g0 := blk_frozen BKm.out 0; have g1 := blk_frozen BKm.out 1; have g2 := blk_frozen BKm.out 2; have N0 := Aside0.mk (Nat.ne_of_lt (Nat.lt_succ_of_lt LX.out)); have N1 := Aside0.mk (Nat.ne_of_lt (Nat.lt_succ_of_lt LW.out)); have N2 := Aside0.mk (Nat.ne_of_lt (Nat.lt_succ_of_lt LJ.out))))
  all_goals
   go_wp2
   go_meet
   case rel => exact ⟨_, rfl, ⟨by first | exact blk_put (blk_put (blk_put BKm.out 0 _ rfl) 1 _ rfl) 2 _ rfl | exact blk_new _ _⟩, ⟨by first | exact below_set (below_set (below_set HB3.out (Nat.le_succ _)) (Nat.le_succ _)) (Nat.le_succ _) | exact below_alloc HB3.out _⟩, ⟨by first | exact Nat.le_succ _ | exact HB3.out.size⟩⟩
 case rest =>
  obtain ⟨m, rfl, BKm, HB, HM⟩ := hcut
  clear x0 x1 x2 HWt
  have BF := Aside0.mk (blk_below HF.out HB.out)
  have BL := Aside0.mk (blk_below HLc.out HB.out)
  have HR2 := Aside0.mk (Kd.R_below HR.out HB.out)
  have cf : wc.cell? ⟨bf, 0, none⟩ = some (.bool fl) := (blk_cell BF.out 0).trans rfl
  have zf := blk_frozen BF.out 0
  have cl : wc.cell? ⟨bl, 0, none⟩ = some v := (blk_cell BL.out 0).trans rfl
  obtain ⟨cm0, cm1, cm2⟩ := c3z wc BKm.out
  have mf : m ≠ bf := by have := HM.out; have := HLF.out; have := HS.out; omega
  have lf : bl ≠ bf := fun h => HNE.out h.symm
  have z1 : ∀ n u, ((wc.drewN n).setCell ⟨bf, 0, none⟩ u).cell? ⟨bl, 0, none⟩ = some v := fun n u => (cell_far (a := ⟨bl, 0, none⟩) (p := ⟨bf, 0, none⟩) lf u).trans cl
  have z1' : ∀ u, (wc.setCell ⟨bf, 0, none⟩ u).cell? ⟨bl, 0, none⟩ = some v := fun u => (cell_far (a := ⟨bl, 0, none⟩) (p := ⟨bf, 0, none⟩) lf u).trans cl
  cases fl with
  | true =>
   have SZ : Aside0 (s ≤ (wc.setCell ⟨bf, 0, none⟩ (.bool true)).heap.size) := ⟨by have h1 := HS.out; have h2 := HB.out.size; simp; omega⟩
   have SZE : Aside0 (wc.heap.size = (wc.setCell ⟨bf, 0, none⟩ (.bool true)).heap.size) := ⟨by simp⟩
   go_wp2_with (at_builtin; refine Kd.R_append k61 (w0 := wc.setCell ⟨bf, 0, none⟩ (.bool true)) s rfl (.tmp 25) (.tmp 27) 29 61 (.agg #[(.int .i64 0), (.int .i64 0), (.int .i64 0)]) 24 rfl Tryz.underlying29 info61 rfl (by decide) (by omega) v xs (⟨id, e.f1, what + wt⟩ : S61) [.int .i64 id, .int .i64 e.f1, .int .i64 (what + wt)] (fun _ => True) (fun _ => False) rfl (congrArg (fun z : Nat => Value.slice (some ⟨z, 0, none⟩) 1 1) SZE.out) ?aP (fun _ hk => hk.elim) ?aF ?aO ?aB ?aS ?aL ?_; (case aP => exact k61_mkM _ _ _ _); (case aF => exact (fun _ _ => trivial)); (case aO => exact Kd.R_set HR2.out BF.out (by decide) 0 _); (case aB => exact Below.refl _ _); (case aS => exact SZ.out); (case aL => have := HLEN.out; omega); intro v1 w10 ho hb hg hat; obtain ⟨A1, c1, e1⟩ := Kd.R_slice ho; subst e1; have BL10 := Aside0.mk ((hb.block bl HLL.out).trans (blk_far BL.out lf _)); have BF10 := Aside0.mk ((hb.block bf HLF.out).trans (blk_put BF.out 0 _ rfl)); have HO10 := Aside0.mk ho; have HB10 := Aside0.mk hb; clear ho hb hg hat; have cl10 : w10.cell? ⟨bl, 0, none⟩ = some v := (blk_cell BL10.out 0).trans rfl; have zl10 := blk_frozen BL10.out 0)
   go_end0
   exact ⟨_, rfl, Kd.R_set HO10.out BL10.out (by decide) 0 _, blk_far BF10.out HNE.out _, blk_put BL10.out 0 _ (by simp), (((Kept.of_below (HB.out.mono HS.out)).trans (Kept.set _ bf 0 _ (.inl rfl))).trans (Kept.of_below HB10.out)).trans (Kept.set _ bl 0 _ (.inr rfl))⟩
  | false =>
   have SZ : ∀ nd, Aside0 (s ≤ ((wc.drewN nd).setCell ⟨bf, 0, none⟩ (.bool gr)).heap.size) := fun nd => ⟨by have h1 := HS.out; have h2 := HB.out.size; simp; omega⟩
   have SZE : ∀ nd, Aside0 (wc.heap.size = ((wc.drewN nd).setCell ⟨bf, 0, none⟩ (.bool gr)).heap.size) := fun nd => ⟨by simp⟩
   go_wp2_with (first | (go_at_call 41; refine (HG _).mono ?_; rintro x w3 ⟨rfl, ⟨nd, rfl⟩⟩) | (at_builtin; refine Kd.R_append k61 (w0 := (wc.drewN nd).setCell ⟨bf, 0, none⟩ (.bool gr)) s rfl (.tmp 25) (.tmp 27) 29 61 (.agg #[(.int .i64 0), (.int .i64 0), (.int .i64 0)]) 24 rfl Tryz.underlying29 info61 rfl (by decide) (by omega) v xs (⟨id, e.f1, what + wt⟩ : S61) [.int .i64 id, .int .i64 e.f1, .int .i64 (what + wt)] (fun _ => True) (fun _ => False) rfl (congrArg (fun z : Nat => Value.slice (some ⟨z, 0, none⟩) 1 1) (SZE nd).out) ?aP (fun _ hk => hk.elim) ?aF ?aO ?aB ?aS ?aL ?_; (case aP => exact k61_mkM _ _ _ _); (case aF => exact (fun _ _ => trivial)); (case aO => exact Kd.R_set (Kd.R_drewN HR2.out nd) (blk_drewN BF.out nd) (by decide) 0 _); (case aB => exact Below.refl _ _); (case aS => exact (SZ nd).out); (case aL => have := HLEN.out; omega); intro v1 w10 ho hb hg hat; obtain ⟨A1, c1, e1⟩ := Kd.R_slice ho; subst e1; have BL10 := Aside0.mk ((hb.block bl HLL.out).trans (blk_far (blk_drewN BL.out nd) lf _)); have BF10 := Aside0.mk ((hb.block bf HLF.out).trans (blk_put (blk_drewN BF.out nd) 0 _ rfl)); have HO10 := Aside0.mk ho; have HB10 := Aside0.mk hb; clear ho hb hg hat; have cl10 : w10.cell? ⟨bl, 0, none⟩ = some v := (blk_cell BL10.out 0).trans rfl; have zl10 := blk_frozen BL10.out 0))
   go_end0
   exact ⟨_, rfl, Kd.R_set HO10.out BL10.out (by decide) 0 _, blk_far BF10.out HNE.out _, blk_put BL10.out 0 _ (by simp), ((((Kept.of_below (HB.out.mono HS.out)).trans (Kept.of_below (pw_below_drewN (Below.refl _ _) nd))).trans (Kept.set _ bf 0 _ (.inl rfl))).trans (Kept.of_below HB10.out)).trans (Kept.set _ bl 0 _ (.inr rfl))⟩
def StepPost (w : World) (r : Int × Int × Bool × Bool × Int × List S61 × Int) (e : Ending) (w' : World) : Prop :=
 ∃ v5_ : Value, e = .returned (.tuple #[.agg #[.int .i64 r.1, .int .i64 r.2.1, .bool r.2.2.1, .bool r.2.2.2.1, .int .i64 r.2.2.2.2.1], v5_, .int .i64 r.2.2.2.2.2.2]) ∧ Kd.R k61 61 w' w.heap.size (fun _ => True) v5_ r.2.2.2.2.2.1 ∧ Below w.heap.size w w'
theorem four_blocks {w w2 : World} {o1 o2 o3 o4 : Obj} (hb : Below ((((w.alloc o1).alloc o2).alloc o3).alloc o4).heap.size ((((w.alloc o1).alloc o2).alloc o3).alloc o4) w2) :
  Aside0 (w2.heap[w.heap.size]? = some o1) ∧ Aside0 (w2.heap[w.heap.size + 1]? = some o2) ∧ Aside0 (w2.heap[w.heap.size + 1 + 1]? = some o3) ∧ Aside0 (w2.heap[w.heap.size + 1 + 1 + 1]? = some o4) ∧ Aside0 (w.heap.size + 4 ≤ w2.heap.size) ∧ Aside0 (Below w.heap.size w w2) := by
 have hsz : ((((w.alloc o1).alloc o2).alloc o3).alloc o4).heap.size = w.heap.size + 4 := by simp
 have h0 : Below w.heap.size w ((((w.alloc o1).alloc o2).alloc o3).alloc o4) := below_alloc (below_alloc (below_alloc (below_alloc (Below.refl _ _) _) _) _) _
 have e3 : ((w.alloc o1).alloc o2).heap.size = w.heap.size + 1 + 1 := by simp
 have h3 := heap_alloc2_old ((w.alloc o1).alloc o2) o3 o4
 have h4 := heap_alloc2_new ((w.alloc o1).alloc o2) o3 o4
 rw [e3] at h3 h4
 have h1 := blk_alloc (blk_alloc (heap_alloc2_old w o1 o2) o3) o4
 have h2 := blk_alloc (blk_alloc (heap_alloc2_new w o1 o2) o3) o4
 exact ⟨⟨blk_below h1 hb⟩, ⟨blk_below h2 hb⟩, ⟨blk_below h3 hb⟩, ⟨blk_below h4 hb⟩, ⟨by have := hb.size; omega⟩, ⟨h0.trans (hb.mono (by omega))⟩⟩
theorem check_zero {n src steps : Int} {l : List S48} {tag : ByteArray} (h : prog_Check.f 20 n l tag src steps = some 0) : badG n l = false ∧ dupE l = false ∧ 1 ≤ steps ∧ steps ≤ 64 := by
 unfold prog_Check.f at h
 obtain ⟨t, h1, h⟩ := Option.bind_eq_some_iff.mp h
 by_cases ht : t = 0
 ·rw [if_pos ht] at h
  subst ht
  obtain ⟨b, h2, h⟩ := Option.bind_eq_some_iff.mp h
  unfold graph_Check.f at h1
  split at h1
  ·split at h1
   ·simp at h1
   ·split at h1
    ·simp at h1
    ·rename_i hb hd
     refine ⟨by simpa using hb, by simpa using hd, ?_⟩
     split at h
     ·split at h
      ·simp at h
      ·split at h
       ·simp at h
       ·split at h
        ·simp at h
        ·split at h
         ·simp at h
         ·omega
     ·simp at h
  ·cases h1
 ·rw [if_neg ht] at h
  simp at h
theorem edges_len (n id : Int) (l : List S48) (h : badG n l = false) : ((sortE l).filter fun e => e.f0 == id).length ≤ 512 := by
 have h1 := List.length_filter_le (fun e : S48 => e.f0 == id) (sortE l)
 have h2 := (sortE_sorted l).1.length_eq
 have := (badG_not h).2.2.1
 omega
theorem edges_weight (n id : Int) (l : List S48) (t : List UInt8) (h : badG n l = false) : ∀ e ∈ (sortE l).filter (fun e => e.f0 == id), -9007199254740992 ≤ weightV t e ∧ weightV t e ≤ 9007199254740992 := fun e he => by
 have h1 := (sortE_sorted l).1.subset (List.mem_filter.1 he).1
 have h2 := List.any_eq_false.1 (badG_not h).2.2.2 e h1
 simp only [oddE, Bool.or_eq_true, decide_eq_true_eq] at h2
 unfold weightV
 split
 ·omega
 ·split <;> omega
theorem small_of {v : Int} (h : bigS v = false) : smallV v := by
 unfold bigS at h
 simp only [Bool.or_eq_false_iff, decide_eq_false_iff_not] at h
 unfold smallV
 omega
theorem stepV_small (t : List UInt8) (source steps at_ id value : Int) (has : Bool) (inn edges : Int) (hv : smallV value) (hi : smallV inn) (he : 0 ≤ edges ∧ edges ≤ 1000000) : -9007199254740992 ≤ (stepV t source steps at_ id value has inn edges).2.2.2 ∧ (stepV t source steps at_ id value has inn edges).2.2.2 ≤ 9007199254740992 := by
 have hd := downV_range (inn * 85) 100
 have hr : -2251799813685248 ≤ rankV at_ inn value ∧ rankV at_ inn value ≤ 2251799813685248 := by
  unfold smallV at hv hi
  unfold rankV downV
  split <;> omega
 have hb : ∀ z c is, -9007199254740992 ≤ (betterV z c is value inn).2.2.2 ∧ (betterV z c is value inn).2.2.2 ≤ 9007199254740992 := fun z c is => by
  unfold smallV at hv hi
  unfold betterV
  split
  ·simp only; omega
  ·split <;> simp only <;> omega
 unfold stepV
 split
 ·exact hb _ _ _
 ·split
  ·exact hb _ _ _
  ·split
   ·split
    ·simp only; omega
    ·exact hb _ _ _
   ·split
    ·split <;> simp only <;> omega
    ·split
     ·unfold smallV at hv hi
      split <;> simp only <;> omega
     ·split
      ·simp only; omega
      ·have := downV_range (rankV at_ inn value) (if edges > 1 then edges else 1) 2251799813685248 (by split <;> omega) (by omega) (by omega)
       simp only
       omega
def sentV (snd_ : Bool) (t : List UInt8) (id what : Int) (q : List S48) : List S61 := if snd_ = true then q.map (sendV t id what) else []
def goesE (snd_ : Bool) (id nv : Int) (act : Bool) (ms : List S61) : Int × Int × Bool × Bool × Int × List S61 × Int := if (bigS nv || ms.any fun m => bigS m.f2) = true then (0, 0, false, false, 0, [], 71) else (id, nv, act, false, 0, ms, 0)
theorem post_eq {f : FuncId} {args : Array Value} {w : World} {r r' : Int × Int × Bool × Bool × Int × List S61 × Int} (h : r = r') (hc : Calls Tryz.prog f args w (StepPost w r)) : Calls Tryz.prog f args w (StepPost w r') := h ▸ hc
theorem far5 {w : World} {b i m : Nat} {u a1 a2 a3 a4 a5 : Value} (h : w.cell? ⟨b, i, none⟩ = some u) (hne : b ≠ m) : (((((w.setCell ⟨m, 0, none⟩ a1).setCell ⟨m, 1, none⟩ a2).setCell ⟨m, 2, none⟩ a3).setCell ⟨m, 3, none⟩ a4).setCell ⟨m, 4, none⟩ a5).cell? ⟨b, i, none⟩ = some u := by
 rw [cell_far (a := ⟨b, i, none⟩) (p := ⟨m, 4, none⟩) hne, cell_far (a := ⟨b, i, none⟩) (p := ⟨m, 3, none⟩) hne]
 exact far3 h hne
theorem cell_drew_of {w : World} {p : Addr} {u : Value} (h : w.cell? p = some u) : w.drew.cell? p = some u := h
theorem far5d {w : World} {b i m : Nat} {u a1 a2 a3 a4 a5 : Value} (h : w.cell? ⟨b, i, none⟩ = some u) (hne : b ≠ m) : (((((w.setCell ⟨m, 0, none⟩ a1).setCell ⟨m, 1, none⟩ a2).setCell ⟨m, 2, none⟩ a3).setCell ⟨m, 3, none⟩ a4).setCell ⟨m, 4, none⟩ a5).drew.cell? ⟨b, i, none⟩ = some u := cell_drew_of (far5 h hne)
theorem three_blocks (w : World) (o1 o2 o3 : Obj) (nd : Nat) :
  Aside0 ((((w.alloc o1).alloc o2).drewN nd).alloc o3 |>.heap[w.heap.size]? |> (· = some o1)) ∧ Aside0 ((((w.alloc o1).alloc o2).drewN nd).alloc o3 |>.heap[w.heap.size + 1]? |> (· = some o2)) ∧ Aside0 ((((w.alloc o1).alloc o2).drewN nd).alloc o3 |>.heap[w.heap.size + 1 + 1]? |> (· = some o3)) ∧ Aside0 (((((w.alloc o1).alloc o2).drewN nd).alloc o3).heap.size = w.heap.size + 3) ∧ Aside0 (Below w.heap.size w ((((w.alloc o1).alloc o2).drewN nd).alloc o3)) := by
 have e2 : (((w.alloc o1).alloc o2).drewN nd).heap.size = w.heap.size + 1 + 1 := by simp
 have h3 := blk_new (((w.alloc o1).alloc o2).drewN nd) o3
 rw [e2] at h3
 exact ⟨⟨blk_alloc (blk_drewN (heap_alloc2_old w o1 o2) nd) o3⟩, ⟨blk_alloc (blk_drewN (heap_alloc2_new w o1 o2) nd) o3⟩, ⟨h3⟩, ⟨by simp⟩, ⟨below_alloc (pw_below_drewN (below_alloc (below_alloc (Below.refl _ _) _) _) _) _⟩⟩
theorem sent_snoc (t : List UInt8) (id what : Int) (q : List S48) (i : Nat) (h : i < q.length) : sentV true t id what (q.take (i + 1)) = sentV true t id what (q.take i) ++ [sendV t id what q[i]] := by
 unfold sentV
 rw [if_pos rfl, if_pos rfl, List.take_succ_eq_append_getElem h, List.map_append]
 rfl
theorem any_snoc (b : Bool) (xs : List S61) (m : S61) : (b || (xs ++ [m]).any fun m => bigS m.f2) = ((b || xs.any fun m => bigS m.f2) || bigS m.f2) := by
 rw [List.any_append]
 simp [Bool.or_assoc]
theorem sent_len (b : Bool) (t : List UInt8) (id what : Int) (q : List S48) (i : Nat) (h : q.length ≤ 512) : (sentV b t id what (q.take i)).length < 1000000 := by
 unfold sentV
 split
 ·rw [List.length_map, List.length_take]; omega
 ·simp
set_option maxHeartbeats 32000000 in
set_option maxRecDepth 100000 in
theorem prog_Step.goes (A0_1 : Option Addr) (c0_1 : Nat) (n src steps at_ id value inn0 : Int) (active has : Bool) (l : List S48) (tag : ByteArray) (w : World) (hr : Kd.C k48 w A0_1 l.length l) (hc : l.length ≤ c0_1) (hck : prog_Check.f 20 n l tag src steps = some 0) (hid : 0 ≤ id ∧ id < n) (hat : 0 ≤ at_ ∧ at_ < steps) (hbv : bigS value = false) (hbi : bigS inn0 = false) (hact : (!active && !has) = false) :
  Calls Tryz.prog 26 #[.agg #[.int .i64 n, .slice A0_1 l.length c0_1], .agg #[.string tag, .int .i64 src, .int .i64 steps], .int .i64 at_, .agg #[.int .i64 id, .int .i64 value, .bool active, .bool has, .int .i64 inn0]] w (StepPost w (goesV l tag.toList src steps at_ id value has (if has = true then inn0 else 0))) := by
 obtain ⟨inn, HIN⟩ : ∃ x, Aside0 (x = if has = true then inn0 else 0) := ⟨_, ⟨rfl⟩⟩
 rw [← HIN.out]
 have hin : smallV inn := by
  rw [HIN.out]
  split
  ·exact small_of hbi
  ·unfold smallV; omega
 obtain ⟨hbad, hdup, hs1, hs2⟩ := check_zero hck
 have hu1 := Tryz.underlying48
 have hu2 := Tryz.underlying61
 have hu3 := Tryz.underlying50
 have hu4 := Tryz.underlying26
 have hu5 := Tryz.underlying24
 have HCK : ∀ W, Below w.heap.size w W → Calls Tryz.prog 21 #[.agg #[.int .i64 n, .slice A0_1 l.length c0_1], .agg #[.string tag, .int .i64 src, .int .i64 steps]] W fun e w' => e = .returned (.int .i64 0) ∧ Below W.heap.size W w' := fun W hW => prog_Check.calls 20 n A0_1 c0_1 l tag src steps 0 W (Kd.C_below hr hW) hc hck
 have HOUT : ∀ W, Below w.heap.size w W → Calls Tryz.prog 42 #[.agg #[.int .i64 n, .slice A0_1 l.length c0_1], .int .i64 id] W fun e w' => ∃ v0_ : Value, e = .returned (v0_) ∧ Kd.R k48 48 w' W.heap.size (fun _ => True) v0_ ((sortE l).filter fun e => e.f0 == id) ∧ Below W.heap.size W w' := fun W hW => graph_Out.calls n A0_1 c0_1 l id _ W (Kd.C_below hr hW) hc (by unfold graph_Out.f; rw [hbad, hdup]; rfl)
 have HGv : ∀ W, Calls Tryz.prog 41 #[.int .i64 value] W fun x w' => x = .returned (.bool false) ∧ Drawn0 W w' := fun W => prog_great.calls _ _ W (by rw [great_ok, hbv])
 have HGi : ∀ W, Calls Tryz.prog 41 #[.int .i64 inn0] W fun x w' => x = .returned (.bool false) ∧ Drawn0 W w' := fun W => prog_great.calls _ _ W (by rw [great_ok, hbi])
 have hel := edges_len n id l hbad
 have hew := Aside0.mk (edges_weight n id l tag.toList hbad)
 have hst := fun (m : Nat) (hm : m ≤ 512) => stepV_small tag.toList src steps at_ id value has inn (m : Int) (small_of hbv) hin ⟨by omega, by omega⟩
 have HST : ∀ (m : Nat) W, m ≤ 512 → Calls Tryz.prog 43 #[.agg #[.string tag, .int .i64 src, .int .i64 steps], .int .i64 at_, .agg #[.int .i64 id, .int .i64 value, .bool active, .bool has, .int .i64 inn], .int .i64 (m : Int)] W fun e w' => e = .returned (.tuple #[.int .i64 (stepV tag.toList src steps at_ id value has inn (m : Int)).1, .bool (stepV tag.toList src steps at_ id value has inn (m : Int)).2.1, .bool (stepV tag.toList src steps at_ id value has inn (m : Int)).2.2.1, .int .i64 (stepV tag.toList src steps at_ id value has inn (m : Int)).2.2.2]) ∧ Below W.heap.size W w' :=
  fun m W hm => prog_step.on tag src steps at_ id value active has inn (m : Int) W (by omega) (small_of hbv) hin ⟨hs1, by omega⟩ ⟨by omega, by omega⟩
 unfold goesV
 generalize (sortE l).filter (fun e => e.f0 == id) = q at HOUT hel hew ⊢
 simp only
 replace hst := hst q.length hel
 replace HST := fun W => HST q.length W hel
 generalize stepV tag.toList src steps at_ id value has inn (q.length : Int) = sv at hst HST ⊢
 obtain ⟨nv, act, snd_, what⟩ := sv
 simp only at hst HST ⊢
 obtain ⟨res, HRES⟩ : ∃ res, Aside0 (res = goesE snd_ id nv act (sentV snd_ tag.toList id what q)) := ⟨_, ⟨rfl⟩⟩
 refine post_eq (r := res) (by rw [HRES.out]; rfl) ?_
 have d1 : decide (id < 0) = false := decide_eq_false (by omega)
 have d2 : decide (n ≤ id) = false := decide_eq_false (by omega)
 have d3 : decide (at_ < 0) = false := decide_eq_false (by omega)
 have d4 : decide (steps ≤ at_) = false := decide_eq_false (by omega)
 have HEL := Aside0.mk hel
 have HSV := Aside0.mk hst
 have HACT := Aside0.mk hact
 clear hr hc hck hid hat hbv hbi hbad hdup hs1 hs2 hel hst hin hact
 go_enter Tryz.func26, Tryz.ntmps26
 go_wp2_with (fail)
 refine (HCK _ (by repeat (first | exact Below.refl _ _ | apply below_alloc | apply pw_below_drewN))).mono ?_
 rintro e w2 ⟨rfl, hb⟩
 obtain ⟨BG, BJ, BX, BR, SZ2, HB2⟩ := four_blocks hb
 clear hb HCK
 obtain ⟨g0, g1⟩ := c2z w2 BG.out
 obtain ⟨j0, j1, j2⟩ := c3z w2 BJ.out
 obtain ⟨x0, x1, x2, x3, x4⟩ := c5z w2 BX.out
 have f4 := blk_frozen BX.out 4
 go_upto_region 5 with (first
  | (go_at_call 41; refine (HGv _).mono ?_; rintro x w3 ⟨rfl, ⟨nd1, rfl⟩⟩; clear HGv)
  | (go_at_call 41; refine (HGi _).mono ?_; rintro x w3 ⟨rfl, ⟨nd2, rfl⟩⟩; clear HGi))
 go_cut [64] from 21 (fun v64 wc => v64 = .bool false ∧ Aside0 (wc = w2.drewN (nd1 + nd2)))
 case first =>
  cases active with
  | true =>
   go_wp2
   go_meet
   case rel => exact ⟨rfl, ⟨rfl⟩⟩
  | false =>
   cases has with
   | true =>
    go_wp2
    go_meet
    case rel => exact ⟨rfl, ⟨rfl⟩⟩
   | false => exact absurd HACT.out (by decide)
 case rest =>
 obtain ⟨rfl, ⟨rfl⟩⟩ := hcut
 go_upto_if 68 with (fail)
 go_cut [] from 21 (fun wc => Aside0 (wc.heap[w.heap.size]? = some (.cells #[.int .i64 n, .slice A0_1 l.length c0_1] 24 (0, 0))) ∧ Aside0 (wc.heap[w.heap.size + 1]? = some (.cells #[.string tag, .int .i64 src, .int .i64 steps] 26 (0, 0))) ∧ Aside0 (wc.heap[w.heap.size + 1 + 1]? = some (.cells #[.int .i64 id, .int .i64 value, .bool active, .bool has, .int .i64 inn] 50 (0, 0))) ∧ Aside0 (wc.heap[w.heap.size + 1 + 1 + 1]? = some (.cells #[.int .i64 0, .int .i64 0, .bool false, .bool false, .int .i64 0] 50 (0, 0))) ∧ Aside0 (w.heap.size + 4 ≤ wc.heap.size) ∧ Aside0 (Below w.heap.size w wc))
 case first =>
  have hin := HIN.out
  cases has with
  | true =>
   rw [if_pos rfl] at hin
   subst hin
   go_wp2
   go_meet
   case rel => exact ⟨⟨blk_drewN BG.out _⟩, ⟨blk_drewN BJ.out _⟩, ⟨blk_drewN BX.out _⟩, ⟨blk_drewN BR.out _⟩, SZ2, ⟨pw_below_drewN HB2.out _⟩⟩
  | false =>
   rw [if_neg (by decide)] at hin
   subst hin
   go_wp2
   go_meet
   case rel => exact ⟨⟨blk_far (blk_drewN BG.out _) (by show w.heap.size ≠ w.heap.size + 1 + 1; omega) _⟩, ⟨blk_far (blk_drewN BJ.out _) (by show w.heap.size + 1 ≠ w.heap.size + 1 + 1; omega) _⟩, ⟨blk_put (blk_drewN BX.out _) 4 _ rfl⟩, ⟨blk_far (blk_drewN BR.out _) (by show w.heap.size + 1 + 1 + 1 ≠ w.heap.size + 1 + 1; omega) _⟩, ⟨by have := SZ2.out; simp; omega⟩, ⟨below_set (pw_below_drewN HB2.out _) (by omega)⟩⟩
 case rest =>
 clear g0 g1 j0 j1 j2 x0 x1 x2 x3 x4 f4 BG BJ BX BR SZ2 HB2
 obtain ⟨BG, BJ, BX, BR, SZ2, HB2⟩ := hcut
 obtain ⟨g0, g1⟩ := c2z wc BG.out
 have x0 : wc.cell? ⟨w.heap.size + 1 + 1, 0, none⟩ = some (.int .i64 id) := (blk_cell BX.out 0).trans rfl
 go_upto_region 10 with (fail)
 refine (HOUT _ HB2.out).mono ?_
 rintro e w3 ⟨v3, rfl, hR3, hb3⟩
 obtain ⟨A3, c3, e3⟩ := Kd.R_slice hR3
 subst e3
 have C3 := Aside0.mk (Kd.R_reads' hR3).2.2
 have BJ3 := Aside0.mk (blk_below BJ.out hb3)
 have BX3 := Aside0.mk (blk_below BX.out hb3)
 have BR3 := Aside0.mk (blk_below BR.out hb3)
 have SZ3 : Aside0 (w.heap.size + 4 ≤ w3.heap.size) := ⟨Nat.le_trans SZ2.out hb3.size⟩
 have HB3 : Aside0 (Below w.heap.size w w3) := ⟨HB2.out.trans (hb3.mono HB2.out.size)⟩
 clear hR3 hb3 HOUT g0 g1 x0 BG BJ BX BR
 obtain ⟨j0, j1, j2⟩ := c3z w3 BJ3.out
 obtain ⟨x0, x1, x2, x3, x4⟩ := c5z w3 BX3.out
 go_wp2_with (fail)
 refine (HST _).mono ?_
 rintro e w4 ⟨rfl, hb4⟩
 have C4 := Aside0.mk (Kd.C_below C3.out hb4)
 have BJ4 := Aside0.mk (blk_below BJ3.out hb4)
 have BX4 := Aside0.mk (blk_below BX3.out hb4)
 have BR4 := Aside0.mk (blk_below BR3.out hb4)
 have SZ4 : Aside0 (w.heap.size + 4 ≤ w4.heap.size) := ⟨Nat.le_trans SZ3.out hb4.size⟩
 have HB4 : Aside0 (Below w.heap.size w w4) := ⟨HB3.out.trans (hb4.mono HB3.out.size)⟩
 clear hb4 HST j0 j1 j2 x0 x1 x2 x3 x4 C3 BJ3 BX3 BR3
 have HG2 : ∀ W, Calls Tryz.prog 41 #[.int .i64 nv] W fun x w' => x = .returned (.bool (bigS nv)) ∧ Drawn0 W w' := fun W => prog_great.calls _ _ W (great_ok _)
 go_wp2_with (go_at_call 41; refine (HG2 _).mono ?_; rintro x w5 ⟨rfl, ⟨nd3, rfl⟩⟩; clear HG2)
 obtain ⟨L1, L2, L3, LS, LB⟩ := three_blocks w4 (.cells #[.int .i64 what] 2) (.cells #[.slice none 0 0] 29) (.cells #[.bool (bigS nv)] 4) nd3
 generalize (((w4.alloc (.cells #[.int .i64 what] 2)).alloc (.cells #[.slice none 0 0] 29)).drewN nd3).alloc (.cells #[.bool (bigS nv)] 4) = wl at L1 L2 L3 LS LB ⊢
 have BJL := Aside0.mk (blk_below BJ4.out LB.out)
 have BXL := Aside0.mk (blk_below BX4.out LB.out)
 have BRL := Aside0.mk (blk_below BR4.out LB.out)
 clear BJ4 BX4 BR4
 go_loopg [90] (q.length) (fun kq v90 w' => ∃ (i : Nat) (v : Value), v90 = .int .i64 (i : Int) ∧ Aside0 (i + kq = q.length) ∧ Aside0 (w'.heap[w4.heap.size + 1 + 1]? = some (.cells #[.bool (bigS nv || (sentV snd_ tag.toList id what (q.take i)).any fun m => bigS m.f2)] 4 (0, 0))) ∧ Aside0 (w'.heap[w4.heap.size + 1]? = some (.cells #[v] 29 (0, 0))) ∧ Aside0 (Kd.R k61 61 w' (w4.heap.size + 3) (fun _ => True) v (sentV snd_ tag.toList id what (q.take i))) ∧ Aside0 (Kept (w4.heap.size + 3) (w4.heap.size + 1 + 1) (w4.heap.size + 1) wl w'))
 case atStart => exact ⟨0, .slice none 0 0, rfl, ⟨by omega⟩, ⟨by have := L3.out; simpa [sentV] using this⟩, L2, ⟨by have := Kd.R_nil k61 61 wl (w4.heap.size + 3) (fun _ => True); simpa [sentV] using this⟩, ⟨Kept.refl _ _ _ _⟩⟩
 case round =>
  obtain ⟨i, v, rfl, HI, HF, HL, HR, HK⟩ := hrel
  have HBW : Aside0 (Below w4.heap.size w4 wr) := ⟨LB.out.trans (HK.out.to_below (by omega) (by omega) (by omega))⟩
  by_cases hlt : i < q.length
  ·have c1 : decide ((i : Int) < (q.length : Int)) = true := decide_eq_true (by omega)
   have p1 : 0 ≤ (i : Int) := by omega
   have q1 : (i : Int) < (q.length : Int) := by omega
   obtain ⟨ad, e1, hx0, hx1, hx2⟩ := at_T48 (Kd.C_below C4.out HBW.out) (i : Int) p1 q1
   cases e1
   rw [rd_edge q i hlt, Int.toNat_natCast] at hx0 hx1 hx2
   have hsn := sent_snoc tag.toList id what q i hlt
   have hwe := hew.out q[i] (List.getElem_mem hlt)
   have HLT := Aside0.mk hlt
   generalize hy : q[i] = y at hx0 hx1 hx2 hsn hwe
   clear hy
   have HSN := Aside0.mk hsn
   have HWE := Aside0.mk hwe
   clear hsn hlt hwe
   replace p1 := eq_true p1
   replace q1 := eq_true q1
   obtain ⟨gk1, rfl⟩ : ∃ m, gk = m + 1 := ⟨gk - 1, by have := HI.out; have := HLT.out; omega⟩
   have hw1 : wrap64 ((i : Int) + 1) = (i : Int) + 1 := by have h1 := HEL.out; have h2 := HLT.out; unfold wrap64; omega
   by_cases hsnd : snd_ = true
   ·subst hsnd
    have HON : ∀ W, W = wr.alloc (.cells #[.int .i64 y.f0, .int .i64 y.f1, .int .i64 y.f2] 48) → Calls Tryz.prog 44 #[.agg #[.int .i64 y.f0, .int .i64 y.f1, .int .i64 y.f2], .pointer (some ⟨w.heap.size + 1 + 1, 0, none⟩), .pointer (some ⟨w4.heap.size, 0, none⟩), .pointer (some ⟨w.heap.size + 1, 0, none⟩), .pointer (some ⟨w4.heap.size + 1 + 1, 0, none⟩), .pointer (some ⟨w4.heap.size + 1, 0, none⟩)] W (SendPost (w4.heap.size + 3) (w4.heap.size + 1 + 1) (w4.heap.size + 1) W (bigS nv || (sentV true tag.toList id what (q.take i)).any fun m => bigS m.f2) (sentV true tag.toList id what (q.take i)) (sendV tag.toList id what y)) := by
     intro W hW
     subst hW
     have s4 := SZ4.out
     have kb := HK.out.block
     have bx := blk_alloc ((kb (w.heap.size + 1 + 1) (by omega) (by omega) (by omega)).trans BXL.out) (.cells #[.int .i64 y.f0, .int .i64 y.f1, .int .i64 y.f2] 48)
     have bj := blk_alloc ((kb (w.heap.size + 1) (by omega) (by omega) (by omega)).trans BJL.out) (.cells #[.int .i64 y.f0, .int .i64 y.f1, .int .i64 y.f2] 48)
     have bw := blk_alloc ((kb w4.heap.size (by omega) (by omega) (by omega)).trans L1.out) (.cells #[.int .i64 y.f0, .int .i64 y.f1, .int .i64 y.f2] 48)
     have hsz : wl.heap.size ≤ wr.heap.size := HK.out.size
     have hls := LS.out
     exact prog_Step_1.on tag id what y (w.heap.size + 1 + 1) w4.heap.size (w.heap.size + 1) (w4.heap.size + 1 + 1) (w4.heap.size + 1) (w4.heap.size + 3) _ v _ _ ((blk_cell bx 0).trans rfl) ((blk_cell bw 0).trans rfl) ((blk_cell bj 0).trans rfl) (blk_alloc HF.out _) (blk_alloc HL.out _) (Kd.R_alloc HR.out _) (by simp; omega) (by omega) (by omega) (by omega) (by omega) (by omega) (by omega) (sent_len true tag.toList id what q i HEL.out) HSV.out.1 HSV.out.2 HWE.out.1 HWE.out.2
    go_wp2_with (fail)
    refine (HON _ rfl).mono ?_
    rintro x w6 ⟨v6, rfl, hR6, hF6, hL6, hK6⟩
    have R6 := Aside0.mk hR6
    have F6 := Aside0.mk hF6
    have L6 := Aside0.mk hL6
    have K6 := Aside0.mk hK6
    clear hR6 hF6 hL6 hK6 HON
    go_wp2
    go_roundg gk1
    case measure => omega
    case rel => exact ⟨i + 1, v6, by go_num, ⟨by have := HI.out; omega⟩, ⟨by rw [HSN.out, any_snoc]; exact F6.out⟩, L6, ⟨by rw [HSN.out]; exact R6.out⟩, ⟨(HK.out.trans (Kept.of_below (below_alloc' (Below.refl _ _) (by have h1 := LS.out; have h2 := HK.out.size; omega) _))).trans K6.out⟩⟩
   ·replace hsnd : snd_ = false := by simpa using hsnd
    subst hsnd
    go_wp2
    go_roundg gk1
    case measure => omega
    case rel => exact ⟨i + 1, v, by go_num, ⟨by have := HI.out; omega⟩, ⟨blk_alloc HF.out _⟩, ⟨blk_alloc HL.out _⟩, ⟨Kd.R_alloc HR.out _⟩, ⟨HK.out.trans (Kept.of_below (below_alloc' (Below.refl _ _) (by have h1 := LS.out; have h2 := HK.out.size; omega) _))⟩⟩
  ·have c1 : decide ((i : Int) < (q.length : Int)) = false := decide_eq_false (by omega)
   have c1n : decide (i < q.length) = false := decide_eq_false (by omega)
   have hi : i = q.length := by have := HI.out; omega
   subst hi
   rw [List.take_length] at HF HR
   have hres := HRES.out
   unfold goesE at hres
   generalize sentV snd_ tag.toList id what q = ms at HF HR hres
   have s4 := SZ4.out
   have kb := HK.out.block
   have BRw := Aside0.mk ((kb (w.heap.size + 1 + 1 + 1) (by omega) (by omega) (by omega)).trans BRL.out)
   have BXw := Aside0.mk ((kb (w.heap.size + 1 + 1) (by omega) (by omega) (by omega)).trans BXL.out)
   have HBf : Aside0 (Below w.heap.size w wr) := ⟨HB4.out.trans (HBW.out.mono HB4.out.size)⟩
   have cf : wr.cell? ⟨w4.heap.size + 1 + 1, 0, none⟩ = some (.bool (bigS nv || ms.any fun m => bigS m.f2)) := (blk_cell HF.out 0).trans rfl
   have cl : wr.cell? ⟨w4.heap.size + 1, 0, none⟩ = some v := (blk_cell HL.out 0).trans rfl
   have cx : wr.cell? ⟨w.heap.size + 1 + 1, 0, none⟩ = some (.int .i64 id) := (blk_cell BXw.out 0).trans rfl
   obtain ⟨r0, r1, r2, r3, r4, f0, f1, f2, f3, f4⟩ := q5z wr BRw.out
   have SL : Aside0 (w.heap.size ≤ w4.heap.size + 3) := ⟨by omega⟩
   clear s4 kb hlt HI
   cases hfl : (bigS nv || ms.any fun m => bigS m.f2) with
   | true =>
    rw [hfl] at cf
    rw [hfl, if_pos rfl] at hres
    subst hres
    clear hfl HRES
    go_wp2
    refine bodyPost_ret (results_ctt rfl _ _ (w.heap.size + 1 + 1 + 1) 50 #[.int .i64 0, .int .i64 0, .bool false, .bool false, .int .i64 0] (0, 0) _ rfl ?hg Tryz.underlying50 rfl (by kernel_rfl)) rfl ?_
    case hg => exact blk_put (blk_put (blk_put (blk_put (blk_put BRw.out 0 _ rfl) 1 _ rfl) 2 _ rfl) 3 _ rfl) 4 _ rfl
    exact ⟨_, rfl, Kd.R_nil _ _ _ _ _, by repeat (first | exact HBf.out | refine below_set ?_ (by omega) | apply pw_below_drewN | apply below_drew1)⟩
   | false =>
    rw [hfl] at cf
    rw [hfl, if_neg (by decide)] at hres
    subst hres
    clear hfl HRES
    obtain ⟨A9, c9, e9⟩ := Kd.R_slice HR.out
    subst e9
    have nx : w.heap.size + 1 + 1 ≠ w.heap.size + 1 + 1 + 1 := by omega
    have NL : Aside0 (w4.heap.size + 1 ≠ w.heap.size + 1 + 1 + 1) := ⟨by have := SZ4.out; omega⟩
    have NX := Aside0.mk nx
    have cxd : wr.drew.cell? ⟨w.heap.size + 1 + 1, 0, none⟩ = some (.int .i64 id) := cx
    have cld : wr.drew.cell? ⟨w4.heap.size + 1, 0, none⟩ = some (.slice A9 ms.length c9) := cl
    clear nx
    go_wp2
    go_region_held3 (fun w' => w'.cell? ⟨w.heap.size + 1 + 1, 0, none⟩ = some (.int .i64 id) ∧ w'.cell? ⟨w4.heap.size + 1, 0, none⟩ = some (.slice A9 ms.length c9)) (first | (with_reducible exact ⟨cxd, cld⟩) | (with_reducible exact ⟨far5d cx NX.out, far5d cl NL.out⟩) | go_keep) (first | fail)
    all_goals
     go_wp2
     refine bodyPost_ret (results_ctt rfl _ _ (w.heap.size + 1 + 1 + 1) 50 #[.int .i64 id, .int .i64 nv, .bool act, .bool false, .int .i64 0] (0, 0) _ rfl ?hg Tryz.underlying50 rfl (by kernel_rfl)) rfl ?_
     case hg => exact blk_put (blk_put (blk_put (blk_put (blk_put (blk_drew BRw.out) 0 _ rfl) 1 _ rfl) 2 _ rfl) 3 _ rfl) 4 _ rfl
     exact ⟨_, rfl, Kd.R_set (Kd.R_set (Kd.R_set (Kd.R_set (Kd.R_set (Kd.R_drew (Kd.R_lower HR.out SL.out)) (blk_drew BRw.out) (by decide) 0 _) (blk_set (blk_drew BRw.out) 0 _) (by decide) 1 _) (blk_set (blk_set (blk_drew BRw.out) 0 _) 1 _) (by decide) 2 _) (blk_set (blk_set (blk_set (blk_drew BRw.out) 0 _) 1 _) 2 _) (by decide) 3 _) (blk_set (blk_set (blk_set (blk_set (blk_drew BRw.out) 0 _) 1 _) 2 _) 3 _) (by decide) 4 _, by repeat (first | exact HBf.out | refine below_set ?_ (by omega) | apply pw_below_drewN | apply below_drew1)⟩
set_option maxHeartbeats 16000000 in
set_option maxRecDepth 100000 in
theorem prog_Step.w_job (A0_1 : Option Addr) (c0_1 : Nat) (n src steps at_ id value inn0 : Int) (active has : Bool) (l : List S48) (tag : ByteArray) (w : World) (c : Int) (HCK : ∀ W, Below w.heap.size w W → Calls Tryz.prog 21 #[.agg #[.int .i64 n, .slice A0_1 l.length c0_1], .agg #[.string tag, .int .i64 src, .int .i64 steps]] W fun e w' => e = .returned (.int .i64 c) ∧ Below W.heap.size W w') (hc0 : ¬ c = 0) :
  Calls Tryz.prog 26 #[.agg #[.int .i64 n, .slice A0_1 l.length c0_1], .agg #[.string tag, .int .i64 src, .int .i64 steps], .int .i64 at_, .agg #[.int .i64 id, .int .i64 value, .bool active, .bool has, .int .i64 inn0]] w (StepPost w (0, 0, false, false, 0, [], 70)) := by
 have hu1 := Tryz.underlying50
 have hu4 := Tryz.underlying26
 have hu5 := Tryz.underlying24
 have z1 : (c != 0) = true := bne_iff_ne.mpr hc0
 clear hc0
 go_enter Tryz.func26, Tryz.ntmps26
 go_wp2_with (fail)
 refine (HCK _ (by repeat (first | exact Below.refl _ _ | apply below_alloc | apply pw_below_drewN))).mono ?_
 rintro e w2 ⟨rfl, hb⟩
 obtain ⟨BG, BJ, BX, BR, SZ2, HB2⟩ := four_blocks hb
 clear hb HCK
 have g0 : w2.cell? ⟨w.heap.size, 0, none⟩ = some (.int .i64 n) := (blk_cell BG.out 0).trans rfl
 have j2 : w2.cell? ⟨w.heap.size + 1, 2, none⟩ = some (.int .i64 steps) := (blk_cell BJ.out 2).trans rfl
 obtain ⟨x0, x1, x2, x3, x4⟩ := c5z w2 BX.out
 obtain ⟨r0, r1, r2, r3, r4, f0, f1, f2, f3, f4⟩ := q5z w2 BR.out
 go_wp2
 refine bodyPost_ret (results_ctt rfl _ _ (w.heap.size + 1 + 1 + 1) 50 #[.int .i64 0, .int .i64 0, .bool false, .bool false, .int .i64 0] (0, 0) _ rfl ?hg Tryz.underlying50 rfl (by kernel_rfl)) rfl ?_
 case hg => exact (blk_put (blk_put (blk_put (blk_put (blk_put BR.out 0 _ rfl) 1 _ rfl) 2 _ rfl) 3 _ rfl) 4 _ rfl)
 exact ⟨_, rfl, Kd.R_nil _ _ _ _ _, by repeat (first | exact HB2.out | refine below_set ?_ (by omega) | apply pw_below_drewN | apply below_drew1)⟩
set_option maxHeartbeats 16000000 in
set_option maxRecDepth 100000 in
theorem prog_Step.w_low (A0_1 : Option Addr) (c0_1 : Nat) (n src steps at_ id value inn0 : Int) (active has : Bool) (l : List S48) (tag : ByteArray) (w : World) (HCK : ∀ W, Below w.heap.size w W → Calls Tryz.prog 21 #[.agg #[.int .i64 n, .slice A0_1 l.length c0_1], .agg #[.string tag, .int .i64 src, .int .i64 steps]] W fun e w' => e = .returned (.int .i64 0) ∧ Below W.heap.size W w') (h : id < 0) :
  Calls Tryz.prog 26 #[.agg #[.int .i64 n, .slice A0_1 l.length c0_1], .agg #[.string tag, .int .i64 src, .int .i64 steps], .int .i64 at_, .agg #[.int .i64 id, .int .i64 value, .bool active, .bool has, .int .i64 inn0]] w (StepPost w (0, 0, false, false, 0, [], 70)) := by
 have hu1 := Tryz.underlying50
 have hu4 := Tryz.underlying26
 have hu5 := Tryz.underlying24
 have d1 : decide (id < 0) = true := decide_eq_true h
 clear h
 go_enter Tryz.func26, Tryz.ntmps26
 go_wp2_with (fail)
 refine (HCK _ (by repeat (first | exact Below.refl _ _ | apply below_alloc | apply pw_below_drewN))).mono ?_
 rintro e w2 ⟨rfl, hb⟩
 obtain ⟨BG, BJ, BX, BR, SZ2, HB2⟩ := four_blocks hb
 clear hb HCK
 have g0 : w2.cell? ⟨w.heap.size, 0, none⟩ = some (.int .i64 n) := (blk_cell BG.out 0).trans rfl
 have j2 : w2.cell? ⟨w.heap.size + 1, 2, none⟩ = some (.int .i64 steps) := (blk_cell BJ.out 2).trans rfl
 obtain ⟨x0, x1, x2, x3, x4⟩ := c5z w2 BX.out
 obtain ⟨r0, r1, r2, r3, r4, f0, f1, f2, f3, f4⟩ := q5z w2 BR.out
 go_wp2
 refine bodyPost_ret (results_ctt rfl _ _ (w.heap.size + 1 + 1 + 1) 50 #[.int .i64 0, .int .i64 0, .bool false, .bool false, .int .i64 0] (0, 0) _ rfl ?hg Tryz.underlying50 rfl (by kernel_rfl)) rfl ?_
 case hg => exact (blk_put (blk_put (blk_put (blk_put (blk_put BR.out 0 _ rfl) 1 _ rfl) 2 _ rfl) 3 _ rfl) 4 _ rfl)
 exact ⟨_, rfl, Kd.R_nil _ _ _ _ _, by repeat (first | exact HB2.out | refine below_set ?_ (by omega) | apply pw_below_drewN | apply below_drew1)⟩
set_option maxHeartbeats 16000000 in
set_option maxRecDepth 100000 in
theorem prog_Step.w_high (A0_1 : Option Addr) (c0_1 : Nat) (n src steps at_ id value inn0 : Int) (active has : Bool) (l : List S48) (tag : ByteArray) (w : World) (HCK : ∀ W, Below w.heap.size w W → Calls Tryz.prog 21 #[.agg #[.int .i64 n, .slice A0_1 l.length c0_1], .agg #[.string tag, .int .i64 src, .int .i64 steps]] W fun e w' => e = .returned (.int .i64 0) ∧ Below W.heap.size W w') (h1 : ¬ id < 0) (h : id ≥ n) :
  Calls Tryz.prog 26 #[.agg #[.int .i64 n, .slice A0_1 l.length c0_1], .agg #[.string tag, .int .i64 src, .int .i64 steps], .int .i64 at_, .agg #[.int .i64 id, .int .i64 value, .bool active, .bool has, .int .i64 inn0]] w (StepPost w (0, 0, false, false, 0, [], 70)) := by
 have hu1 := Tryz.underlying50
 have hu4 := Tryz.underlying26
 have hu5 := Tryz.underlying24
 have d1 : decide (id < 0) = false := decide_eq_false h1
 have d2 : decide (n ≤ id) = true := decide_eq_true h
 clear h1 h
 go_enter Tryz.func26, Tryz.ntmps26
 go_wp2_with (fail)
 refine (HCK _ (by repeat (first | exact Below.refl _ _ | apply below_alloc | apply pw_below_drewN))).mono ?_
 rintro e w2 ⟨rfl, hb⟩
 obtain ⟨BG, BJ, BX, BR, SZ2, HB2⟩ := four_blocks hb
 clear hb HCK
 have g0 : w2.cell? ⟨w.heap.size, 0, none⟩ = some (.int .i64 n) := (blk_cell BG.out 0).trans rfl
 have j2 : w2.cell? ⟨w.heap.size + 1, 2, none⟩ = some (.int .i64 steps) := (blk_cell BJ.out 2).trans rfl
 obtain ⟨x0, x1, x2, x3, x4⟩ := c5z w2 BX.out
 obtain ⟨r0, r1, r2, r3, r4, f0, f1, f2, f3, f4⟩ := q5z w2 BR.out
 go_wp2
 refine bodyPost_ret (results_ctt rfl _ _ (w.heap.size + 1 + 1 + 1) 50 #[.int .i64 0, .int .i64 0, .bool false, .bool false, .int .i64 0] (0, 0) _ rfl ?hg Tryz.underlying50 rfl (by kernel_rfl)) rfl ?_
 case hg => exact (blk_put (blk_put (blk_put (blk_put (blk_put BR.out 0 _ rfl) 1 _ rfl) 2 _ rfl) 3 _ rfl) 4 _ rfl)
 exact ⟨_, rfl, Kd.R_nil _ _ _ _ _, by repeat (first | exact HB2.out | refine below_set ?_ (by omega) | apply pw_below_drewN | apply below_drew1)⟩
set_option maxHeartbeats 16000000 in
set_option maxRecDepth 100000 in
theorem prog_Step.w_neg (A0_1 : Option Addr) (c0_1 : Nat) (n src steps at_ id value inn0 : Int) (active has : Bool) (l : List S48) (tag : ByteArray) (w : World) (HCK : ∀ W, Below w.heap.size w W → Calls Tryz.prog 21 #[.agg #[.int .i64 n, .slice A0_1 l.length c0_1], .agg #[.string tag, .int .i64 src, .int .i64 steps]] W fun e w' => e = .returned (.int .i64 0) ∧ Below W.heap.size W w') (h1 : ¬ id < 0) (h2 : ¬ id ≥ n) (h : at_ < 0) :
  Calls Tryz.prog 26 #[.agg #[.int .i64 n, .slice A0_1 l.length c0_1], .agg #[.string tag, .int .i64 src, .int .i64 steps], .int .i64 at_, .agg #[.int .i64 id, .int .i64 value, .bool active, .bool has, .int .i64 inn0]] w (StepPost w (0, 0, false, false, 0, [], 70)) := by
 have hu1 := Tryz.underlying50
 have hu4 := Tryz.underlying26
 have hu5 := Tryz.underlying24
 have d1 : decide (id < 0) = false := decide_eq_false h1
 have d2 : decide (n ≤ id) = false := decide_eq_false h2
 have d3 : decide (at_ < 0) = true := decide_eq_true h
 clear h1 h2 h
 go_enter Tryz.func26, Tryz.ntmps26
 go_wp2_with (fail)
 refine (HCK _ (by repeat (first | exact Below.refl _ _ | apply below_alloc | apply pw_below_drewN))).mono ?_
 rintro e w2 ⟨rfl, hb⟩
 obtain ⟨BG, BJ, BX, BR, SZ2, HB2⟩ := four_blocks hb
 clear hb HCK
 have g0 : w2.cell? ⟨w.heap.size, 0, none⟩ = some (.int .i64 n) := (blk_cell BG.out 0).trans rfl
 have j2 : w2.cell? ⟨w.heap.size + 1, 2, none⟩ = some (.int .i64 steps) := (blk_cell BJ.out 2).trans rfl
 obtain ⟨x0, x1, x2, x3, x4⟩ := c5z w2 BX.out
 obtain ⟨r0, r1, r2, r3, r4, f0, f1, f2, f3, f4⟩ := q5z w2 BR.out
 go_wp2
 refine bodyPost_ret (results_ctt rfl _ _ (w.heap.size + 1 + 1 + 1) 50 #[.int .i64 0, .int .i64 0, .bool false, .bool false, .int .i64 0] (0, 0) _ rfl ?hg Tryz.underlying50 rfl (by kernel_rfl)) rfl ?_
 case hg => exact (blk_put (blk_put (blk_put (blk_put (blk_put BR.out 0 _ rfl) 1 _ rfl) 2 _ rfl) 3 _ rfl) 4 _ rfl)
 exact ⟨_, rfl, Kd.R_nil _ _ _ _ _, by repeat (first | exact HB2.out | refine below_set ?_ (by omega) | apply pw_below_drewN | apply below_drew1)⟩
set_option maxHeartbeats 16000000 in
set_option maxRecDepth 100000 in
theorem prog_Step.w_late (A0_1 : Option Addr) (c0_1 : Nat) (n src steps at_ id value inn0 : Int) (active has : Bool) (l : List S48) (tag : ByteArray) (w : World) (HCK : ∀ W, Below w.heap.size w W → Calls Tryz.prog 21 #[.agg #[.int .i64 n, .slice A0_1 l.length c0_1], .agg #[.string tag, .int .i64 src, .int .i64 steps]] W fun e w' => e = .returned (.int .i64 0) ∧ Below W.heap.size W w') (h1 : ¬ id < 0) (h2 : ¬ id ≥ n) (h3 : ¬ at_ < 0) (h : at_ ≥ steps) :
  Calls Tryz.prog 26 #[.agg #[.int .i64 n, .slice A0_1 l.length c0_1], .agg #[.string tag, .int .i64 src, .int .i64 steps], .int .i64 at_, .agg #[.int .i64 id, .int .i64 value, .bool active, .bool has, .int .i64 inn0]] w (StepPost w (0, 0, false, false, 0, [], 70)) := by
 have hu1 := Tryz.underlying50
 have hu4 := Tryz.underlying26
 have hu5 := Tryz.underlying24
 have d1 : decide (id < 0) = false := decide_eq_false h1
 have d2 : decide (n ≤ id) = false := decide_eq_false h2
 have d3 : decide (at_ < 0) = false := decide_eq_false h3
 have d4 : decide (steps ≤ at_) = true := decide_eq_true h
 clear h1 h2 h3 h
 go_enter Tryz.func26, Tryz.ntmps26
 go_wp2_with (fail)
 refine (HCK _ (by repeat (first | exact Below.refl _ _ | apply below_alloc | apply pw_below_drewN))).mono ?_
 rintro e w2 ⟨rfl, hb⟩
 obtain ⟨BG, BJ, BX, BR, SZ2, HB2⟩ := four_blocks hb
 clear hb HCK
 have g0 : w2.cell? ⟨w.heap.size, 0, none⟩ = some (.int .i64 n) := (blk_cell BG.out 0).trans rfl
 have j2 : w2.cell? ⟨w.heap.size + 1, 2, none⟩ = some (.int .i64 steps) := (blk_cell BJ.out 2).trans rfl
 obtain ⟨x0, x1, x2, x3, x4⟩ := c5z w2 BX.out
 obtain ⟨r0, r1, r2, r3, r4, f0, f1, f2, f3, f4⟩ := q5z w2 BR.out
 go_wp2
 refine bodyPost_ret (results_ctt rfl _ _ (w.heap.size + 1 + 1 + 1) 50 #[.int .i64 0, .int .i64 0, .bool false, .bool false, .int .i64 0] (0, 0) _ rfl ?hg Tryz.underlying50 rfl (by kernel_rfl)) rfl ?_
 case hg => exact (blk_put (blk_put (blk_put (blk_put (blk_put BR.out 0 _ rfl) 1 _ rfl) 2 _ rfl) 3 _ rfl) 4 _ rfl)
 exact ⟨_, rfl, Kd.R_nil _ _ _ _ _, by repeat (first | exact HB2.out | refine below_set ?_ (by omega) | apply pw_below_drewN | apply below_drew1)⟩
set_option maxHeartbeats 16000000 in
set_option maxRecDepth 100000 in
theorem prog_Step.w_great (A0_1 : Option Addr) (c0_1 : Nat) (n src steps at_ id value inn0 : Int) (active has : Bool) (l : List S48) (tag : ByteArray) (w : World) (HCK : ∀ W, Below w.heap.size w W → Calls Tryz.prog 21 #[.agg #[.int .i64 n, .slice A0_1 l.length c0_1], .agg #[.string tag, .int .i64 src, .int .i64 steps]] W fun e w' => e = .returned (.int .i64 0) ∧ Below W.heap.size W w') (h1 : ¬ id < 0) (h2 : ¬ id ≥ n) (h3 : ¬ at_ < 0) (h4 : ¬ at_ ≥ steps) (hv : bigS value = true) :
  Calls Tryz.prog 26 #[.agg #[.int .i64 n, .slice A0_1 l.length c0_1], .agg #[.string tag, .int .i64 src, .int .i64 steps], .int .i64 at_, .agg #[.int .i64 id, .int .i64 value, .bool active, .bool has, .int .i64 inn0]] w (StepPost w (0, 0, false, false, 0, [], 71)) := by
 have hu1 := Tryz.underlying50
 have hu4 := Tryz.underlying26
 have hu5 := Tryz.underlying24
 have d1 : decide (id < 0) = false := decide_eq_false h1
 have d2 : decide (n ≤ id) = false := decide_eq_false h2
 have d3 : decide (at_ < 0) = false := decide_eq_false h3
 have d4 : decide (steps ≤ at_) = false := decide_eq_false h4
 have HGv : ∀ W, Calls Tryz.prog 41 #[.int .i64 value] W fun x w' => x = .returned (.bool true) ∧ Drawn0 W w' := fun W => prog_great.calls _ _ W (by rw [great_ok, hv])
 clear h1 h2 h3 h4 hv
 go_enter Tryz.func26, Tryz.ntmps26
 go_wp2_with (fail)
 refine (HCK _ (by repeat (first | exact Below.refl _ _ | apply below_alloc | apply pw_below_drewN))).mono ?_
 rintro e w2 ⟨rfl, hb⟩
 obtain ⟨BG, BJ, BX, BR, SZ2, HB2⟩ := four_blocks hb
 clear hb HCK
 have g0 : w2.cell? ⟨w.heap.size, 0, none⟩ = some (.int .i64 n) := (blk_cell BG.out 0).trans rfl
 have j2 : w2.cell? ⟨w.heap.size + 1, 2, none⟩ = some (.int .i64 steps) := (blk_cell BJ.out 2).trans rfl
 obtain ⟨x0, x1, x2, x3, x4⟩ := c5z w2 BX.out
 obtain ⟨r0, r1, r2, r3, r4, f0, f1, f2, f3, f4⟩ := q5z w2 BR.out
 go_wp2_with (go_at_call 41; refine (HGv _).mono ?_; rintro x w3 ⟨rfl, ⟨nd1, rfl⟩⟩; clear HGv)
 refine bodyPost_ret (results_ctt rfl _ _ (w.heap.size + 1 + 1 + 1) 50 #[.int .i64 0, .int .i64 0, .bool false, .bool false, .int .i64 0] (0, 0) _ rfl ?hg Tryz.underlying50 rfl (by kernel_rfl)) rfl ?_
 case hg => exact (blk_put (blk_put (blk_put (blk_put (blk_put (blk_drewN BR.out _) 0 _ rfl) 1 _ rfl) 2 _ rfl) 3 _ rfl) 4 _ rfl)
 exact ⟨_, rfl, Kd.R_nil _ _ _ _ _, by repeat (first | exact HB2.out | refine below_set ?_ (by omega) | apply pw_below_drewN | apply below_drew1)⟩
set_option maxHeartbeats 16000000 in
set_option maxRecDepth 100000 in
theorem prog_Step.w_inn (A0_1 : Option Addr) (c0_1 : Nat) (n src steps at_ id value inn0 : Int) (active has : Bool) (l : List S48) (tag : ByteArray) (w : World) (HCK : ∀ W, Below w.heap.size w W → Calls Tryz.prog 21 #[.agg #[.int .i64 n, .slice A0_1 l.length c0_1], .agg #[.string tag, .int .i64 src, .int .i64 steps]] W fun e w' => e = .returned (.int .i64 0) ∧ Below W.heap.size W w') (h1 : ¬ id < 0) (h2 : ¬ id ≥ n) (h3 : ¬ at_ < 0) (h4 : ¬ at_ ≥ steps) (hv : bigS value = false) (hi : bigS inn0 = true) :
  Calls Tryz.prog 26 #[.agg #[.int .i64 n, .slice A0_1 l.length c0_1], .agg #[.string tag, .int .i64 src, .int .i64 steps], .int .i64 at_, .agg #[.int .i64 id, .int .i64 value, .bool active, .bool has, .int .i64 inn0]] w (StepPost w (0, 0, false, false, 0, [], 71)) := by
 have hu1 := Tryz.underlying50
 have hu4 := Tryz.underlying26
 have hu5 := Tryz.underlying24
 have d1 : decide (id < 0) = false := decide_eq_false h1
 have d2 : decide (n ≤ id) = false := decide_eq_false h2
 have d3 : decide (at_ < 0) = false := decide_eq_false h3
 have d4 : decide (steps ≤ at_) = false := decide_eq_false h4
 have HGv : ∀ W, Calls Tryz.prog 41 #[.int .i64 value] W fun x w' => x = .returned (.bool false) ∧ Drawn0 W w' := fun W => prog_great.calls _ _ W (by rw [great_ok, hv])
 have HGi : ∀ W, Calls Tryz.prog 41 #[.int .i64 inn0] W fun x w' => x = .returned (.bool true) ∧ Drawn0 W w' := fun W => prog_great.calls _ _ W (by rw [great_ok, hi])
 clear h1 h2 h3 h4 hv hi
 go_enter Tryz.func26, Tryz.ntmps26
 go_wp2_with (fail)
 refine (HCK _ (by repeat (first | exact Below.refl _ _ | apply below_alloc | apply pw_below_drewN))).mono ?_
 rintro e w2 ⟨rfl, hb⟩
 obtain ⟨BG, BJ, BX, BR, SZ2, HB2⟩ := four_blocks hb
 clear hb HCK
 have g0 : w2.cell? ⟨w.heap.size, 0, none⟩ = some (.int .i64 n) := (blk_cell BG.out 0).trans rfl
 have j2 : w2.cell? ⟨w.heap.size + 1, 2, none⟩ = some (.int .i64 steps) := (blk_cell BJ.out 2).trans rfl
 obtain ⟨x0, x1, x2, x3, x4⟩ := c5z w2 BX.out
 obtain ⟨r0, r1, r2, r3, r4, f0, f1, f2, f3, f4⟩ := q5z w2 BR.out
 go_wp2_with (first | (go_at_call 41; refine (HGv _).mono ?_; rintro x w3 ⟨rfl, ⟨nd1, rfl⟩⟩; clear HGv) | (go_at_call 41; refine (HGi _).mono ?_; rintro x w3 ⟨rfl, ⟨nd2, rfl⟩⟩; clear HGi))
 refine bodyPost_ret (results_ctt rfl _ _ (w.heap.size + 1 + 1 + 1) 50 #[.int .i64 0, .int .i64 0, .bool false, .bool false, .int .i64 0] (0, 0) _ rfl ?hg Tryz.underlying50 rfl (by kernel_rfl)) rfl ?_
 case hg => exact (blk_put (blk_put (blk_put (blk_put (blk_put (blk_drewN BR.out _) 0 _ rfl) 1 _ rfl) 2 _ rfl) 3 _ rfl) 4 _ rfl)
 exact ⟨_, rfl, Kd.R_nil _ _ _ _ _, by repeat (first | exact HB2.out | refine below_set ?_ (by omega) | apply pw_below_drewN | apply below_drew1)⟩
set_option maxHeartbeats 16000000 in
set_option maxRecDepth 100000 in
theorem prog_Step.w_still (A0_1 : Option Addr) (c0_1 : Nat) (n src steps at_ id value inn0 : Int) (l : List S48) (tag : ByteArray) (w : World) (HCK : ∀ W, Below w.heap.size w W → Calls Tryz.prog 21 #[.agg #[.int .i64 n, .slice A0_1 l.length c0_1], .agg #[.string tag, .int .i64 src, .int .i64 steps]] W fun e w' => e = .returned (.int .i64 0) ∧ Below W.heap.size W w') (h1 : ¬ id < 0) (h2 : ¬ id ≥ n) (h3 : ¬ at_ < 0) (h4 : ¬ at_ ≥ steps) (hv : bigS value = false) (hi : bigS inn0 = false) :
  Calls Tryz.prog 26 #[.agg #[.int .i64 n, .slice A0_1 l.length c0_1], .agg #[.string tag, .int .i64 src, .int .i64 steps], .int .i64 at_, .agg #[.int .i64 id, .int .i64 value, .bool false, .bool false, .int .i64 inn0]] w (StepPost w (id, value, false, false, inn0, [], 0)) := by
 have hu1 := Tryz.underlying50
 have hu4 := Tryz.underlying26
 have hu5 := Tryz.underlying24
 have d1 : decide (id < 0) = false := decide_eq_false h1
 have d2 : decide (n ≤ id) = false := decide_eq_false h2
 have d3 : decide (at_ < 0) = false := decide_eq_false h3
 have d4 : decide (steps ≤ at_) = false := decide_eq_false h4
 have HGv : ∀ W, Calls Tryz.prog 41 #[.int .i64 value] W fun x w' => x = .returned (.bool false) ∧ Drawn0 W w' := fun W => prog_great.calls _ _ W (by rw [great_ok, hv])
 have HGi : ∀ W, Calls Tryz.prog 41 #[.int .i64 inn0] W fun x w' => x = .returned (.bool false) ∧ Drawn0 W w' := fun W => prog_great.calls _ _ W (by rw [great_ok, hi])
 clear h1 h2 h3 h4 hv hi
 go_enter Tryz.func26, Tryz.ntmps26
 go_wp2_with (fail)
 refine (HCK _ (by repeat (first | exact Below.refl _ _ | apply below_alloc | apply pw_below_drewN))).mono ?_
 rintro e w2 ⟨rfl, hb⟩
 obtain ⟨BG, BJ, BX, BR, SZ2, HB2⟩ := four_blocks hb
 clear hb HCK
 have g0 : w2.cell? ⟨w.heap.size, 0, none⟩ = some (.int .i64 n) := (blk_cell BG.out 0).trans rfl
 have j2 : w2.cell? ⟨w.heap.size + 1, 2, none⟩ = some (.int .i64 steps) := (blk_cell BJ.out 2).trans rfl
 obtain ⟨x0, x1, x2, x3, x4⟩ := c5z w2 BX.out
 obtain ⟨r0, r1, r2, r3, r4, f0, f1, f2, f3, f4⟩ := q5z w2 BR.out
 go_wp2_with (first | (go_at_call 41; refine (HGv _).mono ?_; rintro x w3 ⟨rfl, ⟨nd1, rfl⟩⟩; clear HGv) | (go_at_call 41; refine (HGi _).mono ?_; rintro x w3 ⟨rfl, ⟨nd2, rfl⟩⟩; clear HGi))
 refine bodyPost_ret (results_ctt rfl _ _ (w.heap.size + 1 + 1 + 1) 50 #[.int .i64 id, .int .i64 value, .bool false, .bool false, .int .i64 inn0] (0, 0) _ rfl ?hg Tryz.underlying50 rfl (by kernel_rfl)) rfl ?_
 case hg => exact (blk_put (blk_put (blk_put (blk_put (blk_put (blk_drewN BR.out _) 0 _ rfl) 1 _ rfl) 2 _ rfl) 3 _ rfl) 4 _ rfl)
 exact ⟨_, rfl, Kd.R_nil _ _ _ _ _, by repeat (first | exact HB2.out | refine below_set ?_ (by omega) | apply pw_below_drewN | apply below_drew1)⟩
theorem prog_Step.on (A0_1 : Option Addr) (c0_1 : Nat) (n src steps at_ id value inn0 : Int) (active has : Bool) (l : List S48) (tag : ByteArray) (w : World) (hr : Kd.C k48 w A0_1 l.length l) (hc : l.length ≤ c0_1) (r : Int × Int × Bool × Bool × Int × List S61 × Int) (h : prog_Step.f n l tag src steps at_ id value active has inn0 = some r) :
  Calls Tryz.prog 26 #[.agg #[.int .i64 n, .slice A0_1 l.length c0_1], .agg #[.string tag, .int .i64 src, .int .i64 steps], .int .i64 at_, .agg #[.int .i64 id, .int .i64 value, .bool active, .bool has, .int .i64 inn0]] w (StepPost w r) := by
 unfold prog_Step.f at h
 obtain ⟨c, hck, h⟩ := Option.bind_eq_some_iff.mp h
 have HCK : ∀ W, Below w.heap.size w W → Calls Tryz.prog 21 #[.agg #[.int .i64 n, .slice A0_1 l.length c0_1], .agg #[.string tag, .int .i64 src, .int .i64 steps]] W fun e w' => e = .returned (.int .i64 c) ∧ Below W.heap.size W w' := fun W hW => prog_Check.calls 20 n A0_1 c0_1 l tag src steps c W (Kd.C_below hr hW) hc hck
 by_cases hc0 : c = 0
 ·subst hc0
  rw [if_pos rfl] at h
  by_cases h1 : id < 0
  ·rw [if_pos (.inl h1)] at h; obtain rfl := Option.some.inj h; exact prog_Step.w_low A0_1 c0_1 n src steps at_ id value inn0 active has l tag w HCK h1
  by_cases h2 : id ≥ n
  ·rw [if_pos (.inr (.inl h2))] at h; obtain rfl := Option.some.inj h; exact prog_Step.w_high A0_1 c0_1 n src steps at_ id value inn0 active has l tag w HCK h1 h2
  by_cases h3 : at_ < 0
  ·rw [if_pos (.inr (.inr (.inl h3)))] at h; obtain rfl := Option.some.inj h; exact prog_Step.w_neg A0_1 c0_1 n src steps at_ id value inn0 active has l tag w HCK h1 h2 h3
  by_cases h4 : at_ ≥ steps
  ·rw [if_pos (.inr (.inr (.inr h4)))] at h; obtain rfl := Option.some.inj h; exact prog_Step.w_late A0_1 c0_1 n src steps at_ id value inn0 active has l tag w HCK h1 h2 h3 h4
  rw [if_neg (by omega)] at h
  cases hv : bigS value with
  | true => rw [hv, Bool.true_or, if_pos rfl] at h; obtain rfl := Option.some.inj h; exact prog_Step.w_great A0_1 c0_1 n src steps at_ id value inn0 active has l tag w HCK h1 h2 h3 h4 hv
  | false =>
   cases hi : bigS inn0 with
   | true => rw [hv, hi, Bool.false_or, if_pos rfl] at h; obtain rfl := Option.some.inj h; exact prog_Step.w_inn A0_1 c0_1 n src steps at_ id value inn0 active has l tag w HCK h1 h2 h3 h4 hv hi
   | false =>
    rw [hv, hi, Bool.false_or, if_neg (by decide)] at h
    cases hact : (!active && !has) with
    | true =>
     rw [hact, if_pos rfl] at h
     obtain rfl := Option.some.inj h
     cases active with
     | true => cases hact
     | false =>
      cases has with
      | true => cases hact
      | false => exact prog_Step.w_still A0_1 c0_1 n src steps at_ id value inn0 l tag w HCK h1 h2 h3 h4 hv hi
    | false =>
     rw [hact, if_neg (by decide)] at h
     obtain rfl := Option.some.inj h
     exact prog_Step.goes A0_1 c0_1 n src steps at_ id value inn0 active has l tag w hr hc hck ⟨by omega, by omega⟩ ⟨by omega, by omega⟩ hv hi hact
 ·rw [if_neg hc0] at h
  obtain rfl := Option.some.inj h
  exact prog_Step.w_job A0_1 c0_1 n src steps at_ id value inn0 active has l tag w c HCK hc0
end
theorem prog_Step.calls (a0_0 : Int) (A0_1 : Option Addr) (c0_1 : Nat) (l0_1 : List S48) (a1_0 : ByteArray) (a1_1 a1_2 a2 a3_0 a3_1 : Int) (a3_2 a3_3 : Bool) (a3_4 : Int) (r1 r2 : Int) (r3 r4 : Bool) (r5 : Int) (r6 : List S61) (r7 : Int) (w : World) (hr0_1 : Kd.C k48 w A0_1 l0_1.length l0_1) (hc0_1 : l0_1.length ≤ c0_1) (h : prog_Step.f a0_0 l0_1 a1_0 a1_1 a1_2 a2 a3_0 a3_1 a3_2 a3_3 a3_4 = some (r1, r2, r3, r4, r5, r6, r7)) :
  Calls Tryz.prog 26 #[.agg #[.int .i64 a0_0, .slice A0_1 l0_1.length c0_1], .agg #[.string a1_0, .int .i64 a1_1, .int .i64 a1_2], .int .i64 a2, .agg #[.int .i64 a3_0, .int .i64 a3_1, .bool a3_2, .bool a3_3, .int .i64 a3_4]] w fun e w' => ∃ v5_ : Value, e = .returned (.tuple #[.agg #[.int .i64 r1, .int .i64 r2, .bool r3, .bool r4, .int .i64 r5], v5_, .int .i64 r7]) ∧ Kd.R k61 61 w' w.heap.size (fun _ => True) v5_ r6 ∧ Below w.heap.size w w' :=
 prog_Step.on A0_1 c0_1 a0_0 a1_1 a1_2 a2 a3_0 a3_1 a3_4 a3_2 a3_3 l0_1 a1_0 w hr0_1 hc0_1 (r1, r2, r3, r4, r5, r6, r7) h

end Go.Proofs.YtpndhkeoljoapaaGreat.P
