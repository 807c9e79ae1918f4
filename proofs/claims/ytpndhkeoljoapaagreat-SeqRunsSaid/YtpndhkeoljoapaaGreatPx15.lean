/- What these Go functions compute, as Lean functions, and that they do. No condition. -/
import Derived.Test.YtpndhkeoljoapaaGreatPx0
import Derived.Test.YtpndhkeoljoapaaGreatPx5
import Derived.Test.YtpndhkeoljoapaaGreatPx6
import Derived.Test.YtpndhkeoljoapaaGreatPx14
namespace Go.Proofs.YtpndhkeoljoapaaGreat.P
open Go.RowKit Go.Proofs.YtpndhkeoljoapaaGreatW.PrintWords Go.Proofs.YtpndhkeoljoapaaGreatW.PrintLast Go.Proofs.YtpndhkeoljoapaaGreatW.PrintMore
attribute [local go_sem] max2_int min2_int max_two min_two max_three min_three max_four min_four   -- for this text's walks alone
set_option linter.unusedVariables false
set_option linter.unusedSimpArgs false
set_option linter.unnecessarySimpa false

/-! ### modillionref07_plain: function 51 (given) -/
section
open Go.Shelf Go.Proofs.YtpndhkeoljoapaaGreat.Bridge
def PlainPost (w : World) (r : Int × Int × Bool × Bool × Int × List S61) (e : Ending) (w' : World) : Prop :=
  ∃ v5_ : Value, e = .returned (.tuple #[.agg #[.int .i64 r.1, .int .i64 r.2.1, .bool r.2.2.1, .bool r.2.2.2.1, .int .i64 r.2.2.2.2.1], v5_]) ∧ Kd.R k61 61 w' w.heap.size (fun _ => True) v5_ r.2.2.2.2.2 ∧ Below w.heap.size w w'
/-- What is sent to all, in whatever world behind. -/
def AllOk (w : World) (A3 : Option Addr) (c3 : Nat) (l : List S48) : Prop := Aside0 (∀ val cnt W, (-9007199254740992 ≤ val ∧ val ≤ 9007199254740992) → Below w.heap.size w W → Calls Tryz.prog 74 #[.slice A3 l.length c3, .int .i64 val, .int .i64 cnt] W fun e w' => ∃ v : Value, e = .returned v ∧ Kd.R k61 61 w' W.heap.size (fun _ => True) v (l.map (allV val cnt)) ∧ Below W.heap.size W w')
theorem next_facts {w W0 w3 : World} {a0 a1 a2 a3 a4 a5 : Value} {cs : Array Value} (y0 : W0.cell? ⟨w.heap.size + 1 + 1 + 1, 0, none⟩ = some a0) (y1 : W0.cell? ⟨w.heap.size + 1 + 1 + 1, 1, none⟩ = some a1) (y2 : W0.cell? ⟨w.heap.size + 1 + 1 + 1, 2, none⟩ = some a2) (y3 : W0.cell? ⟨w.heap.size + 1 + 1 + 1, 3, none⟩ = some a3) (y4 : W0.cell? ⟨w.heap.size + 1 + 1 + 1, 4, none⟩ = some a4) (y5 : W0.cell? ⟨w.heap.size + 1, 1, none⟩ = some a5)
    (BK : Aside0 (W0.heap[w.heap.size + 1 + 1]? = some (.cells cs 50 (0, 0)))) (HB : Aside0 (Below w.heap.size w W0)) (SZ : Aside0 (w.heap.size + 4 ≤ W0.heap.size)) (hb : Below W0.drew.heap.size W0.drew w3) :
    w3.cell? ⟨w.heap.size + 1 + 1 + 1, 0, none⟩ = some a0 ∧ w3.cell? ⟨w.heap.size + 1 + 1 + 1, 1, none⟩ = some a1 ∧ w3.cell? ⟨w.heap.size + 1 + 1 + 1, 2, none⟩ = some a2 ∧ w3.cell? ⟨w.heap.size + 1 + 1 + 1, 3, none⟩ = some a3 ∧ w3.cell? ⟨w.heap.size + 1 + 1 + 1, 4, none⟩ = some a4 ∧ w3.cell? ⟨w.heap.size + 1, 1, none⟩ = some a5 ∧ Aside0 (w3.heap[w.heap.size + 1 + 1]? = some (.cells cs 50 (0, 0))) ∧ Aside0 (Below w.heap.size w w3) ∧ Aside0 (w.heap.size ≤ W0.drew.heap.size) := by
  have hs := SZ.out
  have hd : W0.drew.heap.size = W0.heap.size := rfl
  have lt : ∀ k, k ≤ 3 → w.heap.size + k < W0.drew.heap.size := fun k hk => by omega
  have k3 := lt 3 (by omega)
  have k1 := lt 1 (by omega)
  refine ⟨(hb.cell (p := ⟨w.heap.size + 1 + 1 + 1, 0, none⟩) k3).trans y0, (hb.cell (p := ⟨w.heap.size + 1 + 1 + 1, 1, none⟩) k3).trans y1, (hb.cell (p := ⟨w.heap.size + 1 + 1 + 1, 2, none⟩) k3).trans y2, (hb.cell (p := ⟨w.heap.size + 1 + 1 + 1, 3, none⟩) k3).trans y3, (hb.cell (p := ⟨w.heap.size + 1 + 1 + 1, 4, none⟩) k3).trans y4, (hb.cell (p := ⟨w.heap.size + 1, 1, none⟩) k1).trans y5, ⟨blk_below (blk_drew BK.out) hb⟩, ⟨(below_drew1 HB.out).trans (hb.mono (by omega))⟩, ⟨by omega⟩⟩
theorem set5_R {w : World} {B0 B m : Nat} {v : Value} {l : List S61} {a0 a1 a2 a3 a4 : Value} {cs : Array Value} (hR : Kd.R k61 61 w B (fun _ => True) v l) (hb : w.heap[m]? = some (.cells cs 50 (0, 0))) (hB : B0 ≤ B) :
    Kd.R k61 61 (((((w.setCell ⟨m, 0, none⟩ a0).setCell ⟨m, 1, none⟩ a1).setCell ⟨m, 2, none⟩ a2).setCell ⟨m, 3, none⟩ a3).setCell ⟨m, 4, none⟩ a4) B0 (fun _ => True) v l :=
  Kd.R_set (Kd.R_set (Kd.R_set (Kd.R_set (Kd.R_set (Kd.R_lower hR hB) hb (by decide) 0 _) (blk_set hb 0 _) (by decide) 1 _) (blk_set (blk_set hb 0 _) 1 _) (by decide) 2 _) (blk_set (blk_set (blk_set hb 0 _) 1 _) 2 _) (by decide) 3 _) (blk_set (blk_set (blk_set (blk_set hb 0 _) 1 _) 2 _) 3 _) (by decide) 4 _
theorem next_facts2 {w W1 w3 : World} {x0 x1 x2 x3 x4 a0 a1 a2 a3 a4 : Value} {cs : Array Value} (BX : W1.heap[w.heap.size + 1]? = some (.cells #[x0, x1, x2, x3, x4] 50 (0, 0))) (BR : W1.heap[w.heap.size + 1 + 1]? = some (.cells cs 50 (0, 0))) (BY : W1.heap[w.heap.size + 1 + 1 + 1]? = some (.cells #[a0, a1, a2, a3, a4] 50 (0, 0))) (HB : Below w.heap.size w W1) (hb : Below W1.heap.size W1 w3) :
    w3.cell? ⟨w.heap.size + 1 + 1 + 1, 0, none⟩ = some a0 ∧ w3.cell? ⟨w.heap.size + 1 + 1 + 1, 1, none⟩ = some a1 ∧ w3.cell? ⟨w.heap.size + 1 + 1 + 1, 2, none⟩ = some a2 ∧ w3.cell? ⟨w.heap.size + 1 + 1 + 1, 3, none⟩ = some a3 ∧ w3.cell? ⟨w.heap.size + 1 + 1 + 1, 4, none⟩ = some a4 ∧ w3.cell? ⟨w.heap.size + 1, 1, none⟩ = some x1 ∧ Aside0 (w3.heap[w.heap.size + 1 + 1]? = some (.cells cs 50 (0, 0))) ∧ Aside0 (Below w.heap.size w w3) ∧ Aside0 (w.heap.size ≤ W1.heap.size) := by
  have b4 := blk_below BY hb
  have b2 := blk_below BX hb
  exact ⟨(blk_cell b4 0).trans rfl, (blk_cell b4 1).trans rfl, (blk_cell b4 2).trans rfl, (blk_cell b4 3).trans rfl, (blk_cell b4 4).trans rfl, (blk_cell b2 1).trans rfl, ⟨blk_below BR hb⟩, ⟨HB.trans (hb.mono HB.size)⟩, ⟨HB.size⟩⟩
theorem floor_ok (a b : Int) (hb : 0 < b) (hb2 : b ≤ 1000000) (h1 : -1000000000000000000 ≤ a) (h2 : a ≤ 1000000000000000000) : modillionref07_floor.f a b = some (downV a b) := by
  have hr := downV_range a b 1000000000000000000 hb h1 h2
  unfold modillionref07_floor.f
  unfold downV at hr ⊢
  by_cases ha : a ≥ 0
  · rw [if_pos ha, if_neg (by omega), Int.tdiv_eq_ediv_of_nonneg ha]
    congr 1
    unfold wrap64
    omega
  · have hm := Int.emod_nonneg a (show b ≠ 0 by omega)
    have hl := Int.emod_lt_of_pos a hb
    have hq : (-a + b - 1) / b = -(a / b) := by
      have e : -a + b - 1 = (b - 1 - a % b) + b * (-(a / b)) := by
        have := Int.mul_ediv_add_emod a b
        rw [Int.mul_neg]
        omega
      rw [e, Int.add_mul_ediv_left _ _ (by omega), Int.ediv_eq_zero_of_lt (by omega) (by omega), Int.zero_add]
    rw [if_neg ha, if_neg (by omega)]
    have w1 : wrap64 (-a) = -a := by unfold wrap64; omega
    have w2 : wrap64 (-a + b) = -a + b := by unfold wrap64; omega
    have w3 : wrap64 (-a + b - 1) = -a + b - 1 := by unfold wrap64; omega
    rw [w1, w2, w3, Int.tdiv_eq_ediv_of_nonneg (by omega), hq]
    congr 1
    unfold wrap64
    omega
theorem four_blocks_d {w w3 : World} {o1 o2 o3 o4 : Obj} {n : Nat} (h : w3 = ((((w.alloc o1).alloc o2).alloc o3).alloc o4).drewN n) :
    Aside0 (w3.heap[w.heap.size]? = some o1) ∧ Aside0 (w3.heap[w.heap.size + 1]? = some o2) ∧ Aside0 (w3.heap[w.heap.size + 1 + 1]? = some o3) ∧ Aside0 (w3.heap[w.heap.size + 1 + 1 + 1]? = some o4) ∧ Aside0 (w.heap.size + 4 ≤ w3.heap.size) ∧ Aside0 (Below w.heap.size w w3) := by
  subst h
  exact four_blocks (pw_below_drewN (Below.refl _ _) n)
theorem cell_dn {w : World} {p : Addr} {u : Value} {n : Nat} (h : w.cell? p = some u) : (w.drewN n).cell? p = some u := h
inductive plain.At (tag : List UInt8) (src at_ id value inn : Int) : Int → Int → Prop
  | max (ht : tag = sMax) (h0 : at_ = 0) : plain.At tag src at_ id value inn value 0
  | label (ht : tag = sLabel) (h0 : at_ = 0) : plain.At tag src at_ id value inn value 0
  | sssp (ht : tag = sSssp) (h0 : at_ = 0) (hs : id = src) : plain.At tag src at_ id value inn 0 2
  | bfs (ht : tag = sBfs) (h0 : at_ = 0) (hs : id = src) : plain.At tag src at_ id value inn 0 1
  | degree (ht : tag = sDegree) (h0 : at_ = 0) : plain.At tag src at_ id value inn 1 0
  | walks (ht : tag = sWalks) (h0 : at_ = 0) : plain.At tag src at_ id value inn 1 0
theorem bq {w W : World} {g j : Nat} {v : Value} (h : Below w.heap.size w W) (hg : w.heap.size ≤ g) : Below w.heap.size w (W.setCell ⟨g, j, none⟩ v) := below_set h hg
theorem bz {w : World} {g : Nat} {t : TypeId} {cs : Array Value} (h : w.heap[g]? = some (.cells cs t (0, 0))) (i : Nat) : w.frozen? ⟨g, i, none⟩ = false := blk_frozen h i
set_option maxHeartbeats 16000000 in
set_option maxRecDepth 100000 in
theorem plain.onAt (tag : ByteArray) (src steps at_ id value inn : Int) (active : Bool) (A3 : Option Addr) (c3 : Nat) (l : List S48) (w : World) (HALL : AllOk w A3 c3 l) (hv0 : smallV value) (hi0 : smallV inn) {val : Int} {cnt : Int} (hw : plain.At tag.toList src at_ id value inn val cnt) :
  Calls Tryz.prog 51 #[.agg #[.string tag, .int .i64 src, .int .i64 steps], .int .i64 at_, .agg #[.int .i64 id, .int .i64 value, .bool active, .bool true, .int .i64 inn], .slice A3 l.length c3] w (PlainPost w (id, value, false, false, 0, l.map (allV val cnt))) := by
 have hu1 := Tryz.underlying50
 have hu2 := Tryz.underlying26
 have HB_ : Aside0 (-9007199254740992 ≤ (val : Int) ∧ (val : Int) ≤ 9007199254740992) := ⟨by unfold smallV at hv0 hi0; cases hw <;> omega⟩
 clear hv0 hi0
 rcases hw with ⟨ht, h0⟩ | ⟨ht, h0⟩ | ⟨ht, h0, hs⟩ | ⟨ht, h0, hs⟩ | ⟨ht, h0⟩ | ⟨ht, h0⟩
 all_goals
  (first | have t_sMax : (tag.toList == ([109, 97, 120] : List UInt8)) = true := by rw [ht]; rfl | have t_sMax : (tag.toList == ([109, 97, 120] : List UInt8)) = false := by rw [ht]; rfl)
  (first | have t_sLabel : (tag.toList == ([108, 97, 98, 101, 108] : List UInt8)) = true := by rw [ht]; rfl | have t_sLabel : (tag.toList == ([108, 97, 98, 101, 108] : List UInt8)) = false := by rw [ht]; rfl)
  (first | have t_sSssp : (tag.toList == ([115, 115, 115, 112] : List UInt8)) = true := by rw [ht]; rfl | have t_sSssp : (tag.toList == ([115, 115, 115, 112] : List UInt8)) = false := by rw [ht]; rfl)
  (first | have t_sBfs : (tag.toList == ([98, 102, 115] : List UInt8)) = true := by rw [ht]; rfl | have t_sBfs : (tag.toList == ([98, 102, 115] : List UInt8)) = false := by rw [ht]; rfl)
  (first | have t_sDegree : (tag.toList == ([100, 101, 103, 114, 101, 101] : List UInt8)) = true := by rw [ht]; rfl | have t_sDegree : (tag.toList == ([100, 101, 103, 114, 101, 101] : List UInt8)) = false := by rw [ht]; rfl)
  (first | have t_sWalks : (tag.toList == ([119, 97, 108, 107, 115] : List UInt8)) = true := by rw [ht]; rfl | have t_sWalks : (tag.toList == ([119, 97, 108, 107, 115] : List UInt8)) = false := by rw [ht]; rfl)
  (first | have z : (at_ == 0) = true := beq_iff_eq.mpr h0 | have z : (at_ == 0) = false := beq_eq_false_iff_ne.mpr h0)
  (first | have e : (id == src) = true := beq_iff_eq.mpr hs | have e : (id == src) = false := beq_eq_false_iff_ne.mpr hs | skip)
  clear ht h0
  (try clear hs)
  (try clear hv)
  (try clear hc)
  go_enter Tryz.func51, Tryz.ntmps51
  have NA_ : Aside0 (w.heap.size + 1 + 1 + 1 ≠ w.heap.size + 1 + 1) := ⟨by omega⟩
  have NB_ : Aside0 (w.heap.size + 1 ≠ w.heap.size + 1 + 1) := ⟨by omega⟩
  go_wp2
  have FB := four_blocks (w := w) (o1 := .cells #[.string tag, .int .i64 src, .int .i64 steps] 26) (o2 := .cells #[.int .i64 id, .int .i64 value, .bool active, .bool true, .int .i64 inn] 50) (o3 := .cells #[.int .i64 0, .int .i64 0, .bool false, .bool false, .int .i64 0] 50) (o4 := .cells #[.int .i64 id, .int .i64 value, .bool false, .bool false, .int .i64 0] 50) (Below.refl _ _)
  generalize (((w.alloc (.cells #[.string tag, .int .i64 src, .int .i64 steps] 26)).alloc (.cells #[.int .i64 id, .int .i64 value, .bool active, .bool true, .int .i64 inn] 50)).alloc (.cells #[.int .i64 0, .int .i64 0, .bool false, .bool false, .int .i64 0] 50)).alloc (.cells #[.int .i64 id, .int .i64 value, .bool false, .bool false, .int .i64 0] 50) = W0 at FB ⊢
  obtain ⟨_, BX0, BR0, BY0, SZ0, HB0⟩ := FB
  obtain ⟨y0, y1, y2, y3, y4⟩ := c5z W0 BY0.out
  have y5 : W0.cell? ⟨w.heap.size + 1, 1, none⟩ = some (.int .i64 value) := (blk_cell BX0.out 1).trans rfl
  obtain ⟨r0, r1, r2, r3, r4, f0, f1, f2, f3, f4⟩ := q5z W0 BR0.out
  have HBd : Aside0 (Below w.heap.size w W0.drew) := ⟨below_drew1 HB0.out⟩
  go_region_held3 (fun w' => w'.cell? ⟨w.heap.size + 1 + 1 + 1, 0, none⟩ = some (.int .i64 id) ∧ w'.cell? ⟨w.heap.size + 1 + 1 + 1, 1, none⟩ = some (.int .i64 value) ∧ w'.cell? ⟨w.heap.size + 1 + 1 + 1, 2, none⟩ = some (.bool false) ∧ w'.cell? ⟨w.heap.size + 1 + 1 + 1, 3, none⟩ = some (.bool false) ∧ w'.cell? ⟨w.heap.size + 1 + 1 + 1, 4, none⟩ = some (.int .i64 0) ∧ w'.cell? ⟨w.heap.size + 1, 1, none⟩ = some (.int .i64 value)) (first | (with_reducible exact ⟨cell_drew_of y0, cell_drew_of y1, cell_drew_of y2, cell_drew_of y3, cell_drew_of y4, cell_drew_of y5⟩) | (with_reducible exact ⟨z0, z1, z2, z3, z4, z5⟩) | (with_reducible exact ⟨far5d y0 NA_.out, far5d y1 NA_.out, far5d y2 NA_.out, far5d y3 NA_.out, far5d y4 NA_.out, far5d y5 NB_.out⟩) | (with_reducible exact ⟨far5 y0 NA_.out, far5 y1 NA_.out, far5 y2 NA_.out, far5 y3 NA_.out, far5 y4 NA_.out, far5 y5 NB_.out⟩) | (with_reducible exact ⟨far5d z0 NA_.out, far5d z1 NA_.out, far5d z2 NA_.out, far5d z3 NA_.out, far5d z4 NA_.out, far5d z5 NB_.out⟩) | (with_reducible exact ⟨far5 z0 NA_.out, far5 z1 NA_.out, far5 z2 NA_.out, far5 z3 NA_.out, far5 z4 NA_.out, far5 z5 NB_.out⟩) | go_keep)
   (first
    | (go_at_call 74; refine (HALL.out _ _ _ HB_.out HBd.out).mono ?_; rintro x w3 ⟨v3, rfl, hR3, hb3⟩; obtain ⟨z0, z1, z2, z3, z4, z5, BK3, HB3, HS3⟩ := next_facts y0 y1 y2 y3 y4 y5 BR0 HB0 SZ0 hb3; obtain ⟨A9, c9, e9⟩ := Kd.R_slice hR3; subst e9; rw [List.length_map] at hR3; have HR3 := Aside0.mk (Kd.R_lower hR3 HS3.out); clear hR3 hb3; have s0 : w3.cell? ⟨w.heap.size + 1 + 1, 0, none⟩ = some (.int .i64 0) := (blk_cell BK3.out 0).trans rfl; have g0 := bz BK3.out 0; have s1 : w3.cell? ⟨w.heap.size + 1 + 1, 1, none⟩ = some (.int .i64 0) := (blk_cell BK3.out 1).trans rfl; have g1 := bz BK3.out 1; have s2 : w3.cell? ⟨w.heap.size + 1 + 1, 2, none⟩ = some (.bool false) := (blk_cell BK3.out 2).trans rfl; have g2 := bz BK3.out 2; have s3 : w3.cell? ⟨w.heap.size + 1 + 1, 3, none⟩ = some (.bool false) := (blk_cell BK3.out 3).trans rfl; have g3 := bz BK3.out 3; have s4 : w3.cell? ⟨w.heap.size + 1 + 1, 4, none⟩ = some (.int .i64 0) := (blk_cell BK3.out 4).trans rfl; have g4 := bz BK3.out 4)
    | (go_at_call 74; refine (HALL.out _ _ _ HB_.out (below_drew1 (bq (bq (bq (bq (bq HB0.out (by omega)) (by omega)) (by omega)) (by omega)) (by omega)))).mono ?_; rintro x w3 ⟨v3, rfl, hR3, hb3⟩; obtain ⟨z0, z1, z2, z3, z4, z5, BK3, HB3, HS3⟩ := next_facts (far5 y0 NA_.out) (far5 y1 NA_.out) (far5 y2 NA_.out) (far5 y3 NA_.out) (far5 y4 NA_.out) (far5 y5 NB_.out) ⟨(blk_put (blk_put (blk_put (blk_put (blk_put BR0.out 0 _ rfl) 1 _ rfl) 2 _ rfl) 3 _ rfl) 4 _ rfl)⟩ ⟨(bq (bq (bq (bq (bq HB0.out (by omega)) (by omega)) (by omega)) (by omega)) (by omega))⟩ ⟨by have := SZ0.out; simp; omega⟩ hb3; obtain ⟨A9, c9, e9⟩ := Kd.R_slice hR3; subst e9; rw [List.length_map] at hR3; have HR3 := Aside0.mk (Kd.R_lower hR3 HS3.out); clear hR3 hb3))
  all_goals
   go_wp2
   refine bodyPost_ret (results_ct rfl _ _ (w.heap.size + 1 + 1) 50 #[.int .i64 id, .int .i64 value, .bool false, .bool false, .int .i64 0] (0, 0) _ rfl ?hg Tryz.underlying50 rfl (by kernel_rfl)) rfl ?_
   case hg => first | exact blk_put (blk_put (blk_put (blk_put (blk_put BK3.out 0 _ rfl) 1 _ rfl) 2 _ rfl) 3 _ rfl) 4 _ rfl | exact BK3.out
   exact ⟨_, rfl, by first | exact set5_R HR3.out BK3.out (Nat.le_refl _) | exact HR3.out, by first | exact bq (bq (bq (bq (bq HB3.out (by omega)) (by omega)) (by omega)) (by omega)) (by omega) | exact HB3.out⟩
set_option maxHeartbeats 16000000 in
set_option maxRecDepth 100000 in
theorem plain.onAf (tag : ByteArray) (src steps at_ id value inn : Int) (active : Bool) (A3 : Option Addr) (c3 : Nat) (l : List S48) (w : World) (HALL : AllOk w A3 c3 l) (hv0 : smallV value) (hi0 : smallV inn) {val : Int} {cnt : Int} (hw : plain.At tag.toList src at_ id value inn val cnt) :
  Calls Tryz.prog 51 #[.agg #[.string tag, .int .i64 src, .int .i64 steps], .int .i64 at_, .agg #[.int .i64 id, .int .i64 value, .bool active, .bool false, .int .i64 inn], .slice A3 l.length c3] w (PlainPost w (id, value, false, false, 0, l.map (allV val cnt))) := by
 have hu1 := Tryz.underlying50
 have hu2 := Tryz.underlying26
 have HB_ : Aside0 (-9007199254740992 ≤ (val : Int) ∧ (val : Int) ≤ 9007199254740992) := ⟨by unfold smallV at hv0 hi0; cases hw <;> omega⟩
 clear hv0 hi0
 rcases hw with ⟨ht, h0⟩ | ⟨ht, h0⟩ | ⟨ht, h0, hs⟩ | ⟨ht, h0, hs⟩ | ⟨ht, h0⟩ | ⟨ht, h0⟩
 all_goals
  (first | have t_sMax : (tag.toList == ([109, 97, 120] : List UInt8)) = true := by rw [ht]; rfl | have t_sMax : (tag.toList == ([109, 97, 120] : List UInt8)) = false := by rw [ht]; rfl)
  (first | have t_sLabel : (tag.toList == ([108, 97, 98, 101, 108] : List UInt8)) = true := by rw [ht]; rfl | have t_sLabel : (tag.toList == ([108, 97, 98, 101, 108] : List UInt8)) = false := by rw [ht]; rfl)
  (first | have t_sSssp : (tag.toList == ([115, 115, 115, 112] : List UInt8)) = true := by rw [ht]; rfl | have t_sSssp : (tag.toList == ([115, 115, 115, 112] : List UInt8)) = false := by rw [ht]; rfl)
  (first | have t_sBfs : (tag.toList == ([98, 102, 115] : List UInt8)) = true := by rw [ht]; rfl | have t_sBfs : (tag.toList == ([98, 102, 115] : List UInt8)) = false := by rw [ht]; rfl)
  (first | have t_sDegree : (tag.toList == ([100, 101, 103, 114, 101, 101] : List UInt8)) = true := by rw [ht]; rfl | have t_sDegree : (tag.toList == ([100, 101, 103, 114, 101, 101] : List UInt8)) = false := by rw [ht]; rfl)
  (first | have t_sWalks : (tag.toList == ([119, 97, 108, 107, 115] : List UInt8)) = true := by rw [ht]; rfl | have t_sWalks : (tag.toList == ([119, 97, 108, 107, 115] : List UInt8)) = false := by rw [ht]; rfl)
  (first | have z : (at_ == 0) = true := beq_iff_eq.mpr h0 | have z : (at_ == 0) = false := beq_eq_false_iff_ne.mpr h0)
  (first | have e : (id == src) = true := beq_iff_eq.mpr hs | have e : (id == src) = false := beq_eq_false_iff_ne.mpr hs | skip)
  clear ht h0
  (try clear hs)
  (try clear hv)
  (try clear hc)
  go_enter Tryz.func51, Tryz.ntmps51
  have NA_ : Aside0 (w.heap.size + 1 + 1 + 1 ≠ w.heap.size + 1 + 1) := ⟨by omega⟩
  have NB_ : Aside0 (w.heap.size + 1 ≠ w.heap.size + 1 + 1) := ⟨by omega⟩
  go_wp2
  have FB := four_blocks (w := w) (o1 := .cells #[.string tag, .int .i64 src, .int .i64 steps] 26) (o2 := .cells #[.int .i64 id, .int .i64 value, .bool active, .bool false, .int .i64 inn] 50) (o3 := .cells #[.int .i64 0, .int .i64 0, .bool false, .bool false, .int .i64 0] 50) (o4 := .cells #[.int .i64 id, .int .i64 value, .bool false, .bool false, .int .i64 0] 50) (Below.refl _ _)
  generalize (((w.alloc (.cells #[.string tag, .int .i64 src, .int .i64 steps] 26)).alloc (.cells #[.int .i64 id, .int .i64 value, .bool active, .bool false, .int .i64 inn] 50)).alloc (.cells #[.int .i64 0, .int .i64 0, .bool false, .bool false, .int .i64 0] 50)).alloc (.cells #[.int .i64 id, .int .i64 value, .bool false, .bool false, .int .i64 0] 50) = W0 at FB ⊢
  obtain ⟨_, BX0, BR0, BY0, SZ0, HB0⟩ := FB
  obtain ⟨y0, y1, y2, y3, y4⟩ := c5z W0 BY0.out
  have y5 : W0.cell? ⟨w.heap.size + 1, 1, none⟩ = some (.int .i64 value) := (blk_cell BX0.out 1).trans rfl
  obtain ⟨r0, r1, r2, r3, r4, f0, f1, f2, f3, f4⟩ := q5z W0 BR0.out
  have HBd : Aside0 (Below w.heap.size w W0.drew) := ⟨below_drew1 HB0.out⟩
  go_region_held3 (fun w' => w'.cell? ⟨w.heap.size + 1 + 1 + 1, 0, none⟩ = some (.int .i64 id) ∧ w'.cell? ⟨w.heap.size + 1 + 1 + 1, 1, none⟩ = some (.int .i64 value) ∧ w'.cell? ⟨w.heap.size + 1 + 1 + 1, 2, none⟩ = some (.bool false) ∧ w'.cell? ⟨w.heap.size + 1 + 1 + 1, 3, none⟩ = some (.bool false) ∧ w'.cell? ⟨w.heap.size + 1 + 1 + 1, 4, none⟩ = some (.int .i64 0) ∧ w'.cell? ⟨w.heap.size + 1, 1, none⟩ = some (.int .i64 value)) (first | (with_reducible exact ⟨cell_drew_of y0, cell_drew_of y1, cell_drew_of y2, cell_drew_of y3, cell_drew_of y4, cell_drew_of y5⟩) | (with_reducible exact ⟨z0, z1, z2, z3, z4, z5⟩) | (with_reducible exact ⟨far5d y0 NA_.out, far5d y1 NA_.out, far5d y2 NA_.out, far5d y3 NA_.out, far5d y4 NA_.out, far5d y5 NB_.out⟩) | (with_reducible exact ⟨far5 y0 NA_.out, far5 y1 NA_.out, far5 y2 NA_.out, far5 y3 NA_.out, far5 y4 NA_.out, far5 y5 NB_.out⟩) | (with_reducible exact ⟨far5d z0 NA_.out, far5d z1 NA_.out, far5d z2 NA_.out, far5d z3 NA_.out, far5d z4 NA_.out, far5d z5 NB_.out⟩) | (with_reducible exact ⟨far5 z0 NA_.out, far5 z1 NA_.out, far5 z2 NA_.out, far5 z3 NA_.out, far5 z4 NA_.out, far5 z5 NB_.out⟩) | go_keep)
   (first
    | (go_at_call 74; refine (HALL.out _ _ _ HB_.out HBd.out).mono ?_; rintro x w3 ⟨v3, rfl, hR3, hb3⟩; obtain ⟨z0, z1, z2, z3, z4, z5, BK3, HB3, HS3⟩ := next_facts y0 y1 y2 y3 y4 y5 BR0 HB0 SZ0 hb3; obtain ⟨A9, c9, e9⟩ := Kd.R_slice hR3; subst e9; rw [List.length_map] at hR3; have HR3 := Aside0.mk (Kd.R_lower hR3 HS3.out); clear hR3 hb3; have s0 : w3.cell? ⟨w.heap.size + 1 + 1, 0, none⟩ = some (.int .i64 0) := (blk_cell BK3.out 0).trans rfl; have g0 := bz BK3.out 0; have s1 : w3.cell? ⟨w.heap.size + 1 + 1, 1, none⟩ = some (.int .i64 0) := (blk_cell BK3.out 1).trans rfl; have g1 := bz BK3.out 1; have s2 : w3.cell? ⟨w.heap.size + 1 + 1, 2, none⟩ = some (.bool false) := (blk_cell BK3.out 2).trans rfl; have g2 := bz BK3.out 2; have s3 : w3.cell? ⟨w.heap.size + 1 + 1, 3, none⟩ = some (.bool false) := (blk_cell BK3.out 3).trans rfl; have g3 := bz BK3.out 3; have s4 : w3.cell? ⟨w.heap.size + 1 + 1, 4, none⟩ = some (.int .i64 0) := (blk_cell BK3.out 4).trans rfl; have g4 := bz BK3.out 4)
    | (go_at_call 74; refine (HALL.out _ _ _ HB_.out (below_drew1 (bq (bq (bq (bq (bq HB0.out (by omega)) (by omega)) (by omega)) (by omega)) (by omega)))).mono ?_; rintro x w3 ⟨v3, rfl, hR3, hb3⟩; obtain ⟨z0, z1, z2, z3, z4, z5, BK3, HB3, HS3⟩ := next_facts (far5 y0 NA_.out) (far5 y1 NA_.out) (far5 y2 NA_.out) (far5 y3 NA_.out) (far5 y4 NA_.out) (far5 y5 NB_.out) ⟨(blk_put (blk_put (blk_put (blk_put (blk_put BR0.out 0 _ rfl) 1 _ rfl) 2 _ rfl) 3 _ rfl) 4 _ rfl)⟩ ⟨(bq (bq (bq (bq (bq HB0.out (by omega)) (by omega)) (by omega)) (by omega)) (by omega))⟩ ⟨by have := SZ0.out; simp; omega⟩ hb3; obtain ⟨A9, c9, e9⟩ := Kd.R_slice hR3; subst e9; rw [List.length_map] at hR3; have HR3 := Aside0.mk (Kd.R_lower hR3 HS3.out); clear hR3 hb3))
  all_goals
   go_wp2
   refine bodyPost_ret (results_ct rfl _ _ (w.heap.size + 1 + 1) 50 #[.int .i64 id, .int .i64 value, .bool false, .bool false, .int .i64 0] (0, 0) _ rfl ?hg Tryz.underlying50 rfl (by kernel_rfl)) rfl ?_
   case hg => first | exact blk_put (blk_put (blk_put (blk_put (blk_put BK3.out 0 _ rfl) 1 _ rfl) 2 _ rfl) 3 _ rfl) 4 _ rfl | exact BK3.out
   exact ⟨_, rfl, by first | exact set5_R HR3.out BK3.out (Nat.le_refl _) | exact HR3.out, by first | exact bq (bq (bq (bq (bq HB3.out (by omega)) (by omega)) (by omega)) (by omega)) (by omega) | exact HB3.out⟩
inductive plain.B (tag : List UInt8) (src at_ id value inn : Int) : Int → Prop
 | max (ht : tag = sMax) (h0 : ¬ at_ = 0) (hc : inn > value) : plain.B tag src at_ id value inn 0
 | label (ht : tag = sLabel) (h0 : ¬ at_ = 0) (hc : inn < value) : plain.B tag src at_ id value inn 0
 | sNew (ht : tag = sSssp) (h0 : ¬ at_ = 0) (hv : value < 0) : plain.B tag src at_ id value inn 2
 | bNew (ht : tag = sBfs) (h0 : ¬ at_ = 0) (hv : value < 0) : plain.B tag src at_ id value inn 1
 | sssp (ht : tag = sSssp) (h0 : ¬ at_ = 0) (hv : ¬ value < 0) (hc : inn < value) : plain.B tag src at_ id value inn 2
 | bfs (ht : tag = sBfs) (h0 : ¬ at_ = 0) (hv : ¬ value < 0) (hc : inn < value) : plain.B tag src at_ id value inn 1
set_option maxHeartbeats 16000000 in
set_option maxRecDepth 100000 in
theorem plain.onB (tag : ByteArray) (src steps at_ id value inn : Int) (active : Bool) (A3 : Option Addr) (c3 : Nat) (l : List S48) (w : World) (HALL : AllOk w A3 c3 l) (hv0 : smallV value) (hi0 : smallV inn) {cnt : Int} (hw : plain.B tag.toList src at_ id value inn cnt) :
  Calls Tryz.prog 51 #[.agg #[.string tag, .int .i64 src, .int .i64 steps], .int .i64 at_, .agg #[.int .i64 id, .int .i64 value, .bool active, .bool true, .int .i64 inn], .slice A3 l.length c3] w (PlainPost w (id, inn, false, false, 0, l.map (allV inn cnt))) := by
 have hu1 := Tryz.underlying50
 have hu2 := Tryz.underlying26
 have HB_ : Aside0 (-9007199254740992 ≤ (inn : Int) ∧ (inn : Int) ≤ 9007199254740992) := ⟨by unfold smallV at hv0 hi0; cases hw <;> omega⟩
 clear hv0 hi0
 rcases hw with ⟨ht, h0, hc⟩ | ⟨ht, h0, hc⟩ | ⟨ht, h0, hv⟩ | ⟨ht, h0, hv⟩ | ⟨ht, h0, hv, hc⟩ | ⟨ht, h0, hv, hc⟩
 all_goals
  (first | have t_sMax : (tag.toList == ([109, 97, 120] : List UInt8)) = true := by rw [ht]; rfl | have t_sMax : (tag.toList == ([109, 97, 120] : List UInt8)) = false := by rw [ht]; rfl)
  (first | have t_sLabel : (tag.toList == ([108, 97, 98, 101, 108] : List UInt8)) = true := by rw [ht]; rfl | have t_sLabel : (tag.toList == ([108, 97, 98, 101, 108] : List UInt8)) = false := by rw [ht]; rfl)
  (first | have t_sSssp : (tag.toList == ([115, 115, 115, 112] : List UInt8)) = true := by rw [ht]; rfl | have t_sSssp : (tag.toList == ([115, 115, 115, 112] : List UInt8)) = false := by rw [ht]; rfl)
  (first | have t_sBfs : (tag.toList == ([98, 102, 115] : List UInt8)) = true := by rw [ht]; rfl | have t_sBfs : (tag.toList == ([98, 102, 115] : List UInt8)) = false := by rw [ht]; rfl)
  (first | have t_sDegree : (tag.toList == ([100, 101, 103, 114, 101, 101] : List UInt8)) = true := by rw [ht]; rfl | have t_sDegree : (tag.toList == ([100, 101, 103, 114, 101, 101] : List UInt8)) = false := by rw [ht]; rfl)
  (first | have t_sWalks : (tag.toList == ([119, 97, 108, 107, 115] : List UInt8)) = true := by rw [ht]; rfl | have t_sWalks : (tag.toList == ([119, 97, 108, 107, 115] : List UInt8)) = false := by rw [ht]; rfl)
  (first | have z : (at_ == 0) = true := beq_iff_eq.mpr h0 | have z : (at_ == 0) = false := beq_eq_false_iff_ne.mpr h0)
  (first | have c0 : decide (value < 0) = true := decide_eq_true hv | have c0 : decide (value < 0) = false := decide_eq_false hv | skip)
  (first | have c : decide (value < inn) = true := decide_eq_true hc | have c : decide (inn < value) = true := decide_eq_true hc | skip)
  clear ht h0
  (try clear hs)
  (try clear hv)
  (try clear hc)
  go_enter Tryz.func51, Tryz.ntmps51
  have NA_ : Aside0 (w.heap.size + 1 + 1 + 1 ≠ w.heap.size + 1 + 1) := ⟨by omega⟩
  have NB_ : Aside0 (w.heap.size + 1 ≠ w.heap.size + 1 + 1) := ⟨by omega⟩
  go_wp2
  have FB := four_blocks (w := w) (o1 := .cells #[.string tag, .int .i64 src, .int .i64 steps] 26) (o2 := .cells #[.int .i64 id, .int .i64 value, .bool active, .bool true, .int .i64 inn] 50) (o3 := .cells #[.int .i64 0, .int .i64 0, .bool false, .bool false, .int .i64 0] 50) (o4 := .cells #[.int .i64 id, .int .i64 inn, .bool false, .bool false, .int .i64 0] 50) (Below.refl _ _)
  generalize (((w.alloc (.cells #[.string tag, .int .i64 src, .int .i64 steps] 26)).alloc (.cells #[.int .i64 id, .int .i64 value, .bool active, .bool true, .int .i64 inn] 50)).alloc (.cells #[.int .i64 0, .int .i64 0, .bool false, .bool false, .int .i64 0] 50)).alloc (.cells #[.int .i64 id, .int .i64 inn, .bool false, .bool false, .int .i64 0] 50) = W0 at FB ⊢
  obtain ⟨_, BX0, BR0, BY0, SZ0, HB0⟩ := FB
  obtain ⟨y0, y1, y2, y3, y4⟩ := c5z W0 BY0.out
  have y5 : W0.cell? ⟨w.heap.size + 1, 1, none⟩ = some (.int .i64 value) := (blk_cell BX0.out 1).trans rfl
  obtain ⟨r0, r1, r2, r3, r4, f0, f1, f2, f3, f4⟩ := q5z W0 BR0.out
  have HBd : Aside0 (Below w.heap.size w W0.drew) := ⟨below_drew1 HB0.out⟩
  go_region_held3 (fun w' => w'.cell? ⟨w.heap.size + 1 + 1 + 1, 0, none⟩ = some (.int .i64 id) ∧ w'.cell? ⟨w.heap.size + 1 + 1 + 1, 1, none⟩ = some (.int .i64 inn) ∧ w'.cell? ⟨w.heap.size + 1 + 1 + 1, 2, none⟩ = some (.bool false) ∧ w'.cell? ⟨w.heap.size + 1 + 1 + 1, 3, none⟩ = some (.bool false) ∧ w'.cell? ⟨w.heap.size + 1 + 1 + 1, 4, none⟩ = some (.int .i64 0) ∧ w'.cell? ⟨w.heap.size + 1, 1, none⟩ = some (.int .i64 value)) (first | (with_reducible exact ⟨cell_drew_of y0, cell_drew_of y1, cell_drew_of y2, cell_drew_of y3, cell_drew_of y4, cell_drew_of y5⟩) | (with_reducible exact ⟨z0, z1, z2, z3, z4, z5⟩) | (with_reducible exact ⟨far5d y0 NA_.out, far5d y1 NA_.out, far5d y2 NA_.out, far5d y3 NA_.out, far5d y4 NA_.out, far5d y5 NB_.out⟩) | (with_reducible exact ⟨far5 y0 NA_.out, far5 y1 NA_.out, far5 y2 NA_.out, far5 y3 NA_.out, far5 y4 NA_.out, far5 y5 NB_.out⟩) | (with_reducible exact ⟨far5d z0 NA_.out, far5d z1 NA_.out, far5d z2 NA_.out, far5d z3 NA_.out, far5d z4 NA_.out, far5d z5 NB_.out⟩) | (with_reducible exact ⟨far5 z0 NA_.out, far5 z1 NA_.out, far5 z2 NA_.out, far5 z3 NA_.out, far5 z4 NA_.out, far5 z5 NB_.out⟩) | go_keep)
   (first
    | (go_at_call 74; refine (HALL.out _ _ _ HB_.out HBd.out).mono ?_; rintro x w3 ⟨v3, rfl, hR3, hb3⟩; obtain ⟨z0, z1, z2, z3, z4, z5, BK3, HB3, HS3⟩ := next_facts y0 y1 y2 y3 y4 y5 BR0 HB0 SZ0 hb3; obtain ⟨A9, c9, e9⟩ := Kd.R_slice hR3; subst e9; rw [List.length_map] at hR3; have HR3 := Aside0.mk (Kd.R_lower hR3 HS3.out); clear hR3 hb3; have s0 : w3.cell? ⟨w.heap.size + 1 + 1, 0, none⟩ = some (.int .i64 0) := (blk_cell BK3.out 0).trans rfl; have g0 := bz BK3.out 0; have s1 : w3.cell? ⟨w.heap.size + 1 + 1, 1, none⟩ = some (.int .i64 0) := (blk_cell BK3.out 1).trans rfl; have g1 := bz BK3.out 1; have s2 : w3.cell? ⟨w.heap.size + 1 + 1, 2, none⟩ = some (.bool false) := (blk_cell BK3.out 2).trans rfl; have g2 := bz BK3.out 2; have s3 : w3.cell? ⟨w.heap.size + 1 + 1, 3, none⟩ = some (.bool false) := (blk_cell BK3.out 3).trans rfl; have g3 := bz BK3.out 3; have s4 : w3.cell? ⟨w.heap.size + 1 + 1, 4, none⟩ = some (.int .i64 0) := (blk_cell BK3.out 4).trans rfl; have g4 := bz BK3.out 4)
    | (go_at_call 74; refine (HALL.out _ _ _ HB_.out (below_drew1 (bq (bq (bq (bq (bq HB0.out (by omega)) (by omega)) (by omega)) (by omega)) (by omega)))).mono ?_; rintro x w3 ⟨v3, rfl, hR3, hb3⟩; obtain ⟨z0, z1, z2, z3, z4, z5, BK3, HB3, HS3⟩ := next_facts (far5 y0 NA_.out) (far5 y1 NA_.out) (far5 y2 NA_.out) (far5 y3 NA_.out) (far5 y4 NA_.out) (far5 y5 NB_.out) ⟨(blk_put (blk_put (blk_put (blk_put (blk_put BR0.out 0 _ rfl) 1 _ rfl) 2 _ rfl) 3 _ rfl) 4 _ rfl)⟩ ⟨(bq (bq (bq (bq (bq HB0.out (by omega)) (by omega)) (by omega)) (by omega)) (by omega))⟩ ⟨by have := SZ0.out; simp; omega⟩ hb3; obtain ⟨A9, c9, e9⟩ := Kd.R_slice hR3; subst e9; rw [List.length_map] at hR3; have HR3 := Aside0.mk (Kd.R_lower hR3 HS3.out); clear hR3 hb3))
  all_goals
   go_wp2
   refine bodyPost_ret (results_ct rfl _ _ (w.heap.size + 1 + 1) 50 #[.int .i64 id, .int .i64 inn, .bool false, .bool false, .int .i64 0] (0, 0) _ rfl ?hg Tryz.underlying50 rfl (by kernel_rfl)) rfl ?_
   case hg => first | exact blk_put (blk_put (blk_put (blk_put (blk_put BK3.out 0 _ rfl) 1 _ rfl) 2 _ rfl) 3 _ rfl) 4 _ rfl | exact BK3.out
   exact ⟨_, rfl, by first | exact set5_R HR3.out BK3.out (Nat.le_refl _) | exact HR3.out, by first | exact bq (bq (bq (bq (bq HB3.out (by omega)) (by omega)) (by omega)) (by omega)) (by omega) | exact HB3.out⟩
inductive plain.N (tag : List UInt8) (src at_ id value inn : Int) : Bool → Prop
 | max (ht : tag = sMax) (h0 : ¬ at_ = 0) (hc : ¬ inn > value) : plain.N tag src at_ id value inn true
 | max0 (ht : tag = sMax) (h0 : ¬ at_ = 0) : plain.N tag src at_ id value inn false
 | label (ht : tag = sLabel) (h0 : ¬ at_ = 0) (hc : ¬ inn < value) : plain.N tag src at_ id value inn true
 | label0 (ht : tag = sLabel) (h0 : ¬ at_ = 0) : plain.N tag src at_ id value inn false
 | ssspT (ht : tag = sSssp) (h0 : at_ = 0) (hs : ¬ id = src) : plain.N tag src at_ id value inn true
 | ssspF (ht : tag = sSssp) (h0 : at_ = 0) (hs : ¬ id = src) : plain.N tag src at_ id value inn false
 | sssp (ht : tag = sSssp) (h0 : ¬ at_ = 0) (hv : ¬ value < 0) (hc : ¬ inn < value) : plain.N tag src at_ id value inn true
 | sssp0 (ht : tag = sSssp) (h0 : ¬ at_ = 0) : plain.N tag src at_ id value inn false
 | bfsT (ht : tag = sBfs) (h0 : at_ = 0) (hs : ¬ id = src) : plain.N tag src at_ id value inn true
 | bfsF (ht : tag = sBfs) (h0 : at_ = 0) (hs : ¬ id = src) : plain.N tag src at_ id value inn false
 | bfs (ht : tag = sBfs) (h0 : ¬ at_ = 0) (hv : ¬ value < 0) (hc : ¬ inn < value) : plain.N tag src at_ id value inn true
 | bfs0 (ht : tag = sBfs) (h0 : ¬ at_ = 0) : plain.N tag src at_ id value inn false
 | degree0 (ht : tag = sDegree) (h0 : ¬ at_ = 0) : plain.N tag src at_ id value inn false
 | walks0 (ht : tag = sWalks) (h0 : ¬ at_ = 0) : plain.N tag src at_ id value inn false
set_option maxHeartbeats 16000000 in
set_option maxRecDepth 100000 in
theorem plain.onN (tag : ByteArray) (src steps at_ id value inn : Int) (active : Bool) (A3 : Option Addr) (c3 : Nat) (l : List S48) (w : World) (HALL : AllOk w A3 c3 l) (hv0 : smallV value) (hi0 : smallV inn) {has : Bool} (hw : plain.N tag.toList src at_ id value inn has) :
  Calls Tryz.prog 51 #[.agg #[.string tag, .int .i64 src, .int .i64 steps], .int .i64 at_, .agg #[.int .i64 id, .int .i64 value, .bool active, .bool has, .int .i64 inn], .slice A3 l.length c3] w (PlainPost w (id, value, false, false, 0, [])) := by
 have hu1 := Tryz.underlying50
 have hu2 := Tryz.underlying26
 clear hv0 hi0
 rcases hw with ⟨ht, h0, hc⟩ | ⟨ht, h0⟩ | ⟨ht, h0, hc⟩ | ⟨ht, h0⟩ | ⟨ht, h0, hs⟩ | ⟨ht, h0, hs⟩ | ⟨ht, h0, hv, hc⟩ | ⟨ht, h0⟩ | ⟨ht, h0, hs⟩ | ⟨ht, h0, hs⟩ | ⟨ht, h0, hv, hc⟩ | ⟨ht, h0⟩ | ⟨ht, h0⟩ | ⟨ht, h0⟩
 all_goals
  (first | have t_sMax : (tag.toList == ([109, 97, 120] : List UInt8)) = true := by rw [ht]; rfl | have t_sMax : (tag.toList == ([109, 97, 120] : List UInt8)) = false := by rw [ht]; rfl)
  (first | have t_sLabel : (tag.toList == ([108, 97, 98, 101, 108] : List UInt8)) = true := by rw [ht]; rfl | have t_sLabel : (tag.toList == ([108, 97, 98, 101, 108] : List UInt8)) = false := by rw [ht]; rfl)
  (first | have t_sSssp : (tag.toList == ([115, 115, 115, 112] : List UInt8)) = true := by rw [ht]; rfl | have t_sSssp : (tag.toList == ([115, 115, 115, 112] : List UInt8)) = false := by rw [ht]; rfl)
  (first | have t_sBfs : (tag.toList == ([98, 102, 115] : List UInt8)) = true := by rw [ht]; rfl | have t_sBfs : (tag.toList == ([98, 102, 115] : List UInt8)) = false := by rw [ht]; rfl)
  (first | have t_sDegree : (tag.toList == ([100, 101, 103, 114, 101, 101] : List UInt8)) = true := by rw [ht]; rfl | have t_sDegree : (tag.toList == ([100, 101, 103, 114, 101, 101] : List UInt8)) = false := by rw [ht]; rfl)
  (first | have t_sWalks : (tag.toList == ([119, 97, 108, 107, 115] : List UInt8)) = true := by rw [ht]; rfl | have t_sWalks : (tag.toList == ([119, 97, 108, 107, 115] : List UInt8)) = false := by rw [ht]; rfl)
  (first | have z : (at_ == 0) = true := beq_iff_eq.mpr h0 | have z : (at_ == 0) = false := beq_eq_false_iff_ne.mpr h0)
  (first | have e : (id == src) = true := beq_iff_eq.mpr hs | have e : (id == src) = false := beq_eq_false_iff_ne.mpr hs | skip)
  (first | have c0 : decide (value < 0) = true := decide_eq_true hv | have c0 : decide (value < 0) = false := decide_eq_false hv | skip)
  (first | have c : decide (value < inn) = false := decide_eq_false hc | have c : decide (inn < value) = false := decide_eq_false hc | skip)
  clear ht h0
  (try clear hs)
  (try clear hv)
  (try clear hc)
  go_enter Tryz.func51, Tryz.ntmps51
  go_wp2
  refine bodyPost_ret (results_ct rfl _ _ (w.heap.size + 1 + 1) 50 #[.int .i64 id, .int .i64 value, .bool false, .bool false, .int .i64 0] (0, 0) _ rfl ?hg Tryz.underlying50 rfl (by kernel_rfl)) rfl ?_
  case hg => exact (four_blocks (Below.refl _ _)).2.2.1.out
  exact ⟨_, rfl, Kd.R_nil _ _ _ _ _, (four_blocks (Below.refl _ _)).2.2.2.2.2.out⟩
set_option maxHeartbeats 16000000 in
set_option maxRecDepth 100000 in
theorem plain.sDegree_yes (tag : ByteArray) (src steps at_ id value inn : Int) (active : Bool) (A3 : Option Addr) (c3 : Nat) (l : List S48) (w : World) (HALL : AllOk w A3 c3 l) (hv0 : smallV value) (hi0 : smallV inn) (ht : tag.toList = sDegree) (h0 : ¬ at_ = 0) :
  Calls Tryz.prog 51 #[.agg #[.string tag, .int .i64 src, .int .i64 steps], .int .i64 at_, .agg #[.int .i64 id, .int .i64 value, .bool active, .bool true, .int .i64 inn], .slice A3 l.length c3] w (PlainPost w (id, inn, false, false, 0, [])) := by
 have hu1 := Tryz.underlying50
 have hu2 := Tryz.underlying26
 clear hv0 hi0
 have t_sMax : (tag.toList == ([109, 97, 120] : List UInt8)) = false := by rw [ht]; rfl
 have t_sLabel : (tag.toList == ([108, 97, 98, 101, 108] : List UInt8)) = false := by rw [ht]; rfl
 have t_sSssp : (tag.toList == ([115, 115, 115, 112] : List UInt8)) = false := by rw [ht]; rfl
 have t_sBfs : (tag.toList == ([98, 102, 115] : List UInt8)) = false := by rw [ht]; rfl
 have t_sDegree : (tag.toList == ([100, 101, 103, 114, 101, 101] : List UInt8)) = true := by rw [ht]; rfl
 have t_sWalks : (tag.toList == ([119, 97, 108, 107, 115] : List UInt8)) = false := by rw [ht]; rfl
 have z : (at_ == 0) = false := beq_eq_false_iff_ne.mpr h0
 clear ht h0
 go_enter Tryz.func51, Tryz.ntmps51
 go_wp2
 refine bodyPost_ret (results_ct rfl _ _ (w.heap.size + 1 + 1) 50 #[.int .i64 id, .int .i64 inn, .bool false, .bool false, .int .i64 0] (0, 0) _ rfl ?hg Tryz.underlying50 rfl (by kernel_rfl)) rfl ?_
 case hg => exact (four_blocks (Below.refl _ _)).2.2.1.out
 exact ⟨_, rfl, Kd.R_nil _ _ _ _ _, (four_blocks (Below.refl _ _)).2.2.2.2.2.out⟩
set_option maxHeartbeats 16000000 in
set_option maxRecDepth 100000 in
theorem plain.sWalks_yes (tag : ByteArray) (src steps at_ id value inn : Int) (active : Bool) (A3 : Option Addr) (c3 : Nat) (l : List S48) (w : World) (HALL : AllOk w A3 c3 l) (hv0 : smallV value) (hi0 : smallV inn) (ht : tag.toList = sWalks) (h0 : ¬ at_ = 0) (hv : smallV value) (hi : smallV inn) :
  Calls Tryz.prog 51 #[.agg #[.string tag, .int .i64 src, .int .i64 steps], .int .i64 at_, .agg #[.int .i64 id, .int .i64 value, .bool active, .bool true, .int .i64 inn], .slice A3 l.length c3] w (PlainPost w (id, value + inn, false, false, 0, l.map (allV inn 0))) := by
 have hu1 := Tryz.underlying50
 have hu2 := Tryz.underlying26
 have HB_ : Aside0 (-9007199254740992 ≤ (inn : Int) ∧ (inn : Int) ≤ 9007199254740992) := ⟨by unfold smallV at hv0 hi0; omega⟩
 clear hv0 hi0
 have t_sMax : (tag.toList == ([109, 97, 120] : List UInt8)) = false := by rw [ht]; rfl
 have t_sLabel : (tag.toList == ([108, 97, 98, 101, 108] : List UInt8)) = false := by rw [ht]; rfl
 have t_sSssp : (tag.toList == ([115, 115, 115, 112] : List UInt8)) = false := by rw [ht]; rfl
 have t_sBfs : (tag.toList == ([98, 102, 115] : List UInt8)) = false := by rw [ht]; rfl
 have t_sDegree : (tag.toList == ([100, 101, 103, 114, 101, 101] : List UInt8)) = false := by rw [ht]; rfl
 have t_sWalks : (tag.toList == ([119, 97, 108, 107, 115] : List UInt8)) = true := by rw [ht]; rfl
 have z : (at_ == 0) = false := beq_eq_false_iff_ne.mpr h0
 unfold smallV at hv hi
 have hw : wrap64 (value + inn) = value + inn := by unfold wrap64; omega
 clear ht h0 hv hi
 go_enter Tryz.func51, Tryz.ntmps51
 have NA_ : Aside0 (w.heap.size + 1 + 1 + 1 ≠ w.heap.size + 1 + 1) := ⟨by omega⟩
 have NB_ : Aside0 (w.heap.size + 1 ≠ w.heap.size + 1 + 1) := ⟨by omega⟩
 go_wp2
 have FB := four_blocks (w := w) (o1 := .cells #[.string tag, .int .i64 src, .int .i64 steps] 26) (o2 := .cells #[.int .i64 id, .int .i64 value, .bool active, .bool true, .int .i64 inn] 50) (o3 := .cells #[.int .i64 0, .int .i64 0, .bool false, .bool false, .int .i64 0] 50) (o4 := .cells #[.int .i64 id, .int .i64 (value + inn), .bool false, .bool false, .int .i64 0] 50) (Below.refl _ _)
 generalize (((w.alloc (.cells #[.string tag, .int .i64 src, .int .i64 steps] 26)).alloc (.cells #[.int .i64 id, .int .i64 value, .bool active, .bool true, .int .i64 inn] 50)).alloc (.cells #[.int .i64 0, .int .i64 0, .bool false, .bool false, .int .i64 0] 50)).alloc (.cells #[.int .i64 id, .int .i64 (value + inn), .bool false, .bool false, .int .i64 0] 50) = W0 at FB ⊢
 obtain ⟨_, BX0, BR0, BY0, SZ0, HB0⟩ := FB
 obtain ⟨y0, y1, y2, y3, y4⟩ := c5z W0 BY0.out
 have y5 : W0.cell? ⟨w.heap.size + 1, 1, none⟩ = some (.int .i64 value) := (blk_cell BX0.out 1).trans rfl
 obtain ⟨r0, r1, r2, r3, r4, f0, f1, f2, f3, f4⟩ := q5z W0 BR0.out
 have HBd : Aside0 (Below w.heap.size w W0.drew) := ⟨below_drew1 HB0.out⟩
 go_region_held3 (fun w' => w'.cell? ⟨w.heap.size + 1 + 1 + 1, 0, none⟩ = some (.int .i64 id) ∧ w'.cell? ⟨w.heap.size + 1 + 1 + 1, 1, none⟩ = some (.int .i64 (value + inn)) ∧ w'.cell? ⟨w.heap.size + 1 + 1 + 1, 2, none⟩ = some (.bool false) ∧ w'.cell? ⟨w.heap.size + 1 + 1 + 1, 3, none⟩ = some (.bool false) ∧ w'.cell? ⟨w.heap.size + 1 + 1 + 1, 4, none⟩ = some (.int .i64 0) ∧ w'.cell? ⟨w.heap.size + 1, 1, none⟩ = some (.int .i64 value)) (first | (with_reducible exact ⟨cell_drew_of y0, cell_drew_of y1, cell_drew_of y2, cell_drew_of y3, cell_drew_of y4, cell_drew_of y5⟩) | (with_reducible exact ⟨z0, z1, z2, z3, z4, z5⟩) | (with_reducible exact ⟨far5d y0 NA_.out, far5d y1 NA_.out, far5d y2 NA_.out, far5d y3 NA_.out, far5d y4 NA_.out, far5d y5 NB_.out⟩) | (with_reducible exact ⟨far5 y0 NA_.out, far5 y1 NA_.out, far5 y2 NA_.out, far5 y3 NA_.out, far5 y4 NA_.out, far5 y5 NB_.out⟩) | (with_reducible exact ⟨far5d z0 NA_.out, far5d z1 NA_.out, far5d z2 NA_.out, far5d z3 NA_.out, far5d z4 NA_.out, far5d z5 NB_.out⟩) | (with_reducible exact ⟨far5 z0 NA_.out, far5 z1 NA_.out, far5 z2 NA_.out, far5 z3 NA_.out, far5 z4 NA_.out, far5 z5 NB_.out⟩) | go_keep)
  (first
   | (go_at_call 74; refine (HALL.out inn 0 _ HB_.out HBd.out).mono ?_; rintro x w3 ⟨v3, rfl, hR3, hb3⟩; obtain ⟨z0, z1, z2, z3, z4, z5, BK3, HB3, HS3⟩ := next_facts y0 y1 y2 y3 y4 y5 BR0 HB0 SZ0 hb3; obtain ⟨A9, c9, e9⟩ := Kd.R_slice hR3; subst e9; rw [List.length_map] at hR3; have HR3 := Aside0.mk (Kd.R_lower hR3 HS3.out); clear hR3 hb3; have s0 : w3.cell? ⟨w.heap.size + 1 + 1, 0, none⟩ = some (.int .i64 0) := (blk_cell BK3.out 0).trans rfl; have g0 := bz BK3.out 0; have s1 : w3.cell? ⟨w.heap.size + 1 + 1, 1, none⟩ = some (.int .i64 0) := (blk_cell BK3.out 1).trans rfl; have g1 := bz BK3.out 1; have s2 : w3.cell? ⟨w.heap.size + 1 + 1, 2, none⟩ = some (.bool false) := (blk_cell BK3.out 2).trans rfl; have g2 := bz BK3.out 2; have s3 : w3.cell? ⟨w.heap.size + 1 + 1, 3, none⟩ = some (.bool false) := (blk_cell BK3.out 3).trans rfl; have g3 := bz BK3.out 3; have s4 : w3.cell? ⟨w.heap.size + 1 + 1, 4, none⟩ = some (.int .i64 0) := (blk_cell BK3.out 4).trans rfl; have g4 := bz BK3.out 4)
   | (go_at_call 74; refine (HALL.out inn 0 _ HB_.out (below_drew1 (bq (bq (bq (bq (bq HB0.out (by omega)) (by omega)) (by omega)) (by omega)) (by omega)))).mono ?_; rintro x w3 ⟨v3, rfl, hR3, hb3⟩; obtain ⟨z0, z1, z2, z3, z4, z5, BK3, HB3, HS3⟩ := next_facts (far5 y0 NA_.out) (far5 y1 NA_.out) (far5 y2 NA_.out) (far5 y3 NA_.out) (far5 y4 NA_.out) (far5 y5 NB_.out) ⟨(blk_put (blk_put (blk_put (blk_put (blk_put BR0.out 0 _ rfl) 1 _ rfl) 2 _ rfl) 3 _ rfl) 4 _ rfl)⟩ ⟨(bq (bq (bq (bq (bq HB0.out (by omega)) (by omega)) (by omega)) (by omega)) (by omega))⟩ ⟨by have := SZ0.out; simp; omega⟩ hb3; obtain ⟨A9, c9, e9⟩ := Kd.R_slice hR3; subst e9; rw [List.length_map] at hR3; have HR3 := Aside0.mk (Kd.R_lower hR3 HS3.out); clear hR3 hb3))
 all_goals
  go_wp2
  refine bodyPost_ret (results_ct rfl _ _ (w.heap.size + 1 + 1) 50 #[.int .i64 id, .int .i64 (value + inn), .bool false, .bool false, .int .i64 0] (0, 0) _ rfl ?hg Tryz.underlying50 rfl (by kernel_rfl)) rfl ?_
  case hg => first | exact blk_put (blk_put (blk_put (blk_put (blk_put BK3.out 0 _ rfl) 1 _ rfl) 2 _ rfl) 3 _ rfl) 4 _ rfl | exact BK3.out
  exact ⟨_, rfl, by first | exact set5_R HR3.out BK3.out (Nat.le_refl _) | exact HR3.out, by first | exact bq (bq (bq (bq (bq HB3.out (by omega)) (by omega)) (by omega)) (by omega)) (by omega) | exact HB3.out⟩
set_option maxHeartbeats 16000000 in
set_option maxRecDepth 100000 in
theorem plain.rank_at_true_last (tag : ByteArray) (src steps at_ id value inn : Int) (active : Bool) (A3 : Option Addr) (c3 : Nat) (l : List S48) (w : World) (HALL : AllOk w A3 c3 l) (hv0 : smallV value) (hi0 : smallV inn) (n1 : ¬ tag.toList = sMax) (n2 : ¬ tag.toList = sLabel) (n3 : ¬ tag.toList = sSssp) (n4 : ¬ tag.toList = sBfs) (n5 : ¬ tag.toList = sDegree) (n6 : ¬ tag.toList = sWalks) (h0 : ¬ 0 < at_) (hs : 1 ≤ steps ∧ steps ≤ 1000000) (hl : at_ = steps - 1) :
  Calls Tryz.prog 51 #[.agg #[.string tag, .int .i64 src, .int .i64 steps], .int .i64 at_, .agg #[.int .i64 id, .int .i64 value, .bool active, .bool true, .int .i64 inn], .slice A3 l.length c3] w (PlainPost w (id, value, false, false, 0, [])) := by
 have hu1 := Tryz.underlying50
 have hu2 := Tryz.underlying26
 have t_sMax : (tag.toList == ([109, 97, 120] : List UInt8)) = false := beq_eq_false_iff_ne.mpr n1
 have t_sLabel : (tag.toList == ([108, 97, 98, 101, 108] : List UInt8)) = false := beq_eq_false_iff_ne.mpr n2
 have t_sSssp : (tag.toList == ([115, 115, 115, 112] : List UInt8)) = false := beq_eq_false_iff_ne.mpr n3
 have t_sBfs : (tag.toList == ([98, 102, 115] : List UInt8)) = false := beq_eq_false_iff_ne.mpr n4
 have t_sDegree : (tag.toList == ([100, 101, 103, 114, 101, 101] : List UInt8)) = false := beq_eq_false_iff_ne.mpr n5
 have t_sWalks : (tag.toList == ([119, 97, 108, 107, 115] : List UInt8)) = false := beq_eq_false_iff_ne.mpr n6
 clear n1 n2 n3 n4 n5 n6
 unfold smallV at hv0 hi0
 have hm3 : wrap64 (steps - 1) = steps - 1 := by unfold wrap64; omega
 have hl2 : (at_ == steps - 1) = true := beq_iff_eq.mpr hl
 clear hl
 clear hv0 hi0 hs
 have hz : decide (0 < at_) = false := decide_eq_false h0
 clear h0
 go_enter Tryz.func51, Tryz.ntmps51
 go_wp2
 refine bodyPost_ret (results_ct rfl _ _ (w.heap.size + 1 + 1) 50 #[.int .i64 id, .int .i64 value, .bool false, .bool false, .int .i64 0] (0, 0) _ rfl ?hg Tryz.underlying50 rfl (by kernel_rfl)) rfl ?_
 case hg => exact (four_blocks (Below.refl _ _)).2.2.1.out
 exact ⟨_, rfl, Kd.R_nil _ _ _ _ _, (four_blocks (Below.refl _ _)).2.2.2.2.2.out⟩
set_option maxHeartbeats 16000000 in
set_option maxRecDepth 100000 in
theorem plain.rank_at_true_none (tag : ByteArray) (src steps at_ id value inn : Int) (active : Bool) (A3 : Option Addr) (c3 : Nat) (l : List S48) (w : World) (HALL : AllOk w A3 c3 l) (hv0 : smallV value) (hi0 : smallV inn) (n1 : ¬ tag.toList = sMax) (n2 : ¬ tag.toList = sLabel) (n3 : ¬ tag.toList = sSssp) (n4 : ¬ tag.toList = sBfs) (n5 : ¬ tag.toList = sDegree) (n6 : ¬ tag.toList = sWalks) (h0 : ¬ 0 < at_) (hs : 1 ≤ steps ∧ steps ≤ 1000000) (hl : ¬ at_ = steps - 1) (he : l.length = 0) :
  Calls Tryz.prog 51 #[.agg #[.string tag, .int .i64 src, .int .i64 steps], .int .i64 at_, .agg #[.int .i64 id, .int .i64 value, .bool active, .bool true, .int .i64 inn], .slice A3 l.length c3] w (PlainPost w (id, value, true, false, 0, [])) := by
 have hu1 := Tryz.underlying50
 have hu2 := Tryz.underlying26
 have t_sMax : (tag.toList == ([109, 97, 120] : List UInt8)) = false := beq_eq_false_iff_ne.mpr n1
 have t_sLabel : (tag.toList == ([108, 97, 98, 101, 108] : List UInt8)) = false := beq_eq_false_iff_ne.mpr n2
 have t_sSssp : (tag.toList == ([115, 115, 115, 112] : List UInt8)) = false := beq_eq_false_iff_ne.mpr n3
 have t_sBfs : (tag.toList == ([98, 102, 115] : List UInt8)) = false := beq_eq_false_iff_ne.mpr n4
 have t_sDegree : (tag.toList == ([100, 101, 103, 114, 101, 101] : List UInt8)) = false := beq_eq_false_iff_ne.mpr n5
 have t_sWalks : (tag.toList == ([119, 97, 108, 107, 115] : List UInt8)) = false := beq_eq_false_iff_ne.mpr n6
 clear n1 n2 n3 n4 n5 n6
 unfold smallV at hv0 hi0
 have hm3 : wrap64 (steps - 1) = steps - 1 := by unfold wrap64; omega
 have hl2 : (at_ == steps - 1) = false := beq_eq_false_iff_ne.mpr hl
 have he2 : ((l.length : Int) == 0) = true := beq_iff_eq.mpr (by omega)
 have he3 : (l.length == 0) = true := beq_iff_eq.mpr he
 have he4 : l.isEmpty = true := by rw [List.isEmpty_iff_length_eq_zero]; exact he
 have he5 : l = [] := List.length_eq_zero_iff.mp he
 subst he5
 clear hl he
 clear hv0 hi0 hs
 have hz : decide (0 < at_) = false := decide_eq_false h0
 clear h0
 go_enter Tryz.func51, Tryz.ntmps51
 go_wp2
 refine bodyPost_ret (results_ct rfl _ _ (w.heap.size + 1 + 1) 50 #[.int .i64 id, .int .i64 value, .bool true, .bool false, .int .i64 0] (0, 0) _ rfl ?hg Tryz.underlying50 rfl (by kernel_rfl)) rfl ?_
 case hg => exact (four_blocks (Below.refl _ _)).2.2.1.out
 exact ⟨_, rfl, Kd.R_nil _ _ _ _ _, (four_blocks (Below.refl _ _)).2.2.2.2.2.out⟩
set_option maxHeartbeats 16000000 in
set_option maxRecDepth 100000 in
theorem plain.rank_at_true_all (tag : ByteArray) (src steps at_ id value inn : Int) (active : Bool) (A3 : Option Addr) (c3 : Nat) (l : List S48) (w : World) (HALL : AllOk w A3 c3 l) (hv0 : smallV value) (hi0 : smallV inn) (n1 : ¬ tag.toList = sMax) (n2 : ¬ tag.toList = sLabel) (n3 : ¬ tag.toList = sSssp) (n4 : ¬ tag.toList = sBfs) (n5 : ¬ tag.toList = sDegree) (n6 : ¬ tag.toList = sWalks) (h0 : ¬ 0 < at_) (hs : 1 ≤ steps ∧ steps ≤ 1000000) (hl : ¬ at_ = steps - 1) (he : ¬ l.length = 0) (hlen : l.length ≤ 1000000) :
  Calls Tryz.prog 51 #[.agg #[.string tag, .int .i64 src, .int .i64 steps], .int .i64 at_, .agg #[.int .i64 id, .int .i64 value, .bool active, .bool true, .int .i64 inn], .slice A3 l.length c3] w (PlainPost w (id, value, true, false, 0, l.map (allV (downV (value) (l.length : Int)) 0))) := by
 have hu1 := Tryz.underlying50
 have hu2 := Tryz.underlying26
 have t_sMax : (tag.toList == ([109, 97, 120] : List UInt8)) = false := beq_eq_false_iff_ne.mpr n1
 have t_sLabel : (tag.toList == ([108, 97, 98, 101, 108] : List UInt8)) = false := beq_eq_false_iff_ne.mpr n2
 have t_sSssp : (tag.toList == ([115, 115, 115, 112] : List UInt8)) = false := beq_eq_false_iff_ne.mpr n3
 have t_sBfs : (tag.toList == ([98, 102, 115] : List UInt8)) = false := beq_eq_false_iff_ne.mpr n4
 have t_sDegree : (tag.toList == ([100, 101, 103, 114, 101, 101] : List UInt8)) = false := beq_eq_false_iff_ne.mpr n5
 have t_sWalks : (tag.toList == ([119, 97, 108, 107, 115] : List UInt8)) = false := beq_eq_false_iff_ne.mpr n6
 clear n1 n2 n3 n4 n5 n6
 unfold smallV at hv0 hi0
 have hm3 : wrap64 (steps - 1) = steps - 1 := by unfold wrap64; omega
 have hl2 : (at_ == steps - 1) = false := beq_eq_false_iff_ne.mpr hl
 have e1 : ((l.length : Int) == 0) = false := beq_eq_false_iff_ne.mpr (by omega)
 have e2 : (l.length == 0) = false := beq_eq_false_iff_ne.mpr he
 have e3 : l.isEmpty = false := by rw [Bool.eq_false_iff, Ne, List.isEmpty_iff_length_eq_zero]; exact he
 have hvv : -2251799813685248 ≤ value ∧ value ≤ 2251799813685248 := by omega
 have hgr := downV_range (value) (l.length : Int) 2251799813685248 (by omega) hvv.1 hvv.2
 have HF2 : ∀ W, Calls Tryz.prog 75 #[.int .i64 (value), .int .i64 (l.length : Int)] W fun e w' => e = .returned (.int .i64 (downV (value) (l.length : Int))) ∧ Drawn0 W w' := fun W => modillionref07_floor.calls _ _ _ W (floor_ok _ _ (by omega) (by omega) (by omega) (by omega))
 generalize hgv : downV (value) (l.length : Int) = gv at HF2 hgr ⊢
 have HB_ : Aside0 (-9007199254740992 ≤ gv ∧ gv ≤ 9007199254740992) := ⟨by omega⟩
 clear hl he hlen hvv hgr hgv
 clear hv0 hi0 hs
 have hz : decide (0 < at_) = false := decide_eq_false h0
 clear h0
 go_enter Tryz.func51, Tryz.ntmps51
 have NA_ : Aside0 (w.heap.size + 1 + 1 + 1 ≠ w.heap.size + 1 + 1) := ⟨by omega⟩
 have NB_ : Aside0 (w.heap.size + 1 ≠ w.heap.size + 1 + 1) := ⟨by omega⟩
 have NC_ : Aside0 (w.heap.size + 1 + 1 ≠ w.heap.size + 1 + 1 + 1) := ⟨by omega⟩
 have ND_ : Aside0 (w.heap.size + 1 ≠ w.heap.size + 1 + 1 + 1) := ⟨by omega⟩
 go_wp2
 have FB := four_blocks (w := w) (o1 := .cells #[.string tag, .int .i64 src, .int .i64 steps] 26) (o2 := .cells #[.int .i64 id, .int .i64 value, .bool active, .bool true, .int .i64 inn] 50) (o3 := .cells #[.int .i64 0, .int .i64 0, .bool false, .bool false, .int .i64 0] 50) (o4 := .cells #[.int .i64 id, .int .i64 value, .bool true, .bool false, .int .i64 0] 50) (Below.refl _ _)
 generalize (((w.alloc (.cells #[.string tag, .int .i64 src, .int .i64 steps] 26)).alloc (.cells #[.int .i64 id, .int .i64 value, .bool active, .bool true, .int .i64 inn] 50)).alloc (.cells #[.int .i64 0, .int .i64 0, .bool false, .bool false, .int .i64 0] 50)).alloc (.cells #[.int .i64 id, .int .i64 value, .bool true, .bool false, .int .i64 0] 50) = W0 at FB ⊢
 obtain ⟨_, BXw, BRw, BYw, _, HBw⟩ := FB
 obtain ⟨y0, y1, y2, y3, y4⟩ := c5z W0 BYw.out
 obtain ⟨r0, r1, r2, r3, r4, f0, f1, f2, f3, f4⟩ := q5z W0 BRw.out
 go_region_held3 (fun w' => w'.cell? ⟨w.heap.size + 1 + 1 + 1, 0, none⟩ = some (.int .i64 id) ∧ w'.cell? ⟨w.heap.size + 1 + 1 + 1, 1, none⟩ = some (.int .i64 value) ∧ w'.cell? ⟨w.heap.size + 1 + 1 + 1, 2, none⟩ = some (.bool true) ∧ w'.cell? ⟨w.heap.size + 1 + 1 + 1, 3, none⟩ = some (.bool false) ∧ w'.cell? ⟨w.heap.size + 1 + 1 + 1, 4, none⟩ = some (.int .i64 0)) (first | (with_reducible exact ⟨cell_drew_of y0, cell_drew_of y1, cell_drew_of y2, cell_drew_of y3, cell_drew_of y4⟩) | (with_reducible exact ⟨z0, z1, z2, z3, z4⟩) | (with_reducible exact ⟨cell_dn y0, cell_dn y1, cell_dn y2, cell_dn y3, cell_dn y4⟩) | (with_reducible exact ⟨far5d y0 NA_.out, far5d y1 NA_.out, far5d y2 NA_.out, far5d y3 NA_.out, far5d y4 NA_.out⟩) | (with_reducible exact ⟨far5 y0 NA_.out, far5 y1 NA_.out, far5 y2 NA_.out, far5 y3 NA_.out, far5 y4 NA_.out⟩) | (with_reducible exact ⟨cell_dn (far5 y0 NA_.out), cell_dn (far5 y1 NA_.out), cell_dn (far5 y2 NA_.out), cell_dn (far5 y3 NA_.out), cell_dn (far5 y4 NA_.out)⟩) | (with_reducible exact ⟨far5d z0 NA_.out, far5d z1 NA_.out, far5d z2 NA_.out, far5d z3 NA_.out, far5d z4 NA_.out⟩) | (with_reducible exact ⟨far5 z0 NA_.out, far5 z1 NA_.out, far5 z2 NA_.out, far5 z3 NA_.out, far5 z4 NA_.out⟩) | go_keep)
  (first
   | (go_at_call 75; refine (HF2 _).mono ?_; rintro x w3 ⟨rfl, ⟨nd2, rfl⟩⟩)
   | (go_at_call 74; refine (HALL.out gv 0 _ HB_.out (pw_below_drewN HBw.out _)).mono ?_; rintro x w4 ⟨v3, rfl, hR3, hb3⟩; obtain ⟨z0, z1, z2, z3, z4, z5, BK3, HB3, HS3⟩ := next_facts2 (blk_drewN BXw.out _) (blk_drewN BRw.out _) (blk_drewN BYw.out _) (pw_below_drewN HBw.out _) hb3; obtain ⟨A9, c9, e9⟩ := Kd.R_slice hR3; subst e9; rw [List.length_map] at hR3; have HR3 := Aside0.mk (Kd.R_lower hR3 HS3.out); clear hR3 hb3; have s0 : w4.cell? ⟨w.heap.size + 1 + 1, 0, none⟩ = some (.int .i64 0) := (blk_cell BK3.out 0).trans rfl; have g0 := bz BK3.out 0; have s1 : w4.cell? ⟨w.heap.size + 1 + 1, 1, none⟩ = some (.int .i64 0) := (blk_cell BK3.out 1).trans rfl; have g1 := bz BK3.out 1; have s2 : w4.cell? ⟨w.heap.size + 1 + 1, 2, none⟩ = some (.bool false) := (blk_cell BK3.out 2).trans rfl; have g2 := bz BK3.out 2; have s3 : w4.cell? ⟨w.heap.size + 1 + 1, 3, none⟩ = some (.bool false) := (blk_cell BK3.out 3).trans rfl; have g3 := bz BK3.out 3; have s4 : w4.cell? ⟨w.heap.size + 1 + 1, 4, none⟩ = some (.int .i64 0) := (blk_cell BK3.out 4).trans rfl; have g4 := bz BK3.out 4)
   | (go_at_call 74; refine (HALL.out gv 0 _ HB_.out (pw_below_drewN (bq (bq (bq (bq (bq HBw.out (by omega)) (by omega)) (by omega)) (by omega)) (by omega)) _)).mono ?_; rintro x w4 ⟨v3, rfl, hR3, hb3⟩; obtain ⟨z0, z1, z2, z3, z4, z5, BK3, HB3, HS3⟩ := next_facts2 (blk_drewN (blk_far (blk_far (blk_far (blk_far (blk_far BXw.out NB_.out _) NB_.out _) NB_.out _) NB_.out _) NB_.out _) _) (blk_drewN (blk_put (blk_put (blk_put (blk_put (blk_put BRw.out 0 _ rfl) 1 _ rfl) 2 _ rfl) 3 _ rfl) 4 _ rfl) _) (blk_drewN (blk_far (blk_far (blk_far (blk_far (blk_far BYw.out NA_.out _) NA_.out _) NA_.out _) NA_.out _) NA_.out _) _) (pw_below_drewN (bq (bq (bq (bq (bq HBw.out (by omega)) (by omega)) (by omega)) (by omega)) (by omega)) _) hb3; obtain ⟨A9, c9, e9⟩ := Kd.R_slice hR3; subst e9; rw [List.length_map] at hR3; have HR3 := Aside0.mk (Kd.R_lower hR3 HS3.out); clear hR3 hb3))
 all_goals
  go_wp2
  refine bodyPost_ret (results_ct rfl _ _ (w.heap.size + 1 + 1) 50 #[.int .i64 id, .int .i64 value, .bool true, .bool false, .int .i64 0] (0, 0) _ rfl ?hg Tryz.underlying50 rfl (by kernel_rfl)) rfl ?_
  case hg => first | exact blk_put (blk_put (blk_put (blk_put (blk_put BK3.out 0 _ rfl) 1 _ rfl) 2 _ rfl) 3 _ rfl) 4 _ rfl | exact BK3.out
  exact ⟨_, rfl, by first | exact set5_R HR3.out BK3.out (Nat.le_refl _) | exact HR3.out, by first | exact bq (bq (bq (bq (bq HB3.out (by omega)) (by omega)) (by omega)) (by omega)) (by omega) | exact HB3.out⟩
set_option maxHeartbeats 16000000 in
set_option maxRecDepth 100000 in
theorem plain.rank_late_true_last (tag : ByteArray) (src steps at_ id value inn : Int) (active : Bool) (A3 : Option Addr) (c3 : Nat) (l : List S48) (w : World) (HALL : AllOk w A3 c3 l) (hv0 : smallV value) (hi0 : smallV inn) (n1 : ¬ tag.toList = sMax) (n2 : ¬ tag.toList = sLabel) (n3 : ¬ tag.toList = sSssp) (n4 : ¬ tag.toList = sBfs) (n5 : ¬ tag.toList = sDegree) (n6 : ¬ tag.toList = sWalks) (h0 : 0 < at_) (hs : 1 ≤ steps ∧ steps ≤ 1000000) (hl : at_ = steps - 1) :
  Calls Tryz.prog 51 #[.agg #[.string tag, .int .i64 src, .int .i64 steps], .int .i64 at_, .agg #[.int .i64 id, .int .i64 value, .bool active, .bool true, .int .i64 inn], .slice A3 l.length c3] w (PlainPost w (id, 9830 + downV (inn * 85) 100, false, false, 0, [])) := by
 have hu1 := Tryz.underlying50
 have hu2 := Tryz.underlying26
 have t_sMax : (tag.toList == ([109, 97, 120] : List UInt8)) = false := beq_eq_false_iff_ne.mpr n1
 have t_sLabel : (tag.toList == ([108, 97, 98, 101, 108] : List UInt8)) = false := beq_eq_false_iff_ne.mpr n2
 have t_sSssp : (tag.toList == ([115, 115, 115, 112] : List UInt8)) = false := beq_eq_false_iff_ne.mpr n3
 have t_sBfs : (tag.toList == ([98, 102, 115] : List UInt8)) = false := beq_eq_false_iff_ne.mpr n4
 have t_sDegree : (tag.toList == ([100, 101, 103, 114, 101, 101] : List UInt8)) = false := beq_eq_false_iff_ne.mpr n5
 have t_sWalks : (tag.toList == ([119, 97, 108, 107, 115] : List UInt8)) = false := beq_eq_false_iff_ne.mpr n6
 clear n1 n2 n3 n4 n5 n6
 unfold smallV at hv0 hi0
 have hd := downV_range (inn * 85) 100 100000000000000000 (by omega) (by omega) (by omega)
 have hm1 : wrap64 (85 * inn) = inn * 85 := by unfold wrap64; omega
 have hm2 : wrap64 (9830 + downV (inn * 85) 100) = 9830 + downV (inn * 85) 100 := by unfold wrap64; omega
 have HF1 : ∀ W, Calls Tryz.prog 75 #[.int .i64 (inn * 85), .int .i64 100] W fun e w' => e = .returned (.int .i64 (downV (inn * 85) 100)) ∧ Drawn0 W w' := fun W => modillionref07_floor.calls _ _ _ W (floor_ok _ _ (by omega) (by omega) (by omega) (by omega))
 have hm3 : wrap64 (steps - 1) = steps - 1 := by unfold wrap64; omega
 have hl2 : (at_ == steps - 1) = true := beq_iff_eq.mpr hl
 clear hl
 clear hv0 hi0 hs
 clear hd
 generalize downV (inn * 85) 100 = dv at HF1 hm2 ⊢
 have hz : decide (0 < at_) = true := decide_eq_true h0
 clear h0
 go_enter Tryz.func51, Tryz.ntmps51
 have NA_ : Aside0 (w.heap.size + 1 + 1 + 1 ≠ w.heap.size + 1 + 1) := ⟨by omega⟩
 have NB_ : Aside0 (w.heap.size + 1 ≠ w.heap.size + 1 + 1) := ⟨by omega⟩
 have NC_ : Aside0 (w.heap.size + 1 + 1 ≠ w.heap.size + 1 + 1 + 1) := ⟨by omega⟩
 have ND_ : Aside0 (w.heap.size + 1 ≠ w.heap.size + 1 + 1 + 1) := ⟨by omega⟩
 go_wp2_with (fail)
 refine (HF1 _).mono ?_
 rintro x w3 ⟨rfl, ⟨nd1, hw3⟩⟩
 obtain ⟨BJ0, BX0, BR0, BY0, SZ0, HB0⟩ := four_blocks_d hw3
 clear HF1 hw3
 have j2 : w3.cell? ⟨w.heap.size, 2, none⟩ = some (.int .i64 steps) := (blk_cell BJ0.out 2).trans rfl
 have jn : w.heap.size ≠ w.heap.size + 1 + 1 + 1 := by omega
 obtain ⟨y0, y1, y2, y3, y4⟩ := c5z w3 BY0.out
 have y5 : w3.cell? ⟨w.heap.size + 1, 1, none⟩ = some (.int .i64 value) := (blk_cell BX0.out 1).trans rfl
 obtain ⟨r0, r1, r2, r3, r4, f0, f1, f2, f3, f4⟩ := q5z w3 BR0.out
 have p1 := bz BY0.out 1
 have p2 := bz BY0.out 2
 go_wp2
 refine bodyPost_ret (results_ct rfl _ _ (w.heap.size + 1 + 1) 50 #[.int .i64 id, .int .i64 (9830 + dv), .bool false, .bool false, .int .i64 0] (0, 0) _ rfl ?hg Tryz.underlying50 rfl (by kernel_rfl)) rfl ?_
 case hg => exact (blk_put (blk_put (blk_put (blk_put (blk_put (blk_far BR0.out NC_.out _) 0 _ rfl) 1 _ rfl) 2 _ rfl) 3 _ rfl) 4 _ rfl)
 exact ⟨_, rfl, Kd.R_nil _ _ _ _ _, (bq (bq (bq (bq (bq (bq HB0.out (by omega)) (by omega)) (by omega)) (by omega)) (by omega)) (by omega))⟩
set_option maxHeartbeats 16000000 in
set_option maxRecDepth 100000 in
theorem plain.rank_late_true_none (tag : ByteArray) (src steps at_ id value inn : Int) (active : Bool) (A3 : Option Addr) (c3 : Nat) (l : List S48) (w : World) (HALL : AllOk w A3 c3 l) (hv0 : smallV value) (hi0 : smallV inn) (n1 : ¬ tag.toList = sMax) (n2 : ¬ tag.toList = sLabel) (n3 : ¬ tag.toList = sSssp) (n4 : ¬ tag.toList = sBfs) (n5 : ¬ tag.toList = sDegree) (n6 : ¬ tag.toList = sWalks) (h0 : 0 < at_) (hs : 1 ≤ steps ∧ steps ≤ 1000000) (hl : ¬ at_ = steps - 1) (he : l.length = 0) :
  Calls Tryz.prog 51 #[.agg #[.string tag, .int .i64 src, .int .i64 steps], .int .i64 at_, .agg #[.int .i64 id, .int .i64 value, .bool active, .bool true, .int .i64 inn], .slice A3 l.length c3] w (PlainPost w (id, 9830 + downV (inn * 85) 100, true, false, 0, [])) := by
 have hu1 := Tryz.underlying50
 have hu2 := Tryz.underlying26
 have t_sMax : (tag.toList == ([109, 97, 120] : List UInt8)) = false := beq_eq_false_iff_ne.mpr n1
 have t_sLabel : (tag.toList == ([108, 97, 98, 101, 108] : List UInt8)) = false := beq_eq_false_iff_ne.mpr n2
 have t_sSssp : (tag.toList == ([115, 115, 115, 112] : List UInt8)) = false := beq_eq_false_iff_ne.mpr n3
 have t_sBfs : (tag.toList == ([98, 102, 115] : List UInt8)) = false := beq_eq_false_iff_ne.mpr n4
 have t_sDegree : (tag.toList == ([100, 101, 103, 114, 101, 101] : List UInt8)) = false := beq_eq_false_iff_ne.mpr n5
 have t_sWalks : (tag.toList == ([119, 97, 108, 107, 115] : List UInt8)) = false := beq_eq_false_iff_ne.mpr n6
 clear n1 n2 n3 n4 n5 n6
 unfold smallV at hv0 hi0
 have hd := downV_range (inn * 85) 100 100000000000000000 (by omega) (by omega) (by omega)
 have hm1 : wrap64 (85 * inn) = inn * 85 := by unfold wrap64; omega
 have hm2 : wrap64 (9830 + downV (inn * 85) 100) = 9830 + downV (inn * 85) 100 := by unfold wrap64; omega
 have HF1 : ∀ W, Calls Tryz.prog 75 #[.int .i64 (inn * 85), .int .i64 100] W fun e w' => e = .returned (.int .i64 (downV (inn * 85) 100)) ∧ Drawn0 W w' := fun W => modillionref07_floor.calls _ _ _ W (floor_ok _ _ (by omega) (by omega) (by omega) (by omega))
 have hm3 : wrap64 (steps - 1) = steps - 1 := by unfold wrap64; omega
 have hl2 : (at_ == steps - 1) = false := beq_eq_false_iff_ne.mpr hl
 have he2 : ((l.length : Int) == 0) = true := beq_iff_eq.mpr (by omega)
 have he3 : (l.length == 0) = true := beq_iff_eq.mpr he
 have he4 : l.isEmpty = true := by rw [List.isEmpty_iff_length_eq_zero]; exact he
 have he5 : l = [] := List.length_eq_zero_iff.mp he
 subst he5
 clear hl he
 clear hv0 hi0 hs
 clear hd
 generalize downV (inn * 85) 100 = dv at HF1 hm2 ⊢
 have hz : decide (0 < at_) = true := decide_eq_true h0
 clear h0
 go_enter Tryz.func51, Tryz.ntmps51
 have NA_ : Aside0 (w.heap.size + 1 + 1 + 1 ≠ w.heap.size + 1 + 1) := ⟨by omega⟩
 have NB_ : Aside0 (w.heap.size + 1 ≠ w.heap.size + 1 + 1) := ⟨by omega⟩
 have NC_ : Aside0 (w.heap.size + 1 + 1 ≠ w.heap.size + 1 + 1 + 1) := ⟨by omega⟩
 have ND_ : Aside0 (w.heap.size + 1 ≠ w.heap.size + 1 + 1 + 1) := ⟨by omega⟩
 go_wp2_with (fail)
 refine (HF1 _).mono ?_
 rintro x w3 ⟨rfl, ⟨nd1, hw3⟩⟩
 obtain ⟨BJ0, BX0, BR0, BY0, SZ0, HB0⟩ := four_blocks_d hw3
 clear HF1 hw3
 have j2 : w3.cell? ⟨w.heap.size, 2, none⟩ = some (.int .i64 steps) := (blk_cell BJ0.out 2).trans rfl
 have jn : w.heap.size ≠ w.heap.size + 1 + 1 + 1 := by omega
 obtain ⟨y0, y1, y2, y3, y4⟩ := c5z w3 BY0.out
 have y5 : w3.cell? ⟨w.heap.size + 1, 1, none⟩ = some (.int .i64 value) := (blk_cell BX0.out 1).trans rfl
 obtain ⟨r0, r1, r2, r3, r4, f0, f1, f2, f3, f4⟩ := q5z w3 BR0.out
 have p1 := bz BY0.out 1
 have p2 := bz BY0.out 2
 go_wp2
 refine bodyPost_ret (results_ct rfl _ _ (w.heap.size + 1 + 1) 50 #[.int .i64 id, .int .i64 (9830 + dv), .bool true, .bool false, .int .i64 0] (0, 0) _ rfl ?hg Tryz.underlying50 rfl (by kernel_rfl)) rfl ?_
 case hg => exact (blk_put (blk_put (blk_put (blk_put (blk_put (blk_far (blk_far BR0.out NC_.out _) NC_.out _) 0 _ rfl) 1 _ rfl) 2 _ rfl) 3 _ rfl) 4 _ rfl)
 exact ⟨_, rfl, Kd.R_nil _ _ _ _ _, (bq (bq (bq (bq (bq (bq (bq HB0.out (by omega)) (by omega)) (by omega)) (by omega)) (by omega)) (by omega)) (by omega))⟩
set_option maxHeartbeats 16000000 in
set_option maxRecDepth 100000 in
theorem plain.rank_late_true_all (tag : ByteArray) (src steps at_ id value inn : Int) (active : Bool) (A3 : Option Addr) (c3 : Nat) (l : List S48) (w : World) (HALL : AllOk w A3 c3 l) (hv0 : smallV value) (hi0 : smallV inn) (n1 : ¬ tag.toList = sMax) (n2 : ¬ tag.toList = sLabel) (n3 : ¬ tag.toList = sSssp) (n4 : ¬ tag.toList = sBfs) (n5 : ¬ tag.toList = sDegree) (n6 : ¬ tag.toList = sWalks) (h0 : 0 < at_) (hs : 1 ≤ steps ∧ steps ≤ 1000000) (hl : ¬ at_ = steps - 1) (he : ¬ l.length = 0) (hlen : l.length ≤ 1000000) :
  Calls Tryz.prog 51 #[.agg #[.string tag, .int .i64 src, .int .i64 steps], .int .i64 at_, .agg #[.int .i64 id, .int .i64 value, .bool active, .bool true, .int .i64 inn], .slice A3 l.length c3] w (PlainPost w (id, 9830 + downV (inn * 85) 100, true, false, 0, l.map (allV (downV (9830 + downV (inn * 85) 100) (l.length : Int)) 0))) := by
 have hu1 := Tryz.underlying50
 have hu2 := Tryz.underlying26
 have t_sMax : (tag.toList == ([109, 97, 120] : List UInt8)) = false := beq_eq_false_iff_ne.mpr n1
 have t_sLabel : (tag.toList == ([108, 97, 98, 101, 108] : List UInt8)) = false := beq_eq_false_iff_ne.mpr n2
 have t_sSssp : (tag.toList == ([115, 115, 115, 112] : List UInt8)) = false := beq_eq_false_iff_ne.mpr n3
 have t_sBfs : (tag.toList == ([98, 102, 115] : List UInt8)) = false := beq_eq_false_iff_ne.mpr n4
 have t_sDegree : (tag.toList == ([100, 101, 103, 114, 101, 101] : List UInt8)) = false := beq_eq_false_iff_ne.mpr n5
 have t_sWalks : (tag.toList == ([119, 97, 108, 107, 115] : List UInt8)) = false := beq_eq_false_iff_ne.mpr n6
 clear n1 n2 n3 n4 n5 n6
 unfold smallV at hv0 hi0
 have hd := downV_range (inn * 85) 100 100000000000000000 (by omega) (by omega) (by omega)
 have hm1 : wrap64 (85 * inn) = inn * 85 := by unfold wrap64; omega
 have hm2 : wrap64 (9830 + downV (inn * 85) 100) = 9830 + downV (inn * 85) 100 := by unfold wrap64; omega
 have HF1 : ∀ W, Calls Tryz.prog 75 #[.int .i64 (inn * 85), .int .i64 100] W fun e w' => e = .returned (.int .i64 (downV (inn * 85) 100)) ∧ Drawn0 W w' := fun W => modillionref07_floor.calls _ _ _ W (floor_ok _ _ (by omega) (by omega) (by omega) (by omega))
 have hm3 : wrap64 (steps - 1) = steps - 1 := by unfold wrap64; omega
 have hl2 : (at_ == steps - 1) = false := beq_eq_false_iff_ne.mpr hl
 have e1 : ((l.length : Int) == 0) = false := beq_eq_false_iff_ne.mpr (by omega)
 have e2 : (l.length == 0) = false := beq_eq_false_iff_ne.mpr he
 have e3 : l.isEmpty = false := by rw [Bool.eq_false_iff, Ne, List.isEmpty_iff_length_eq_zero]; exact he
 have hvv : -2251799813685248 ≤ 9830 + downV (inn * 85) 100 ∧ 9830 + downV (inn * 85) 100 ≤ 2251799813685248 := by unfold downV; omega
 have hgr := downV_range (9830 + downV (inn * 85) 100) (l.length : Int) 2251799813685248 (by omega) hvv.1 hvv.2
 have HF2 : ∀ W, Calls Tryz.prog 75 #[.int .i64 (9830 + downV (inn * 85) 100), .int .i64 (l.length : Int)] W fun e w' => e = .returned (.int .i64 (downV (9830 + downV (inn * 85) 100) (l.length : Int))) ∧ Drawn0 W w' := fun W => modillionref07_floor.calls _ _ _ W (floor_ok _ _ (by omega) (by omega) (by omega) (by omega))
 generalize hgv : downV (9830 + downV (inn * 85) 100) (l.length : Int) = gv at HF2 hgr ⊢
 have HB_ : Aside0 (-9007199254740992 ≤ gv ∧ gv ≤ 9007199254740992) := ⟨by omega⟩
 clear hl he hlen hvv hgr hgv
 clear hv0 hi0 hs
 clear hd
 generalize downV (inn * 85) 100 = dv at HF1 HF2 hm2 ⊢
 have hz : decide (0 < at_) = true := decide_eq_true h0
 clear h0
 go_enter Tryz.func51, Tryz.ntmps51
 have NA_ : Aside0 (w.heap.size + 1 + 1 + 1 ≠ w.heap.size + 1 + 1) := ⟨by omega⟩
 have NB_ : Aside0 (w.heap.size + 1 ≠ w.heap.size + 1 + 1) := ⟨by omega⟩
 have NC_ : Aside0 (w.heap.size + 1 + 1 ≠ w.heap.size + 1 + 1 + 1) := ⟨by omega⟩
 have ND_ : Aside0 (w.heap.size + 1 ≠ w.heap.size + 1 + 1 + 1) := ⟨by omega⟩
 go_wp2_with (fail)
 refine (HF1 _).mono ?_
 rintro x w3 ⟨rfl, ⟨nd1, hw3⟩⟩
 obtain ⟨BJ0, BX0, BR0, BY0, SZ0, HB0⟩ := four_blocks_d hw3
 clear HF1 hw3
 have j2 : w3.cell? ⟨w.heap.size, 2, none⟩ = some (.int .i64 steps) := (blk_cell BJ0.out 2).trans rfl
 have jn : w.heap.size ≠ w.heap.size + 1 + 1 + 1 := by omega
 obtain ⟨y0, y1, y2, y3, y4⟩ := c5z w3 BY0.out
 have y5 : w3.cell? ⟨w.heap.size + 1, 1, none⟩ = some (.int .i64 value) := (blk_cell BX0.out 1).trans rfl
 obtain ⟨r0, r1, r2, r3, r4, f0, f1, f2, f3, f4⟩ := q5z w3 BR0.out
 have p1 := bz BY0.out 1
 have p2 := bz BY0.out 2
 go_wp2
 have BXw : Aside0 (((w3.setCell ⟨w.heap.size + 1 + 1 + 1, 1, none⟩ (.int .i64 (9830 + dv))).setCell ⟨w.heap.size + 1 + 1 + 1, 2, none⟩ (.bool true)).heap[w.heap.size + 1]? = some (.cells #[.int .i64 id, .int .i64 value, .bool active, .bool true, .int .i64 inn] 50 (0, 0))) := ⟨blk_far (blk_far BX0.out ND_.out _) ND_.out _⟩
 have BRw : Aside0 (((w3.setCell ⟨w.heap.size + 1 + 1 + 1, 1, none⟩ (.int .i64 (9830 + dv))).setCell ⟨w.heap.size + 1 + 1 + 1, 2, none⟩ (.bool true)).heap[w.heap.size + 1 + 1]? = some (.cells #[.int .i64 0, .int .i64 0, .bool false, .bool false, .int .i64 0] 50 (0, 0))) := ⟨blk_far (blk_far BR0.out NC_.out _) NC_.out _⟩
 have BYw : Aside0 (((w3.setCell ⟨w.heap.size + 1 + 1 + 1, 1, none⟩ (.int .i64 (9830 + dv))).setCell ⟨w.heap.size + 1 + 1 + 1, 2, none⟩ (.bool true)).heap[w.heap.size + 1 + 1 + 1]? = some (.cells #[.int .i64 id, .int .i64 (9830 + dv), .bool true, .bool false, .int .i64 0] 50 (0, 0))) := ⟨blk_put (blk_put BY0.out 1 _ rfl) 2 _ rfl⟩
 have HBw : Aside0 (Below w.heap.size w ((w3.setCell ⟨w.heap.size + 1 + 1 + 1, 1, none⟩ (.int .i64 (9830 + dv))).setCell ⟨w.heap.size + 1 + 1 + 1, 2, none⟩ (.bool true))) := ⟨bq (bq HB0.out (by omega)) (by omega)⟩
 clear y0 y1 y2 y3 y4 y5 r0 r1 r2 r3 r4 f0 f1 f2 f3 f4 p1 p2 j2 BJ0 BX0 BR0 BY0 SZ0 HB0
 generalize ((w3.setCell ⟨w.heap.size + 1 + 1 + 1, 1, none⟩ (.int .i64 (9830 + dv))).setCell ⟨w.heap.size + 1 + 1 + 1, 2, none⟩ (.bool true)) = W0 at BXw BRw BYw HBw ⊢
 obtain ⟨y0, y1, y2, y3, y4⟩ := c5z W0 BYw.out
 obtain ⟨r0, r1, r2, r3, r4, f0, f1, f2, f3, f4⟩ := q5z W0 BRw.out
 go_region_held3 (fun w' => w'.cell? ⟨w.heap.size + 1 + 1 + 1, 0, none⟩ = some (.int .i64 id) ∧ w'.cell? ⟨w.heap.size + 1 + 1 + 1, 1, none⟩ = some (.int .i64 (9830 + dv)) ∧ w'.cell? ⟨w.heap.size + 1 + 1 + 1, 2, none⟩ = some (.bool true) ∧ w'.cell? ⟨w.heap.size + 1 + 1 + 1, 3, none⟩ = some (.bool false) ∧ w'.cell? ⟨w.heap.size + 1 + 1 + 1, 4, none⟩ = some (.int .i64 0)) (first | (with_reducible exact ⟨cell_drew_of y0, cell_drew_of y1, cell_drew_of y2, cell_drew_of y3, cell_drew_of y4⟩) | (with_reducible exact ⟨z0, z1, z2, z3, z4⟩) | (with_reducible exact ⟨cell_dn y0, cell_dn y1, cell_dn y2, cell_dn y3, cell_dn y4⟩) | (with_reducible exact ⟨far5d y0 NA_.out, far5d y1 NA_.out, far5d y2 NA_.out, far5d y3 NA_.out, far5d y4 NA_.out⟩) | (with_reducible exact ⟨far5 y0 NA_.out, far5 y1 NA_.out, far5 y2 NA_.out, far5 y3 NA_.out, far5 y4 NA_.out⟩) | (with_reducible exact ⟨cell_dn (far5 y0 NA_.out), cell_dn (far5 y1 NA_.out), cell_dn (far5 y2 NA_.out), cell_dn (far5 y3 NA_.out), cell_dn (far5 y4 NA_.out)⟩) | (with_reducible exact ⟨far5d z0 NA_.out, far5d z1 NA_.out, far5d z2 NA_.out, far5d z3 NA_.out, far5d z4 NA_.out⟩) | (with_reducible exact ⟨far5 z0 NA_.out, far5 z1 NA_.out, far5 z2 NA_.out, far5 z3 NA_.out, far5 z4 NA_.out⟩) | go_keep)
  (first
   | (go_at_call 75; refine (HF2 _).mono ?_; rintro x w3 ⟨rfl, ⟨nd2, rfl⟩⟩)
   | (go_at_call 74; refine (HALL.out gv 0 _ HB_.out (pw_below_drewN HBw.out _)).mono ?_; rintro x w4 ⟨v3, rfl, hR3, hb3⟩; obtain ⟨z0, z1, z2, z3, z4, z5, BK3, HB3, HS3⟩ := next_facts2 (blk_drewN BXw.out _) (blk_drewN BRw.out _) (blk_drewN BYw.out _) (pw_below_drewN HBw.out _) hb3; obtain ⟨A9, c9, e9⟩ := Kd.R_slice hR3; subst e9; rw [List.length_map] at hR3; have HR3 := Aside0.mk (Kd.R_lower hR3 HS3.out); clear hR3 hb3; have s0 : w4.cell? ⟨w.heap.size + 1 + 1, 0, none⟩ = some (.int .i64 0) := (blk_cell BK3.out 0).trans rfl; have g0 := bz BK3.out 0; have s1 : w4.cell? ⟨w.heap.size + 1 + 1, 1, none⟩ = some (.int .i64 0) := (blk_cell BK3.out 1).trans rfl; have g1 := bz BK3.out 1; have s2 : w4.cell? ⟨w.heap.size + 1 + 1, 2, none⟩ = some (.bool false) := (blk_cell BK3.out 2).trans rfl; have g2 := bz BK3.out 2; have s3 : w4.cell? ⟨w.heap.size + 1 + 1, 3, none⟩ = some (.bool false) := (blk_cell BK3.out 3).trans rfl; have g3 := bz BK3.out 3; have s4 : w4.cell? ⟨w.heap.size + 1 + 1, 4, none⟩ = some (.int .i64 0) := (blk_cell BK3.out 4).trans rfl; have g4 := bz BK3.out 4)
   | (go_at_call 74; refine (HALL.out gv 0 _ HB_.out (pw_below_drewN (bq (bq (bq (bq (bq HBw.out (by omega)) (by omega)) (by omega)) (by omega)) (by omega)) _)).mono ?_; rintro x w4 ⟨v3, rfl, hR3, hb3⟩; obtain ⟨z0, z1, z2, z3, z4, z5, BK3, HB3, HS3⟩ := next_facts2 (blk_drewN (blk_far (blk_far (blk_far (blk_far (blk_far BXw.out NB_.out _) NB_.out _) NB_.out _) NB_.out _) NB_.out _) _) (blk_drewN (blk_put (blk_put (blk_put (blk_put (blk_put BRw.out 0 _ rfl) 1 _ rfl) 2 _ rfl) 3 _ rfl) 4 _ rfl) _) (blk_drewN (blk_far (blk_far (blk_far (blk_far (blk_far BYw.out NA_.out _) NA_.out _) NA_.out _) NA_.out _) NA_.out _) _) (pw_below_drewN (bq (bq (bq (bq (bq HBw.out (by omega)) (by omega)) (by omega)) (by omega)) (by omega)) _) hb3; obtain ⟨A9, c9, e9⟩ := Kd.R_slice hR3; subst e9; rw [List.length_map] at hR3; have HR3 := Aside0.mk (Kd.R_lower hR3 HS3.out); clear hR3 hb3))
 all_goals
  go_wp2
  refine bodyPost_ret (results_ct rfl _ _ (w.heap.size + 1 + 1) 50 #[.int .i64 id, .int .i64 (9830 + dv), .bool true, .bool false, .int .i64 0] (0, 0) _ rfl ?hg Tryz.underlying50 rfl (by kernel_rfl)) rfl ?_
  case hg => first | exact blk_put (blk_put (blk_put (blk_put (blk_put BK3.out 0 _ rfl) 1 _ rfl) 2 _ rfl) 3 _ rfl) 4 _ rfl | exact BK3.out
  exact ⟨_, rfl, by first | exact set5_R HR3.out BK3.out (Nat.le_refl _) | exact HR3.out, by first | exact bq (bq (bq (bq (bq HB3.out (by omega)) (by omega)) (by omega)) (by omega)) (by omega) | exact HB3.out⟩
set_option maxHeartbeats 16000000 in
set_option maxRecDepth 100000 in
theorem plain.rank_at_false_last (tag : ByteArray) (src steps at_ id value inn : Int) (active : Bool) (A3 : Option Addr) (c3 : Nat) (l : List S48) (w : World) (HALL : AllOk w A3 c3 l) (hv0 : smallV value) (hi0 : smallV inn) (n1 : ¬ tag.toList = sMax) (n2 : ¬ tag.toList = sLabel) (n3 : ¬ tag.toList = sSssp) (n4 : ¬ tag.toList = sBfs) (n5 : ¬ tag.toList = sDegree) (n6 : ¬ tag.toList = sWalks) (h0 : ¬ 0 < at_) (hs : 1 ≤ steps ∧ steps ≤ 1000000) (hl : at_ = steps - 1) :
  Calls Tryz.prog 51 #[.agg #[.string tag, .int .i64 src, .int .i64 steps], .int .i64 at_, .agg #[.int .i64 id, .int .i64 value, .bool active, .bool false, .int .i64 inn], .slice A3 l.length c3] w (PlainPost w (id, value, false, false, 0, [])) := by
 have hu1 := Tryz.underlying50
 have hu2 := Tryz.underlying26
 have t_sMax : (tag.toList == ([109, 97, 120] : List UInt8)) = false := beq_eq_false_iff_ne.mpr n1
 have t_sLabel : (tag.toList == ([108, 97, 98, 101, 108] : List UInt8)) = false := beq_eq_false_iff_ne.mpr n2
 have t_sSssp : (tag.toList == ([115, 115, 115, 112] : List UInt8)) = false := beq_eq_false_iff_ne.mpr n3
 have t_sBfs : (tag.toList == ([98, 102, 115] : List UInt8)) = false := beq_eq_false_iff_ne.mpr n4
 have t_sDegree : (tag.toList == ([100, 101, 103, 114, 101, 101] : List UInt8)) = false := beq_eq_false_iff_ne.mpr n5
 have t_sWalks : (tag.toList == ([119, 97, 108, 107, 115] : List UInt8)) = false := beq_eq_false_iff_ne.mpr n6
 clear n1 n2 n3 n4 n5 n6
 unfold smallV at hv0 hi0
 have hm3 : wrap64 (steps - 1) = steps - 1 := by unfold wrap64; omega
 have hl2 : (at_ == steps - 1) = true := beq_iff_eq.mpr hl
 clear hl
 clear hv0 hi0 hs
 have hz : decide (0 < at_) = false := decide_eq_false h0
 clear h0
 go_enter Tryz.func51, Tryz.ntmps51
 go_wp2
 refine bodyPost_ret (results_ct rfl _ _ (w.heap.size + 1 + 1) 50 #[.int .i64 id, .int .i64 value, .bool false, .bool false, .int .i64 0] (0, 0) _ rfl ?hg Tryz.underlying50 rfl (by kernel_rfl)) rfl ?_
 case hg => exact (four_blocks (Below.refl _ _)).2.2.1.out
 exact ⟨_, rfl, Kd.R_nil _ _ _ _ _, (four_blocks (Below.refl _ _)).2.2.2.2.2.out⟩
set_option maxHeartbeats 16000000 in
set_option maxRecDepth 100000 in
theorem plain.rank_at_false_none (tag : ByteArray) (src steps at_ id value inn : Int) (active : Bool) (A3 : Option Addr) (c3 : Nat) (l : List S48) (w : World) (HALL : AllOk w A3 c3 l) (hv0 : smallV value) (hi0 : smallV inn) (n1 : ¬ tag.toList = sMax) (n2 : ¬ tag.toList = sLabel) (n3 : ¬ tag.toList = sSssp) (n4 : ¬ tag.toList = sBfs) (n5 : ¬ tag.toList = sDegree) (n6 : ¬ tag.toList = sWalks) (h0 : ¬ 0 < at_) (hs : 1 ≤ steps ∧ steps ≤ 1000000) (hl : ¬ at_ = steps - 1) (he : l.length = 0) :
  Calls Tryz.prog 51 #[.agg #[.string tag, .int .i64 src, .int .i64 steps], .int .i64 at_, .agg #[.int .i64 id, .int .i64 value, .bool active, .bool false, .int .i64 inn], .slice A3 l.length c3] w (PlainPost w (id, value, true, false, 0, [])) := by
 have hu1 := Tryz.underlying50
 have hu2 := Tryz.underlying26
 have t_sMax : (tag.toList == ([109, 97, 120] : List UInt8)) = false := beq_eq_false_iff_ne.mpr n1
 have t_sLabel : (tag.toList == ([108, 97, 98, 101, 108] : List UInt8)) = false := beq_eq_false_iff_ne.mpr n2
 have t_sSssp : (tag.toList == ([115, 115, 115, 112] : List UInt8)) = false := beq_eq_false_iff_ne.mpr n3
 have t_sBfs : (tag.toList == ([98, 102, 115] : List UInt8)) = false := beq_eq_false_iff_ne.mpr n4
 have t_sDegree : (tag.toList == ([100, 101, 103, 114, 101, 101] : List UInt8)) = false := beq_eq_false_iff_ne.mpr n5
 have t_sWalks : (tag.toList == ([119, 97, 108, 107, 115] : List UInt8)) = false := beq_eq_false_iff_ne.mpr n6
 clear n1 n2 n3 n4 n5 n6
 unfold smallV at hv0 hi0
 have hm3 : wrap64 (steps - 1) = steps - 1 := by unfold wrap64; omega
 have hl2 : (at_ == steps - 1) = false := beq_eq_false_iff_ne.mpr hl
 have he2 : ((l.length : Int) == 0) = true := beq_iff_eq.mpr (by omega)
 have he3 : (l.length == 0) = true := beq_iff_eq.mpr he
 have he4 : l.isEmpty = true := by rw [List.isEmpty_iff_length_eq_zero]; exact he
 have he5 : l = [] := List.length_eq_zero_iff.mp he
 subst he5
 clear hl he
 clear hv0 hi0 hs
 have hz : decide (0 < at_) = false := decide_eq_false h0
 clear h0
 go_enter Tryz.func51, Tryz.ntmps51
 go_wp2
 refine bodyPost_ret (results_ct rfl _ _ (w.heap.size + 1 + 1) 50 #[.int .i64 id, .int .i64 value, .bool true, .bool false, .int .i64 0] (0, 0) _ rfl ?hg Tryz.underlying50 rfl (by kernel_rfl)) rfl ?_
 case hg => exact (four_blocks (Below.refl _ _)).2.2.1.out
 exact ⟨_, rfl, Kd.R_nil _ _ _ _ _, (four_blocks (Below.refl _ _)).2.2.2.2.2.out⟩
set_option maxHeartbeats 16000000 in
set_option maxRecDepth 100000 in
theorem plain.rank_at_false_all (tag : ByteArray) (src steps at_ id value inn : Int) (active : Bool) (A3 : Option Addr) (c3 : Nat) (l : List S48) (w : World) (HALL : AllOk w A3 c3 l) (hv0 : smallV value) (hi0 : smallV inn) (n1 : ¬ tag.toList = sMax) (n2 : ¬ tag.toList = sLabel) (n3 : ¬ tag.toList = sSssp) (n4 : ¬ tag.toList = sBfs) (n5 : ¬ tag.toList = sDegree) (n6 : ¬ tag.toList = sWalks) (h0 : ¬ 0 < at_) (hs : 1 ≤ steps ∧ steps ≤ 1000000) (hl : ¬ at_ = steps - 1) (he : ¬ l.length = 0) (hlen : l.length ≤ 1000000) :
  Calls Tryz.prog 51 #[.agg #[.string tag, .int .i64 src, .int .i64 steps], .int .i64 at_, .agg #[.int .i64 id, .int .i64 value, .bool active, .bool false, .int .i64 inn], .slice A3 l.length c3] w (PlainPost w (id, value, true, false, 0, l.map (allV (downV (value) (l.length : Int)) 0))) := by
 have hu1 := Tryz.underlying50
 have hu2 := Tryz.underlying26
 have t_sMax : (tag.toList == ([109, 97, 120] : List UInt8)) = false := beq_eq_false_iff_ne.mpr n1
 have t_sLabel : (tag.toList == ([108, 97, 98, 101, 108] : List UInt8)) = false := beq_eq_false_iff_ne.mpr n2
 have t_sSssp : (tag.toList == ([115, 115, 115, 112] : List UInt8)) = false := beq_eq_false_iff_ne.mpr n3
 have t_sBfs : (tag.toList == ([98, 102, 115] : List UInt8)) = false := beq_eq_false_iff_ne.mpr n4
 have t_sDegree : (tag.toList == ([100, 101, 103, 114, 101, 101] : List UInt8)) = false := beq_eq_false_iff_ne.mpr n5
 have t_sWalks : (tag.toList == ([119, 97, 108, 107, 115] : List UInt8)) = false := beq_eq_false_iff_ne.mpr n6
 clear n1 n2 n3 n4 n5 n6
 unfold smallV at hv0 hi0
 have hm3 : wrap64 (steps - 1) = steps - 1 := by unfold wrap64; omega
 have hl2 : (at_ == steps - 1) = false := beq_eq_false_iff_ne.mpr hl
 have e1 : ((l.length : Int) == 0) = false := beq_eq_false_iff_ne.mpr (by omega)
 have e2 : (l.length == 0) = false := beq_eq_false_iff_ne.mpr he
 have e3 : l.isEmpty = false := by rw [Bool.eq_false_iff, Ne, List.isEmpty_iff_length_eq_zero]; exact he
 have hvv : -2251799813685248 ≤ value ∧ value ≤ 2251799813685248 := by omega
 have hgr := downV_range (value) (l.length : Int) 2251799813685248 (by omega) hvv.1 hvv.2
 have HF2 : ∀ W, Calls Tryz.prog 75 #[.int .i64 (value), .int .i64 (l.length : Int)] W fun e w' => e = .returned (.int .i64 (downV (value) (l.length : Int))) ∧ Drawn0 W w' := fun W => modillionref07_floor.calls _ _ _ W (floor_ok _ _ (by omega) (by omega) (by omega) (by omega))
 generalize hgv : downV (value) (l.length : Int) = gv at HF2 hgr ⊢
 have HB_ : Aside0 (-9007199254740992 ≤ gv ∧ gv ≤ 9007199254740992) := ⟨by omega⟩
 clear hl he hlen hvv hgr hgv
 clear hv0 hi0 hs
 have hz : decide (0 < at_) = false := decide_eq_false h0
 clear h0
 go_enter Tryz.func51, Tryz.ntmps51
 have NA_ : Aside0 (w.heap.size + 1 + 1 + 1 ≠ w.heap.size + 1 + 1) := ⟨by omega⟩
 have NB_ : Aside0 (w.heap.size + 1 ≠ w.heap.size + 1 + 1) := ⟨by omega⟩
 have NC_ : Aside0 (w.heap.size + 1 + 1 ≠ w.heap.size + 1 + 1 + 1) := ⟨by omega⟩
 have ND_ : Aside0 (w.heap.size + 1 ≠ w.heap.size + 1 + 1 + 1) := ⟨by omega⟩
 go_wp2
 have FB := four_blocks (w := w) (o1 := .cells #[.string tag, .int .i64 src, .int .i64 steps] 26) (o2 := .cells #[.int .i64 id, .int .i64 value, .bool active, .bool false, .int .i64 inn] 50) (o3 := .cells #[.int .i64 0, .int .i64 0, .bool false, .bool false, .int .i64 0] 50) (o4 := .cells #[.int .i64 id, .int .i64 value, .bool true, .bool false, .int .i64 0] 50) (Below.refl _ _)
 generalize (((w.alloc (.cells #[.string tag, .int .i64 src, .int .i64 steps] 26)).alloc (.cells #[.int .i64 id, .int .i64 value, .bool active, .bool false, .int .i64 inn] 50)).alloc (.cells #[.int .i64 0, .int .i64 0, .bool false, .bool false, .int .i64 0] 50)).alloc (.cells #[.int .i64 id, .int .i64 value, .bool true, .bool false, .int .i64 0] 50) = W0 at FB ⊢
 obtain ⟨_, BXw, BRw, BYw, _, HBw⟩ := FB
 obtain ⟨y0, y1, y2, y3, y4⟩ := c5z W0 BYw.out
 obtain ⟨r0, r1, r2, r3, r4, f0, f1, f2, f3, f4⟩ := q5z W0 BRw.out
 go_region_held3 (fun w' => w'.cell? ⟨w.heap.size + 1 + 1 + 1, 0, none⟩ = some (.int .i64 id) ∧ w'.cell? ⟨w.heap.size + 1 + 1 + 1, 1, none⟩ = some (.int .i64 value) ∧ w'.cell? ⟨w.heap.size + 1 + 1 + 1, 2, none⟩ = some (.bool true) ∧ w'.cell? ⟨w.heap.size + 1 + 1 + 1, 3, none⟩ = some (.bool false) ∧ w'.cell? ⟨w.heap.size + 1 + 1 + 1, 4, none⟩ = some (.int .i64 0)) (first | (with_reducible exact ⟨cell_drew_of y0, cell_drew_of y1, cell_drew_of y2, cell_drew_of y3, cell_drew_of y4⟩) | (with_reducible exact ⟨z0, z1, z2, z3, z4⟩) | (with_reducible exact ⟨cell_dn y0, cell_dn y1, cell_dn y2, cell_dn y3, cell_dn y4⟩) | (with_reducible exact ⟨far5d y0 NA_.out, far5d y1 NA_.out, far5d y2 NA_.out, far5d y3 NA_.out, far5d y4 NA_.out⟩) | (with_reducible exact ⟨far5 y0 NA_.out, far5 y1 NA_.out, far5 y2 NA_.out, far5 y3 NA_.out, far5 y4 NA_.out⟩) | (with_reducible exact ⟨cell_dn (far5 y0 NA_.out), cell_dn (far5 y1 NA_.out), cell_dn (far5 y2 NA_.out), cell_dn (far5 y3 NA_.out), cell_dn (far5 y4 NA_.out)⟩) | (with_reducible exact ⟨far5d z0 NA_.out, far5d z1 NA_.out, far5d z2 NA_.out, far5d z3 NA_.out, far5d z4 NA_.out⟩) | (with_reducible exact ⟨far5 z0 NA_.out, far5 z1 NA_.out, far5 z2 NA_.out, far5 z3 NA_.out, far5 z4 NA_.out⟩) | go_keep)
  (first
   | (go_at_call 75; refine (HF2 _).mono ?_; rintro x w3 ⟨rfl, ⟨nd2, rfl⟩⟩)
   | (go_at_call 74; refine (HALL.out gv 0 _ HB_.out (pw_below_drewN HBw.out _)).mono ?_; rintro x w4 ⟨v3, rfl, hR3, hb3⟩; obtain ⟨z0, z1, z2, z3, z4, z5, BK3, HB3, HS3⟩ := next_facts2 (blk_drewN BXw.out _) (blk_drewN BRw.out _) (blk_drewN BYw.out _) (pw_below_drewN HBw.out _) hb3; obtain ⟨A9, c9, e9⟩ := Kd.R_slice hR3; subst e9; rw [List.length_map] at hR3; have HR3 := Aside0.mk (Kd.R_lower hR3 HS3.out); clear hR3 hb3; have s0 : w4.cell? ⟨w.heap.size + 1 + 1, 0, none⟩ = some (.int .i64 0) := (blk_cell BK3.out 0).trans rfl; have g0 := bz BK3.out 0; have s1 : w4.cell? ⟨w.heap.size + 1 + 1, 1, none⟩ = some (.int .i64 0) := (blk_cell BK3.out 1).trans rfl; have g1 := bz BK3.out 1; have s2 : w4.cell? ⟨w.heap.size + 1 + 1, 2, none⟩ = some (.bool false) := (blk_cell BK3.out 2).trans rfl; have g2 := bz BK3.out 2; have s3 : w4.cell? ⟨w.heap.size + 1 + 1, 3, none⟩ = some (.bool false) := (blk_cell BK3.out 3).trans rfl; have g3 := bz BK3.out 3; have s4 : w4.cell? ⟨w.heap.size + 1 + 1, 4, none⟩ = some (.int .i64 0) := (blk_cell BK3.out 4).trans rfl; have g4 := bz BK3.out 4)
   | (go_at_call 74; refine (HALL.out gv 0 _ HB_.out (pw_below_drewN (bq (bq (bq (bq (bq HBw.out (by omega)) (by omega)) (by omega)) (by omega)) (by omega)) _)).mono ?_; rintro x w4 ⟨v3, rfl, hR3, hb3⟩; obtain ⟨z0, z1, z2, z3, z4, z5, BK3, HB3, HS3⟩ := next_facts2 (blk_drewN (blk_far (blk_far (blk_far (blk_far (blk_far BXw.out NB_.out _) NB_.out _) NB_.out _) NB_.out _) NB_.out _) _) (blk_drewN (blk_put (blk_put (blk_put (blk_put (blk_put BRw.out 0 _ rfl) 1 _ rfl) 2 _ rfl) 3 _ rfl) 4 _ rfl) _) (blk_drewN (blk_far (blk_far (blk_far (blk_far (blk_far BYw.out NA_.out _) NA_.out _) NA_.out _) NA_.out _) NA_.out _) _) (pw_below_drewN (bq (bq (bq (bq (bq HBw.out (by omega)) (by omega)) (by omega)) (by omega)) (by omega)) _) hb3; obtain ⟨A9, c9, e9⟩ := Kd.R_slice hR3; subst e9; rw [List.length_map] at hR3; have HR3 := Aside0.mk (Kd.R_lower hR3 HS3.out); clear hR3 hb3))
 all_goals
  go_wp2
  refine bodyPost_ret (results_ct rfl _ _ (w.heap.size + 1 + 1) 50 #[.int .i64 id, .int .i64 value, .bool true, .bool false, .int .i64 0] (0, 0) _ rfl ?hg Tryz.underlying50 rfl (by kernel_rfl)) rfl ?_
  case hg => first | exact blk_put (blk_put (blk_put (blk_put (blk_put BK3.out 0 _ rfl) 1 _ rfl) 2 _ rfl) 3 _ rfl) 4 _ rfl | exact BK3.out
  exact ⟨_, rfl, by first | exact set5_R HR3.out BK3.out (Nat.le_refl _) | exact HR3.out, by first | exact bq (bq (bq (bq (bq HB3.out (by omega)) (by omega)) (by omega)) (by omega)) (by omega) | exact HB3.out⟩
set_option maxHeartbeats 16000000 in
set_option maxRecDepth 100000 in
theorem plain.rank_late_false_last (tag : ByteArray) (src steps at_ id value inn : Int) (active : Bool) (A3 : Option Addr) (c3 : Nat) (l : List S48) (w : World) (HALL : AllOk w A3 c3 l) (hv0 : smallV value) (hi0 : smallV inn) (n1 : ¬ tag.toList = sMax) (n2 : ¬ tag.toList = sLabel) (n3 : ¬ tag.toList = sSssp) (n4 : ¬ tag.toList = sBfs) (n5 : ¬ tag.toList = sDegree) (n6 : ¬ tag.toList = sWalks) (h0 : 0 < at_) (hs : 1 ≤ steps ∧ steps ≤ 1000000) (hl : at_ = steps - 1) :
  Calls Tryz.prog 51 #[.agg #[.string tag, .int .i64 src, .int .i64 steps], .int .i64 at_, .agg #[.int .i64 id, .int .i64 value, .bool active, .bool false, .int .i64 inn], .slice A3 l.length c3] w (PlainPost w (id, 9830 + downV (0 * 85) 100, false, false, 0, [])) := by
 have hu1 := Tryz.underlying50
 have hu2 := Tryz.underlying26
 have t_sMax : (tag.toList == ([109, 97, 120] : List UInt8)) = false := beq_eq_false_iff_ne.mpr n1
 have t_sLabel : (tag.toList == ([108, 97, 98, 101, 108] : List UInt8)) = false := beq_eq_false_iff_ne.mpr n2
 have t_sSssp : (tag.toList == ([115, 115, 115, 112] : List UInt8)) = false := beq_eq_false_iff_ne.mpr n3
 have t_sBfs : (tag.toList == ([98, 102, 115] : List UInt8)) = false := beq_eq_false_iff_ne.mpr n4
 have t_sDegree : (tag.toList == ([100, 101, 103, 114, 101, 101] : List UInt8)) = false := beq_eq_false_iff_ne.mpr n5
 have t_sWalks : (tag.toList == ([119, 97, 108, 107, 115] : List UInt8)) = false := beq_eq_false_iff_ne.mpr n6
 clear n1 n2 n3 n4 n5 n6
 unfold smallV at hv0 hi0
 have hd := downV_range (0 * 85) 100 100000000000000000 (by omega) (by omega) (by omega)
 have hm1 : wrap64 (85 * 0) = 0 := by unfold wrap64; omega
 have hm2 : wrap64 (9830 + downV (0 * 85) 100) = 9830 + downV (0 * 85) 100 := by unfold wrap64; omega
 have HF1 : ∀ W, Calls Tryz.prog 75 #[.int .i64 (0), .int .i64 100] W fun e w' => e = .returned (.int .i64 (downV (0 * 85) 100)) ∧ Drawn0 W w' := fun W => modillionref07_floor.calls _ _ _ W (floor_ok _ _ (by omega) (by omega) (by omega) (by omega))
 clear hm1
 have hm3 : wrap64 (steps - 1) = steps - 1 := by unfold wrap64; omega
 have hl2 : (at_ == steps - 1) = true := beq_iff_eq.mpr hl
 clear hl
 clear hv0 hi0 hs
 clear hd
 generalize downV (0 * 85) 100 = dv at HF1 hm2 ⊢
 have hz : decide (0 < at_) = true := decide_eq_true h0
 clear h0
 go_enter Tryz.func51, Tryz.ntmps51
 have NA_ : Aside0 (w.heap.size + 1 + 1 + 1 ≠ w.heap.size + 1 + 1) := ⟨by omega⟩
 have NB_ : Aside0 (w.heap.size + 1 ≠ w.heap.size + 1 + 1) := ⟨by omega⟩
 have NC_ : Aside0 (w.heap.size + 1 + 1 ≠ w.heap.size + 1 + 1 + 1) := ⟨by omega⟩
 have ND_ : Aside0 (w.heap.size + 1 ≠ w.heap.size + 1 + 1 + 1) := ⟨by omega⟩
 go_wp2_with (fail)
 refine (HF1 _).mono ?_
 rintro x w3 ⟨rfl, ⟨nd1, hw3⟩⟩
 obtain ⟨BJ0, BX0, BR0, BY0, SZ0, HB0⟩ := four_blocks_d hw3
 clear HF1 hw3
 have j2 : w3.cell? ⟨w.heap.size, 2, none⟩ = some (.int .i64 steps) := (blk_cell BJ0.out 2).trans rfl
 have jn : w.heap.size ≠ w.heap.size + 1 + 1 + 1 := by omega
 obtain ⟨y0, y1, y2, y3, y4⟩ := c5z w3 BY0.out
 have y5 : w3.cell? ⟨w.heap.size + 1, 1, none⟩ = some (.int .i64 value) := (blk_cell BX0.out 1).trans rfl
 obtain ⟨r0, r1, r2, r3, r4, f0, f1, f2, f3, f4⟩ := q5z w3 BR0.out
 have p1 := bz BY0.out 1
 have p2 := bz BY0.out 2
 go_wp2
 refine bodyPost_ret (results_ct rfl _ _ (w.heap.size + 1 + 1) 50 #[.int .i64 id, .int .i64 (9830 + dv), .bool false, .bool false, .int .i64 0] (0, 0) _ rfl ?hg Tryz.underlying50 rfl (by kernel_rfl)) rfl ?_
 case hg => exact (blk_put (blk_put (blk_put (blk_put (blk_put (blk_far BR0.out NC_.out _) 0 _ rfl) 1 _ rfl) 2 _ rfl) 3 _ rfl) 4 _ rfl)
 exact ⟨_, rfl, Kd.R_nil _ _ _ _ _, (bq (bq (bq (bq (bq (bq HB0.out (by omega)) (by omega)) (by omega)) (by omega)) (by omega)) (by omega))⟩
set_option maxHeartbeats 16000000 in
set_option maxRecDepth 100000 in
theorem plain.rank_late_false_none (tag : ByteArray) (src steps at_ id value inn : Int) (active : Bool) (A3 : Option Addr) (c3 : Nat) (l : List S48) (w : World) (HALL : AllOk w A3 c3 l) (hv0 : smallV value) (hi0 : smallV inn) (n1 : ¬ tag.toList = sMax) (n2 : ¬ tag.toList = sLabel) (n3 : ¬ tag.toList = sSssp) (n4 : ¬ tag.toList = sBfs) (n5 : ¬ tag.toList = sDegree) (n6 : ¬ tag.toList = sWalks) (h0 : 0 < at_) (hs : 1 ≤ steps ∧ steps ≤ 1000000) (hl : ¬ at_ = steps - 1) (he : l.length = 0) :
  Calls Tryz.prog 51 #[.agg #[.string tag, .int .i64 src, .int .i64 steps], .int .i64 at_, .agg #[.int .i64 id, .int .i64 value, .bool active, .bool false, .int .i64 inn], .slice A3 l.length c3] w (PlainPost w (id, 9830 + downV (0 * 85) 100, true, false, 0, [])) := by
 have hu1 := Tryz.underlying50
 have hu2 := Tryz.underlying26
 have t_sMax : (tag.toList == ([109, 97, 120] : List UInt8)) = false := beq_eq_false_iff_ne.mpr n1
 have t_sLabel : (tag.toList == ([108, 97, 98, 101, 108] : List UInt8)) = false := beq_eq_false_iff_ne.mpr n2
 have t_sSssp : (tag.toList == ([115, 115, 115, 112] : List UInt8)) = false := beq_eq_false_iff_ne.mpr n3
 have t_sBfs : (tag.toList == ([98, 102, 115] : List UInt8)) = false := beq_eq_false_iff_ne.mpr n4
 have t_sDegree : (tag.toList == ([100, 101, 103, 114, 101, 101] : List UInt8)) = false := beq_eq_false_iff_ne.mpr n5
 have t_sWalks : (tag.toList == ([119, 97, 108, 107, 115] : List UInt8)) = false := beq_eq_false_iff_ne.mpr n6
 clear n1 n2 n3 n4 n5 n6
 unfold smallV at hv0 hi0
 have hd := downV_range (0 * 85) 100 100000000000000000 (by omega) (by omega) (by omega)
 have hm1 : wrap64 (85 * 0) = 0 := by unfold wrap64; omega
 have hm2 : wrap64 (9830 + downV (0 * 85) 100) = 9830 + downV (0 * 85) 100 := by unfold wrap64; omega
 have HF1 : ∀ W, Calls Tryz.prog 75 #[.int .i64 (0), .int .i64 100] W fun e w' => e = .returned (.int .i64 (downV (0 * 85) 100)) ∧ Drawn0 W w' := fun W => modillionref07_floor.calls _ _ _ W (floor_ok _ _ (by omega) (by omega) (by omega) (by omega))
 clear hm1
 have hm3 : wrap64 (steps - 1) = steps - 1 := by unfold wrap64; omega
 have hl2 : (at_ == steps - 1) = false := beq_eq_false_iff_ne.mpr hl
 have he2 : ((l.length : Int) == 0) = true := beq_iff_eq.mpr (by omega)
 have he3 : (l.length == 0) = true := beq_iff_eq.mpr he
 have he4 : l.isEmpty = true := by rw [List.isEmpty_iff_length_eq_zero]; exact he
 have he5 : l = [] := List.length_eq_zero_iff.mp he
 subst he5
 clear hl he
 clear hv0 hi0 hs
 clear hd
 generalize downV (0 * 85) 100 = dv at HF1 hm2 ⊢
 have hz : decide (0 < at_) = true := decide_eq_true h0
 clear h0
 go_enter Tryz.func51, Tryz.ntmps51
 have NA_ : Aside0 (w.heap.size + 1 + 1 + 1 ≠ w.heap.size + 1 + 1) := ⟨by omega⟩
 have NB_ : Aside0 (w.heap.size + 1 ≠ w.heap.size + 1 + 1) := ⟨by omega⟩
 have NC_ : Aside0 (w.heap.size + 1 + 1 ≠ w.heap.size + 1 + 1 + 1) := ⟨by omega⟩
 have ND_ : Aside0 (w.heap.size + 1 ≠ w.heap.size + 1 + 1 + 1) := ⟨by omega⟩
 go_wp2_with (fail)
 refine (HF1 _).mono ?_
 rintro x w3 ⟨rfl, ⟨nd1, hw3⟩⟩
 obtain ⟨BJ0, BX0, BR0, BY0, SZ0, HB0⟩ := four_blocks_d hw3
 clear HF1 hw3
 have j2 : w3.cell? ⟨w.heap.size, 2, none⟩ = some (.int .i64 steps) := (blk_cell BJ0.out 2).trans rfl
 have jn : w.heap.size ≠ w.heap.size + 1 + 1 + 1 := by omega
 obtain ⟨y0, y1, y2, y3, y4⟩ := c5z w3 BY0.out
 have y5 : w3.cell? ⟨w.heap.size + 1, 1, none⟩ = some (.int .i64 value) := (blk_cell BX0.out 1).trans rfl
 obtain ⟨r0, r1, r2, r3, r4, f0, f1, f2, f3, f4⟩ := q5z w3 BR0.out
 have p1 := bz BY0.out 1
 have p2 := bz BY0.out 2
 go_wp2
 refine bodyPost_ret (results_ct rfl _ _ (w.heap.size + 1 + 1) 50 #[.int .i64 id, .int .i64 (9830 + dv), .bool true, .bool false, .int .i64 0] (0, 0) _ rfl ?hg Tryz.underlying50 rfl (by kernel_rfl)) rfl ?_
 case hg => exact (blk_put (blk_put (blk_put (blk_put (blk_put (blk_far (blk_far BR0.out NC_.out _) NC_.out _) 0 _ rfl) 1 _ rfl) 2 _ rfl) 3 _ rfl) 4 _ rfl)
 exact ⟨_, rfl, Kd.R_nil _ _ _ _ _, (bq (bq (bq (bq (bq (bq (bq HB0.out (by omega)) (by omega)) (by omega)) (by omega)) (by omega)) (by omega)) (by omega))⟩
set_option maxHeartbeats 16000000 in
set_option maxRecDepth 100000 in
theorem plain.rank_late_false_all (tag : ByteArray) (src steps at_ id value inn : Int) (active : Bool) (A3 : Option Addr) (c3 : Nat) (l : List S48) (w : World) (HALL : AllOk w A3 c3 l) (hv0 : smallV value) (hi0 : smallV inn) (n1 : ¬ tag.toList = sMax) (n2 : ¬ tag.toList = sLabel) (n3 : ¬ tag.toList = sSssp) (n4 : ¬ tag.toList = sBfs) (n5 : ¬ tag.toList = sDegree) (n6 : ¬ tag.toList = sWalks) (h0 : 0 < at_) (hs : 1 ≤ steps ∧ steps ≤ 1000000) (hl : ¬ at_ = steps - 1) (he : ¬ l.length = 0) (hlen : l.length ≤ 1000000) :
  Calls Tryz.prog 51 #[.agg #[.string tag, .int .i64 src, .int .i64 steps], .int .i64 at_, .agg #[.int .i64 id, .int .i64 value, .bool active, .bool false, .int .i64 inn], .slice A3 l.length c3] w (PlainPost w (id, 9830 + downV (0 * 85) 100, true, false, 0, l.map (allV (downV (9830 + downV (0 * 85) 100) (l.length : Int)) 0))) := by
 have hu1 := Tryz.underlying50
 have hu2 := Tryz.underlying26
 have t_sMax : (tag.toList == ([109, 97, 120] : List UInt8)) = false := beq_eq_false_iff_ne.mpr n1
 have t_sLabel : (tag.toList == ([108, 97, 98, 101, 108] : List UInt8)) = false := beq_eq_false_iff_ne.mpr n2
 have t_sSssp : (tag.toList == ([115, 115, 115, 112] : List UInt8)) = false := beq_eq_false_iff_ne.mpr n3
 have t_sBfs : (tag.toList == ([98, 102, 115] : List UInt8)) = false := beq_eq_false_iff_ne.mpr n4
 have t_sDegree : (tag.toList == ([100, 101, 103, 114, 101, 101] : List UInt8)) = false := beq_eq_false_iff_ne.mpr n5
 have t_sWalks : (tag.toList == ([119, 97, 108, 107, 115] : List UInt8)) = false := beq_eq_false_iff_ne.mpr n6
 clear n1 n2 n3 n4 n5 n6
 unfold smallV at hv0 hi0
 have hd := downV_range (0 * 85) 100 100000000000000000 (by omega) (by omega) (by omega)
 have hm1 : wrap64 (85 * 0) = 0 := by unfold wrap64; omega
 have hm2 : wrap64 (9830 + downV (0 * 85) 100) = 9830 + downV (0 * 85) 100 := by unfold wrap64; omega
 have HF1 : ∀ W, Calls Tryz.prog 75 #[.int .i64 (0), .int .i64 100] W fun e w' => e = .returned (.int .i64 (downV (0 * 85) 100)) ∧ Drawn0 W w' := fun W => modillionref07_floor.calls _ _ _ W (floor_ok _ _ (by omega) (by omega) (by omega) (by omega))
 clear hm1
 have hm3 : wrap64 (steps - 1) = steps - 1 := by unfold wrap64; omega
 have hl2 : (at_ == steps - 1) = false := beq_eq_false_iff_ne.mpr hl
 have e1 : ((l.length : Int) == 0) = false := beq_eq_false_iff_ne.mpr (by omega)
 have e2 : (l.length == 0) = false := beq_eq_false_iff_ne.mpr he
 have e3 : l.isEmpty = false := by rw [Bool.eq_false_iff, Ne, List.isEmpty_iff_length_eq_zero]; exact he
 have hvv : -2251799813685248 ≤ 9830 + downV (0 * 85) 100 ∧ 9830 + downV (0 * 85) 100 ≤ 2251799813685248 := by unfold downV; omega
 have hgr := downV_range (9830 + downV (0 * 85) 100) (l.length : Int) 2251799813685248 (by omega) hvv.1 hvv.2
 have HF2 : ∀ W, Calls Tryz.prog 75 #[.int .i64 (9830 + downV (0 * 85) 100), .int .i64 (l.length : Int)] W fun e w' => e = .returned (.int .i64 (downV (9830 + downV (0 * 85) 100) (l.length : Int))) ∧ Drawn0 W w' := fun W => modillionref07_floor.calls _ _ _ W (floor_ok _ _ (by omega) (by omega) (by omega) (by omega))
 generalize hgv : downV (9830 + downV (0 * 85) 100) (l.length : Int) = gv at HF2 hgr ⊢
 have HB_ : Aside0 (-9007199254740992 ≤ gv ∧ gv ≤ 9007199254740992) := ⟨by omega⟩
 clear hl he hlen hvv hgr hgv
 clear hv0 hi0 hs
 clear hd
 generalize downV (0 * 85) 100 = dv at HF1 HF2 hm2 ⊢
 have hz : decide (0 < at_) = true := decide_eq_true h0
 clear h0
 go_enter Tryz.func51, Tryz.ntmps51
 have NA_ : Aside0 (w.heap.size + 1 + 1 + 1 ≠ w.heap.size + 1 + 1) := ⟨by omega⟩
 have NB_ : Aside0 (w.heap.size + 1 ≠ w.heap.size + 1 + 1) := ⟨by omega⟩
 have NC_ : Aside0 (w.heap.size + 1 + 1 ≠ w.heap.size + 1 + 1 + 1) := ⟨by omega⟩
 have ND_ : Aside0 (w.heap.size + 1 ≠ w.heap.size + 1 + 1 + 1) := ⟨by omega⟩
 go_wp2_with (fail)
 refine (HF1 _).mono ?_
 rintro x w3 ⟨rfl, ⟨nd1, hw3⟩⟩
 obtain ⟨BJ0, BX0, BR0, BY0, SZ0, HB0⟩ := four_blocks_d hw3
 clear HF1 hw3
 have j2 : w3.cell? ⟨w.heap.size, 2, none⟩ = some (.int .i64 steps) := (blk_cell BJ0.out 2).trans rfl
 have jn : w.heap.size ≠ w.heap.size + 1 + 1 + 1 := by omega
 obtain ⟨y0, y1, y2, y3, y4⟩ := c5z w3 BY0.out
 have y5 : w3.cell? ⟨w.heap.size + 1, 1, none⟩ = some (.int .i64 value) := (blk_cell BX0.out 1).trans rfl
 obtain ⟨r0, r1, r2, r3, r4, f0, f1, f2, f3, f4⟩ := q5z w3 BR0.out
 have p1 := bz BY0.out 1
 have p2 := bz BY0.out 2
 go_wp2
 have BXw : Aside0 (((w3.setCell ⟨w.heap.size + 1 + 1 + 1, 1, none⟩ (.int .i64 (9830 + dv))).setCell ⟨w.heap.size + 1 + 1 + 1, 2, none⟩ (.bool true)).heap[w.heap.size + 1]? = some (.cells #[.int .i64 id, .int .i64 value, .bool active, .bool false, .int .i64 inn] 50 (0, 0))) := ⟨blk_far (blk_far BX0.out ND_.out _) ND_.out _⟩
 have BRw : Aside0 (((w3.setCell ⟨w.heap.size + 1 + 1 + 1, 1, none⟩ (.int .i64 (9830 + dv))).setCell ⟨w.heap.size + 1 + 1 + 1, 2, none⟩ (.bool true)).heap[w.heap.size + 1 + 1]? = some (.cells #[.int .i64 0, .int .i64 0, .bool false, .bool false, .int .i64 0] 50 (0, 0))) := ⟨blk_far (blk_far BR0.out NC_.out _) NC_.out _⟩
 have BYw : Aside0 (((w3.setCell ⟨w.heap.size + 1 + 1 + 1, 1, none⟩ (.int .i64 (9830 + dv))).setCell ⟨w.heap.size + 1 + 1 + 1, 2, none⟩ (.bool true)).heap[w.heap.size + 1 + 1 + 1]? = some (.cells #[.int .i64 id, .int .i64 (9830 + dv), .bool true, .bool false, .int .i64 0] 50 (0, 0))) := ⟨blk_put (blk_put BY0.out 1 _ rfl) 2 _ rfl⟩
 have HBw : Aside0 (Below w.heap.size w ((w3.setCell ⟨w.heap.size + 1 + 1 + 1, 1, none⟩ (.int .i64 (9830 + dv))).setCell ⟨w.heap.size + 1 + 1 + 1, 2, none⟩ (.bool true))) := ⟨bq (bq HB0.out (by omega)) (by omega)⟩
 clear y0 y1 y2 y3 y4 y5 r0 r1 r2 r3 r4 f0 f1 f2 f3 f4 p1 p2 j2 BJ0 BX0 BR0 BY0 SZ0 HB0
 generalize ((w3.setCell ⟨w.heap.size + 1 + 1 + 1, 1, none⟩ (.int .i64 (9830 + dv))).setCell ⟨w.heap.size + 1 + 1 + 1, 2, none⟩ (.bool true)) = W0 at BXw BRw BYw HBw ⊢
 obtain ⟨y0, y1, y2, y3, y4⟩ := c5z W0 BYw.out
 obtain ⟨r0, r1, r2, r3, r4, f0, f1, f2, f3, f4⟩ := q5z W0 BRw.out
 go_region_held3 (fun w' => w'.cell? ⟨w.heap.size + 1 + 1 + 1, 0, none⟩ = some (.int .i64 id) ∧ w'.cell? ⟨w.heap.size + 1 + 1 + 1, 1, none⟩ = some (.int .i64 (9830 + dv)) ∧ w'.cell? ⟨w.heap.size + 1 + 1 + 1, 2, none⟩ = some (.bool true) ∧ w'.cell? ⟨w.heap.size + 1 + 1 + 1, 3, none⟩ = some (.bool false) ∧ w'.cell? ⟨w.heap.size + 1 + 1 + 1, 4, none⟩ = some (.int .i64 0)) (first | (with_reducible exact ⟨cell_drew_of y0, cell_drew_of y1, cell_drew_of y2, cell_drew_of y3, cell_drew_of y4⟩) | (with_reducible exact ⟨z0, z1, z2, z3, z4⟩) | (with_reducible exact ⟨cell_dn y0, cell_dn y1, cell_dn y2, cell_dn y3, cell_dn y4⟩) | (with_reducible exact ⟨far5d y0 NA_.out, far5d y1 NA_.out, far5d y2 NA_.out, far5d y3 NA_.out, far5d y4 NA_.out⟩) | (with_reducible exact ⟨far5 y0 NA_.out, far5 y1 NA_.out, far5 y2 NA_.out, far5 y3 NA_.out, far5 y4 NA_.out⟩) | (with_reducible exact ⟨cell_dn (far5 y0 NA_.out), cell_dn (far5 y1 NA_.out), cell_dn (far5 y2 NA_.out), cell_dn (far5 y3 NA_.out), cell_dn (far5 y4 NA_.out)⟩) | (with_reducible exact ⟨far5d z0 NA_.out, far5d z1 NA_.out, far5d z2 NA_.out, far5d z3 NA_.out, far5d z4 NA_.out⟩) | (with_reducible exact ⟨far5 z0 NA_.out, far5 z1 NA_.out, far5 z2 NA_.out, far5 z3 NA_.out, far5 z4 NA_.out⟩) | go_keep)
  (first
   | (go_at_call 75; refine (HF2 _).mono ?_; rintro x w3 ⟨rfl, ⟨nd2, rfl⟩⟩)
   | (go_at_call 74; refine (HALL.out gv 0 _ HB_.out (pw_below_drewN HBw.out _)).mono ?_; rintro x w4 ⟨v3, rfl, hR3, hb3⟩; obtain ⟨z0, z1, z2, z3, z4, z5, BK3, HB3, HS3⟩ := next_facts2 (blk_drewN BXw.out _) (blk_drewN BRw.out _) (blk_drewN BYw.out _) (pw_below_drewN HBw.out _) hb3; obtain ⟨A9, c9, e9⟩ := Kd.R_slice hR3; subst e9; rw [List.length_map] at hR3; have HR3 := Aside0.mk (Kd.R_lower hR3 HS3.out); clear hR3 hb3; have s0 : w4.cell? ⟨w.heap.size + 1 + 1, 0, none⟩ = some (.int .i64 0) := (blk_cell BK3.out 0).trans rfl; have g0 := bz BK3.out 0; have s1 : w4.cell? ⟨w.heap.size + 1 + 1, 1, none⟩ = some (.int .i64 0) := (blk_cell BK3.out 1).trans rfl; have g1 := bz BK3.out 1; have s2 : w4.cell? ⟨w.heap.size + 1 + 1, 2, none⟩ = some (.bool false) := (blk_cell BK3.out 2).trans rfl; have g2 := bz BK3.out 2; have s3 : w4.cell? ⟨w.heap.size + 1 + 1, 3, none⟩ = some (.bool false) := (blk_cell BK3.out 3).trans rfl; have g3 := bz BK3.out 3; have s4 : w4.cell? ⟨w.heap.size + 1 + 1, 4, none⟩ = some (.int .i64 0) := (blk_cell BK3.out 4).trans rfl; have g4 := bz BK3.out 4)
   | (go_at_call 74; refine (HALL.out gv 0 _ HB_.out (pw_below_drewN (bq (bq (bq (bq (bq HBw.out (by omega)) (by omega)) (by omega)) (by omega)) (by omega)) _)).mono ?_; rintro x w4 ⟨v3, rfl, hR3, hb3⟩; obtain ⟨z0, z1, z2, z3, z4, z5, BK3, HB3, HS3⟩ := next_facts2 (blk_drewN (blk_far (blk_far (blk_far (blk_far (blk_far BXw.out NB_.out _) NB_.out _) NB_.out _) NB_.out _) NB_.out _) _) (blk_drewN (blk_put (blk_put (blk_put (blk_put (blk_put BRw.out 0 _ rfl) 1 _ rfl) 2 _ rfl) 3 _ rfl) 4 _ rfl) _) (blk_drewN (blk_far (blk_far (blk_far (blk_far (blk_far BYw.out NA_.out _) NA_.out _) NA_.out _) NA_.out _) NA_.out _) _) (pw_below_drewN (bq (bq (bq (bq (bq HBw.out (by omega)) (by omega)) (by omega)) (by omega)) (by omega)) _) hb3; obtain ⟨A9, c9, e9⟩ := Kd.R_slice hR3; subst e9; rw [List.length_map] at hR3; have HR3 := Aside0.mk (Kd.R_lower hR3 HS3.out); clear hR3 hb3))
 all_goals
  go_wp2
  refine bodyPost_ret (results_ct rfl _ _ (w.heap.size + 1 + 1) 50 #[.int .i64 id, .int .i64 (9830 + dv), .bool true, .bool false, .int .i64 0] (0, 0) _ rfl ?hg Tryz.underlying50 rfl (by kernel_rfl)) rfl ?_
  case hg => first | exact blk_put (blk_put (blk_put (blk_put (blk_put BK3.out 0 _ rfl) 1 _ rfl) 2 _ rfl) 3 _ rfl) 4 _ rfl | exact BK3.out
  exact ⟨_, rfl, by first | exact set5_R HR3.out BK3.out (Nat.le_refl _) | exact HR3.out, by first | exact bq (bq (bq (bq (bq HB3.out (by omega)) (by omega)) (by omega)) (by omega)) (by omega) | exact HB3.out⟩
def plainV (t : List UInt8) (src steps at_ id value : Int) (has : Bool) (inn : Int) (l : List S48) : Int × Int × Bool × Bool × Int × List S61 :=
  (id, (stepV t src steps at_ id value has inn (l.length : Int)).1, (stepV t src steps at_ id value has inn (l.length : Int)).2.1, false, 0, if (stepV t src steps at_ id value has inn (l.length : Int)).2.2.1 = true then l.map (sendV t id (stepV t src steps at_ id value has inn (l.length : Int)).2.2.2) else [])
theorem plainV_of {t : List UInt8} {src steps at_ id value inn : Int} {has : Bool} {l : List S48} {v wh : Int} {a s : Bool} (hst : stepV t src steps at_ id value has inn (l.length : Int) = (v, a, s, wh)) : plainV t src steps at_ id value has inn l = (id, v, a, false, 0, if s = true then l.map (sendV t id wh) else []) := by
  unfold plainV
  rw [hst]
theorem send_all {t : List UInt8} {id v c : Int} {l : List S48} (hf : ∀ e ∈ l, e.f0 = id) (hw : ∀ e : S48, weightV t e = if c = 1 then 1 else if c = 2 then e.f2 else 0) : l.map (sendV t id v) = l.map (allV v c) := by
  apply List.map_congr_left
  intro e he
  unfold allV sendV
  rw [hf e he, hw e]
set_option maxHeartbeats 1000000 in
theorem plain.on_sMax (tag : ByteArray) (src steps at_ id value inn : Int) (active has : Bool) (A3 : Option Addr) (c3 : Nat) (l : List S48) (w : World) (HALL : AllOk w A3 c3 l) (hv0 : smallV value) (hi0 : smallV inn) (h0 : 0 ≤ at_) (hs : 1 ≤ steps ∧ steps ≤ 1000000) (hlen : l.length ≤ 1000000) (hf : ∀ e ∈ l, e.f0 = id) (ht : tag.toList = sMax) :
    Calls Tryz.prog 51 #[.agg #[.string tag, .int .i64 src, .int .i64 steps], .int .i64 at_, .agg #[.int .i64 id, .int .i64 value, .bool active, .bool has, .int .i64 inn], .slice A3 l.length c3] w (PlainPost w (plainV tag.toList src steps at_ id value has (if has = true then inn else 0) l)) := by
  have hw : ∀ e : S48, weightV tag.toList e = if (0 : Int) = 1 then 1 else if (0 : Int) = 2 then e.f2 else 0 := fun e => by rw [ht]; rfl
  by_cases z : at_ = 0
  · have hst : stepV tag.toList src steps at_ id value has (if has = true then inn else 0) (l.length : Int) = (value, false, true, value) := by
      unfold stepV
      rw [if_pos ht]; unfold betterV; rw [if_pos (decide_eq_true z)]
    rw [plainV_of hst]
    simp only [if_true]
    rw [send_all (c := 0) hf hw]
    cases has with
    | false => exact plain.onAf tag src steps at_ id value inn active A3 c3 l w HALL hv0 hi0 (.max ht z)
    | true => exact plain.onAt tag src steps at_ id value inn active A3 c3 l w HALL hv0 hi0 (.max ht z)
  · cases has with
    | false =>
      rw [show (if (false : Bool) = true then inn else 0) = 0 from rfl]
      have hst : stepV tag.toList src steps at_ id value false 0 (l.length : Int) = (value, false, false, 0) := by
        unfold stepV
        rw [if_pos ht]; unfold betterV; rw [if_neg (by simpa using z), if_neg (by simp)]
      rw [plainV_of hst]
      simp only [Bool.false_eq_true, if_false]
      exact plain.onN tag src steps at_ id value inn active A3 c3 l w HALL hv0 hi0 (.max0 ht z)
    | true =>
      rw [show (if (true : Bool) = true then inn else 0) = inn from rfl]
      by_cases c : inn > value
      · have hst : stepV tag.toList src steps at_ id value true inn (l.length : Int) = (inn, false, true, inn) := by
          unfold stepV
          rw [if_pos ht]; unfold betterV; rw [if_neg (by simpa using z), if_pos (by rw [decide_eq_true (show at_ > 0 by omega), decide_eq_true c]; rfl)]
        rw [plainV_of hst]
        simp only [if_true]
        rw [send_all (c := 0) hf hw]
        exact plain.onB tag src steps at_ id value inn active A3 c3 l w HALL hv0 hi0 (.max ht z c)
      · have hst : stepV tag.toList src steps at_ id value true inn (l.length : Int) = (value, false, false, 0) := by
          unfold stepV
          rw [if_pos ht]; unfold betterV; rw [if_neg (by simpa using z), if_neg (by rw [decide_eq_false c]; simp)]
        rw [plainV_of hst]
        simp only [Bool.false_eq_true, if_false]
        exact plain.onN tag src steps at_ id value inn active A3 c3 l w HALL hv0 hi0 (.max ht z c)
set_option maxHeartbeats 1000000 in
theorem plain.on_sLabel (tag : ByteArray) (src steps at_ id value inn : Int) (active has : Bool) (A3 : Option Addr) (c3 : Nat) (l : List S48) (w : World) (HALL : AllOk w A3 c3 l) (hv0 : smallV value) (hi0 : smallV inn) (h0 : 0 ≤ at_) (hs : 1 ≤ steps ∧ steps ≤ 1000000) (hlen : l.length ≤ 1000000) (hf : ∀ e ∈ l, e.f0 = id) (ht : tag.toList = sLabel) :
    Calls Tryz.prog 51 #[.agg #[.string tag, .int .i64 src, .int .i64 steps], .int .i64 at_, .agg #[.int .i64 id, .int .i64 value, .bool active, .bool has, .int .i64 inn], .slice A3 l.length c3] w (PlainPost w (plainV tag.toList src steps at_ id value has (if has = true then inn else 0) l)) := by
  have hw : ∀ e : S48, weightV tag.toList e = if (0 : Int) = 1 then 1 else if (0 : Int) = 2 then e.f2 else 0 := fun e => by rw [ht]; rfl
  by_cases z : at_ = 0
  · have hst : stepV tag.toList src steps at_ id value has (if has = true then inn else 0) (l.length : Int) = (value, false, true, value) := by
      unfold stepV
      rw [if_neg (by rw [ht]; decide), if_pos ht]; unfold betterV; rw [if_pos (decide_eq_true z)]
    rw [plainV_of hst]
    simp only [if_true]
    rw [send_all (c := 0) hf hw]
    cases has with
    | false => exact plain.onAf tag src steps at_ id value inn active A3 c3 l w HALL hv0 hi0 (.label ht z)
    | true => exact plain.onAt tag src steps at_ id value inn active A3 c3 l w HALL hv0 hi0 (.label ht z)
  · cases has with
    | false =>
      rw [show (if (false : Bool) = true then inn else 0) = 0 from rfl]
      have hst : stepV tag.toList src steps at_ id value false 0 (l.length : Int) = (value, false, false, 0) := by
        unfold stepV
        rw [if_neg (by rw [ht]; decide), if_pos ht]; unfold betterV; rw [if_neg (by simpa using z), if_neg (by simp)]
      rw [plainV_of hst]
      simp only [Bool.false_eq_true, if_false]
      exact plain.onN tag src steps at_ id value inn active A3 c3 l w HALL hv0 hi0 (.label0 ht z)
    | true =>
      rw [show (if (true : Bool) = true then inn else 0) = inn from rfl]
      by_cases c : inn < value
      · have hst : stepV tag.toList src steps at_ id value true inn (l.length : Int) = (inn, false, true, inn) := by
          unfold stepV
          rw [if_neg (by rw [ht]; decide), if_pos ht]; unfold betterV; rw [if_neg (by simpa using z), if_pos (by rw [decide_eq_true (show at_ > 0 by omega), decide_eq_true c]; rfl)]
        rw [plainV_of hst]
        simp only [if_true]
        rw [send_all (c := 0) hf hw]
        exact plain.onB tag src steps at_ id value inn active A3 c3 l w HALL hv0 hi0 (.label ht z c)
      · have hst : stepV tag.toList src steps at_ id value true inn (l.length : Int) = (value, false, false, 0) := by
          unfold stepV
          rw [if_neg (by rw [ht]; decide), if_pos ht]; unfold betterV; rw [if_neg (by simpa using z), if_neg (by rw [decide_eq_false c]; simp)]
        rw [plainV_of hst]
        simp only [Bool.false_eq_true, if_false]
        exact plain.onN tag src steps at_ id value inn active A3 c3 l w HALL hv0 hi0 (.label ht z c)
set_option maxHeartbeats 1000000 in
theorem plain.on_sSssp (tag : ByteArray) (src steps at_ id value inn : Int) (active has : Bool) (A3 : Option Addr) (c3 : Nat) (l : List S48) (w : World) (HALL : AllOk w A3 c3 l) (hv0 : smallV value) (hi0 : smallV inn) (h0 : 0 ≤ at_) (hs : 1 ≤ steps ∧ steps ≤ 1000000) (hlen : l.length ≤ 1000000) (hf : ∀ e ∈ l, e.f0 = id) (ht : tag.toList = sSssp) :
    Calls Tryz.prog 51 #[.agg #[.string tag, .int .i64 src, .int .i64 steps], .int .i64 at_, .agg #[.int .i64 id, .int .i64 value, .bool active, .bool has, .int .i64 inn], .slice A3 l.length c3] w (PlainPost w (plainV tag.toList src steps at_ id value has (if has = true then inn else 0) l)) := by
  have hw : ∀ e : S48, weightV tag.toList e = if (2 : Int) = 1 then 1 else if (2 : Int) = 2 then e.f2 else 0 := fun e => by rw [ht]; rfl
  by_cases z : at_ = 0
  · by_cases s : id = src
    · have hst : stepV tag.toList src steps at_ id value has (if has = true then inn else 0) (l.length : Int) = (value, false, true, 0) := by
        unfold stepV
        rw [if_neg (by rw [ht]; decide), if_neg (by rw [ht]; decide), if_pos (by rw [ht]; rfl)]; rw [if_pos z, beq_iff_eq.mpr s]
      rw [plainV_of hst]
      simp only [if_true]
      rw [send_all (c := 2) hf hw]
      cases has with
      | false => exact plain.onAf tag src steps at_ id value inn active A3 c3 l w HALL hv0 hi0 (.sssp ht z s)
      | true => exact plain.onAt tag src steps at_ id value inn active A3 c3 l w HALL hv0 hi0 (.sssp ht z s)
    · have hst : stepV tag.toList src steps at_ id value has (if has = true then inn else 0) (l.length : Int) = (value, false, false, 0) := by
        unfold stepV
        rw [if_neg (by rw [ht]; decide), if_neg (by rw [ht]; decide), if_pos (by rw [ht]; rfl)]; rw [if_pos z, beq_eq_false_iff_ne.mpr s]
      rw [plainV_of hst]
      simp only [Bool.false_eq_true, if_false]
      cases has with
      | false => exact plain.onN tag src steps at_ id value inn active A3 c3 l w HALL hv0 hi0 (.ssspF ht z s)
      | true => exact plain.onN tag src steps at_ id value inn active A3 c3 l w HALL hv0 hi0 (.ssspT ht z s)
  · cases has with
    | false =>
      rw [show (if (false : Bool) = true then inn else 0) = 0 from rfl]
      have hst : stepV tag.toList src steps at_ id value false 0 (l.length : Int) = (value, false, false, 0) := by
        unfold stepV
        rw [if_neg (by rw [ht]; decide), if_neg (by rw [ht]; decide), if_pos (by rw [ht]; rfl)]; rw [if_neg z]; unfold betterV; rw [if_neg (by decide), if_neg (by simp)]
      rw [plainV_of hst]
      simp only [Bool.false_eq_true, if_false]
      exact plain.onN tag src steps at_ id value inn active A3 c3 l w HALL hv0 hi0 (.sssp0 ht z)
    | true =>
      rw [show (if (true : Bool) = true then inn else 0) = inn from rfl]
      by_cases n : value < 0
      · have hst : stepV tag.toList src steps at_ id value true inn (l.length : Int) = (inn, false, true, inn) := by
          unfold stepV
          rw [if_neg (by rw [ht]; decide), if_neg (by rw [ht]; decide), if_pos (by rw [ht]; rfl)]; rw [if_neg z]; unfold betterV; rw [if_neg (by decide), if_pos (by rw [decide_eq_true (show at_ > 0 by omega), decide_eq_true n]; rfl)]
        rw [plainV_of hst]
        simp only [if_true]
        rw [send_all (c := 2) hf hw]
        exact plain.onB tag src steps at_ id value inn active A3 c3 l w HALL hv0 hi0 (.sNew ht z n)
      · by_cases c : inn < value
        · have hst : stepV tag.toList src steps at_ id value true inn (l.length : Int) = (inn, false, true, inn) := by
            unfold stepV
            rw [if_neg (by rw [ht]; decide), if_neg (by rw [ht]; decide), if_pos (by rw [ht]; rfl)]; rw [if_neg z]; unfold betterV; rw [if_neg (by decide), if_pos (by rw [decide_eq_true (show at_ > 0 by omega), decide_eq_true c]; simp)]
          rw [plainV_of hst]
          simp only [if_true]
          rw [send_all (c := 2) hf hw]
          exact plain.onB tag src steps at_ id value inn active A3 c3 l w HALL hv0 hi0 (.sssp ht z n c)
        · have hst : stepV tag.toList src steps at_ id value true inn (l.length : Int) = (value, false, false, 0) := by
            unfold stepV
            rw [if_neg (by rw [ht]; decide), if_neg (by rw [ht]; decide), if_pos (by rw [ht]; rfl)]; rw [if_neg z]; unfold betterV; rw [if_neg (by decide), if_neg (by rw [decide_eq_false c, decide_eq_false n]; simp)]
          rw [plainV_of hst]
          simp only [Bool.false_eq_true, if_false]
          exact plain.onN tag src steps at_ id value inn active A3 c3 l w HALL hv0 hi0 (.sssp ht z n c)
set_option maxHeartbeats 1000000 in
theorem plain.on_sBfs (tag : ByteArray) (src steps at_ id value inn : Int) (active has : Bool) (A3 : Option Addr) (c3 : Nat) (l : List S48) (w : World) (HALL : AllOk w A3 c3 l) (hv0 : smallV value) (hi0 : smallV inn) (h0 : 0 ≤ at_) (hs : 1 ≤ steps ∧ steps ≤ 1000000) (hlen : l.length ≤ 1000000) (hf : ∀ e ∈ l, e.f0 = id) (ht : tag.toList = sBfs) :
    Calls Tryz.prog 51 #[.agg #[.string tag, .int .i64 src, .int .i64 steps], .int .i64 at_, .agg #[.int .i64 id, .int .i64 value, .bool active, .bool has, .int .i64 inn], .slice A3 l.length c3] w (PlainPost w (plainV tag.toList src steps at_ id value has (if has = true then inn else 0) l)) := by
  have hw : ∀ e : S48, weightV tag.toList e = if (1 : Int) = 1 then 1 else if (1 : Int) = 2 then e.f2 else 0 := fun e => by rw [ht]; rfl
  by_cases z : at_ = 0
  · by_cases s : id = src
    · have hst : stepV tag.toList src steps at_ id value has (if has = true then inn else 0) (l.length : Int) = (value, false, true, 0) := by
        unfold stepV
        rw [if_neg (by rw [ht]; decide), if_neg (by rw [ht]; decide), if_pos (by rw [ht]; rfl)]; rw [if_pos z, beq_iff_eq.mpr s]
      rw [plainV_of hst]
      simp only [if_true]
      rw [send_all (c := 1) hf hw]
      cases has with
      | false => exact plain.onAf tag src steps at_ id value inn active A3 c3 l w HALL hv0 hi0 (.bfs ht z s)
      | true => exact plain.onAt tag src steps at_ id value inn active A3 c3 l w HALL hv0 hi0 (.bfs ht z s)
    · have hst : stepV tag.toList src steps at_ id value has (if has = true then inn else 0) (l.length : Int) = (value, false, false, 0) := by
        unfold stepV
        rw [if_neg (by rw [ht]; decide), if_neg (by rw [ht]; decide), if_pos (by rw [ht]; rfl)]; rw [if_pos z, beq_eq_false_iff_ne.mpr s]
      rw [plainV_of hst]
      simp only [Bool.false_eq_true, if_false]
      cases has with
      | false => exact plain.onN tag src steps at_ id value inn active A3 c3 l w HALL hv0 hi0 (.bfsF ht z s)
      | true => exact plain.onN tag src steps at_ id value inn active A3 c3 l w HALL hv0 hi0 (.bfsT ht z s)
  · cases has with
    | false =>
      rw [show (if (false : Bool) = true then inn else 0) = 0 from rfl]
      have hst : stepV tag.toList src steps at_ id value false 0 (l.length : Int) = (value, false, false, 0) := by
        unfold stepV
        rw [if_neg (by rw [ht]; decide), if_neg (by rw [ht]; decide), if_pos (by rw [ht]; rfl)]; rw [if_neg z]; unfold betterV; rw [if_neg (by decide), if_neg (by simp)]
      rw [plainV_of hst]
      simp only [Bool.false_eq_true, if_false]
      exact plain.onN tag src steps at_ id value inn active A3 c3 l w HALL hv0 hi0 (.bfs0 ht z)
    | true =>
      rw [show (if (true : Bool) = true then inn else 0) = inn from rfl]
      by_cases n : value < 0
      · have hst : stepV tag.toList src steps at_ id value true inn (l.length : Int) = (inn, false, true, inn) := by
          unfold stepV
          rw [if_neg (by rw [ht]; decide), if_neg (by rw [ht]; decide), if_pos (by rw [ht]; rfl)]; rw [if_neg z]; unfold betterV; rw [if_neg (by decide), if_pos (by rw [decide_eq_true (show at_ > 0 by omega), decide_eq_true n]; rfl)]
        rw [plainV_of hst]
        simp only [if_true]
        rw [send_all (c := 1) hf hw]
        exact plain.onB tag src steps at_ id value inn active A3 c3 l w HALL hv0 hi0 (.bNew ht z n)
      · by_cases c : inn < value
        · have hst : stepV tag.toList src steps at_ id value true inn (l.length : Int) = (inn, false, true, inn) := by
            unfold stepV
            rw [if_neg (by rw [ht]; decide), if_neg (by rw [ht]; decide), if_pos (by rw [ht]; rfl)]; rw [if_neg z]; unfold betterV; rw [if_neg (by decide), if_pos (by rw [decide_eq_true (show at_ > 0 by omega), decide_eq_true c]; simp)]
          rw [plainV_of hst]
          simp only [if_true]
          rw [send_all (c := 1) hf hw]
          exact plain.onB tag src steps at_ id value inn active A3 c3 l w HALL hv0 hi0 (.bfs ht z n c)
        · have hst : stepV tag.toList src steps at_ id value true inn (l.length : Int) = (value, false, false, 0) := by
            unfold stepV
            rw [if_neg (by rw [ht]; decide), if_neg (by rw [ht]; decide), if_pos (by rw [ht]; rfl)]; rw [if_neg z]; unfold betterV; rw [if_neg (by decide), if_neg (by rw [decide_eq_false c, decide_eq_false n]; simp)]
          rw [plainV_of hst]
          simp only [Bool.false_eq_true, if_false]
          exact plain.onN tag src steps at_ id value inn active A3 c3 l w HALL hv0 hi0 (.bfs ht z n c)
set_option maxHeartbeats 1000000 in
theorem plain.on_sDegree (tag : ByteArray) (src steps at_ id value inn : Int) (active has : Bool) (A3 : Option Addr) (c3 : Nat) (l : List S48) (w : World) (HALL : AllOk w A3 c3 l) (hv0 : smallV value) (hi0 : smallV inn) (h0 : 0 ≤ at_) (hs : 1 ≤ steps ∧ steps ≤ 1000000) (hlen : l.length ≤ 1000000) (hf : ∀ e ∈ l, e.f0 = id) (ht : tag.toList = sDegree) :
    Calls Tryz.prog 51 #[.agg #[.string tag, .int .i64 src, .int .i64 steps], .int .i64 at_, .agg #[.int .i64 id, .int .i64 value, .bool active, .bool has, .int .i64 inn], .slice A3 l.length c3] w (PlainPost w (plainV tag.toList src steps at_ id value has (if has = true then inn else 0) l)) := by
  have hw : ∀ e : S48, weightV tag.toList e = if (0 : Int) = 1 then 1 else if (0 : Int) = 2 then e.f2 else 0 := fun e => by rw [ht]; rfl
  by_cases z : at_ = 0
  · have hst : stepV tag.toList src steps at_ id value has (if has = true then inn else 0) (l.length : Int) = (value, false, true, 1) := by
      unfold stepV
      rw [if_neg (by rw [ht]; decide), if_neg (by rw [ht]; decide), if_neg (by rw [ht]; decide), if_pos ht]; rw [if_neg (by simp [z]), beq_iff_eq.mpr z]
    rw [plainV_of hst]
    simp only [if_true]
    rw [send_all (c := 0) hf hw]
    cases has with
    | false => exact plain.onAf tag src steps at_ id value inn active A3 c3 l w HALL hv0 hi0 (.degree ht z)
    | true => exact plain.onAt tag src steps at_ id value inn active A3 c3 l w HALL hv0 hi0 (.degree ht z)
  · cases has with
    | false =>
      rw [show (if (false : Bool) = true then inn else 0) = 0 from rfl]
      have hst : stepV tag.toList src steps at_ id value false 0 (l.length : Int) = (value, false, false, 1) := by
        unfold stepV
        rw [if_neg (by rw [ht]; decide), if_neg (by rw [ht]; decide), if_neg (by rw [ht]; decide), if_pos ht]; rw [if_neg (by simp), beq_eq_false_iff_ne.mpr z]
      rw [plainV_of hst]
      simp only [Bool.false_eq_true, if_false]
      exact plain.onN tag src steps at_ id value inn active A3 c3 l w HALL hv0 hi0 (.degree0 ht z)
    | true =>
      rw [show (if (true : Bool) = true then inn else 0) = inn from rfl]
      have hst : stepV tag.toList src steps at_ id value true inn (l.length : Int) = (inn, false, false, 0) := by
        unfold stepV
        rw [if_neg (by rw [ht]; decide), if_neg (by rw [ht]; decide), if_neg (by rw [ht]; decide), if_pos ht]; rw [if_pos (by rw [decide_eq_true (show at_ > 0 by omega)]; rfl)]
      rw [plainV_of hst]
      simp only [Bool.false_eq_true, if_false]
      exact plain.sDegree_yes tag src steps at_ id value inn active A3 c3 l w HALL hv0 hi0 ht z
set_option maxHeartbeats 1000000 in
theorem plain.on_sWalks (tag : ByteArray) (src steps at_ id value inn : Int) (active has : Bool) (A3 : Option Addr) (c3 : Nat) (l : List S48) (w : World) (HALL : AllOk w A3 c3 l) (hv0 : smallV value) (hi0 : smallV inn) (h0 : 0 ≤ at_) (hs : 1 ≤ steps ∧ steps ≤ 1000000) (hlen : l.length ≤ 1000000) (hf : ∀ e ∈ l, e.f0 = id) (ht : tag.toList = sWalks) :
    Calls Tryz.prog 51 #[.agg #[.string tag, .int .i64 src, .int .i64 steps], .int .i64 at_, .agg #[.int .i64 id, .int .i64 value, .bool active, .bool has, .int .i64 inn], .slice A3 l.length c3] w (PlainPost w (plainV tag.toList src steps at_ id value has (if has = true then inn else 0) l)) := by
  have hw : ∀ e : S48, weightV tag.toList e = if (0 : Int) = 1 then 1 else if (0 : Int) = 2 then e.f2 else 0 := fun e => by rw [ht]; rfl
  by_cases z : at_ = 0
  · have hst : stepV tag.toList src steps at_ id value has (if has = true then inn else 0) (l.length : Int) = (value, false, true, 1) := by
      unfold stepV
      rw [if_neg (by rw [ht]; decide), if_neg (by rw [ht]; decide), if_neg (by rw [ht]; decide), if_neg (by rw [ht]; decide), if_pos ht]; rw [if_pos z]
    rw [plainV_of hst]
    simp only [if_true]
    rw [send_all (c := 0) hf hw]
    cases has with
    | false => exact plain.onAf tag src steps at_ id value inn active A3 c3 l w HALL hv0 hi0 (.walks ht z)
    | true => exact plain.onAt tag src steps at_ id value inn active A3 c3 l w HALL hv0 hi0 (.walks ht z)
  · cases has with
    | false =>
      rw [show (if (false : Bool) = true then inn else 0) = 0 from rfl]
      have hst : stepV tag.toList src steps at_ id value false 0 (l.length : Int) = (value + 0, false, false, 0) := by
        unfold stepV
        rw [if_neg (by rw [ht]; decide), if_neg (by rw [ht]; decide), if_neg (by rw [ht]; decide), if_neg (by rw [ht]; decide), if_pos ht]; rw [if_neg z]; simp
      rw [plainV_of hst]
      simp only [Bool.false_eq_true, if_false]
      rw [Int.add_zero]; exact plain.onN tag src steps at_ id value inn active A3 c3 l w HALL hv0 hi0 (.walks0 ht z)
    | true =>
      rw [show (if (true : Bool) = true then inn else 0) = inn from rfl]
      have hst : stepV tag.toList src steps at_ id value true inn (l.length : Int) = (value + inn, false, true, inn) := by
        unfold stepV
        rw [if_neg (by rw [ht]; decide), if_neg (by rw [ht]; decide), if_neg (by rw [ht]; decide), if_neg (by rw [ht]; decide), if_pos ht]; rw [if_neg z, decide_eq_true (show at_ > 0 by omega)]; rfl
      rw [plainV_of hst]
      simp only [if_true]
      rw [send_all (c := 0) hf hw]
      exact plain.sWalks_yes tag src steps at_ id value inn active A3 c3 l w HALL hv0 hi0 ht z hv0 hi0
set_option maxHeartbeats 1000000 in
theorem plain.on_rank (tag : ByteArray) (src steps at_ id value inn : Int) (active has : Bool) (A3 : Option Addr) (c3 : Nat) (l : List S48) (w : World) (HALL : AllOk w A3 c3 l) (hv0 : smallV value) (hi0 : smallV inn) (h0 : 0 ≤ at_) (hs : 1 ≤ steps ∧ steps ≤ 1000000) (hlen : l.length ≤ 1000000) (hf : ∀ e ∈ l, e.f0 = id) (n1 : ¬ tag.toList = sMax) (n2 : ¬ tag.toList = sLabel) (n3 : ¬ tag.toList = sSssp) (n4 : ¬ tag.toList = sBfs) (n5 : ¬ tag.toList = sDegree) (n6 : ¬ tag.toList = sWalks) :
    Calls Tryz.prog 51 #[.agg #[.string tag, .int .i64 src, .int .i64 steps], .int .i64 at_, .agg #[.int .i64 id, .int .i64 value, .bool active, .bool has, .int .i64 inn], .slice A3 l.length c3] w (PlainPost w (plainV tag.toList src steps at_ id value has (if has = true then inn else 0) l)) := by
  have hw : ∀ e : S48, weightV tag.toList e = if (0 : Int) = 1 then 1 else if (0 : Int) = 2 then e.f2 else 0 := fun e => by unfold weightV; rw [if_neg n3, if_neg n4]; rfl
  cases has with
  | false =>
    rw [show (if (false : Bool) = true then inn else 0) = 0 from rfl]
    by_cases p : 0 < at_
    · have hr : rankV at_ 0 value = 9830 + downV (0 * 85) 100 := by unfold rankV; rw [if_pos p]
      by_cases e : at_ = steps - 1
      · have hst : stepV tag.toList src steps at_ id value false 0 (l.length : Int) = (9830 + downV (0 * 85) 100, false, false, 0) := by
          unfold stepV
          rw [if_neg n1, if_neg n2, if_neg (by simp [beq_eq_false_iff_ne.mpr n3, beq_eq_false_iff_ne.mpr n4]), if_neg n5, if_neg n6]; rw [if_pos e, hr]
        rw [plainV_of hst]
        simp only [Bool.false_eq_true, if_false]
        exact plain.rank_late_false_last tag src steps at_ id value inn active A3 c3 l w HALL hv0 hi0 n1 n2 n3 n4 n5 n6 p hs e
      · by_cases q : l.length = 0
        · have hst : stepV tag.toList src steps at_ id value false 0 (l.length : Int) = (9830 + downV (0 * 85) 100, true, false, downV (9830 + downV (0 * 85) 100) 1) := by
            unfold stepV
            rw [if_neg n1, if_neg n2, if_neg (by simp [beq_eq_false_iff_ne.mpr n3, beq_eq_false_iff_ne.mpr n4]), if_neg n5, if_neg n6]; rw [if_neg e, hr, q]; rfl
          rw [plainV_of hst]
          simp only [Bool.false_eq_true, if_false]
          exact plain.rank_late_false_none tag src steps at_ id value inn active A3 c3 l w HALL hv0 hi0 n1 n2 n3 n4 n5 n6 p hs e q
        · have hst : stepV tag.toList src steps at_ id value false 0 (l.length : Int) = (9830 + downV (0 * 85) 100, true, true, downV (9830 + downV (0 * 85) 100) (l.length : Int)) := by
            unfold stepV
            rw [if_neg n1, if_neg n2, if_neg (by simp [beq_eq_false_iff_ne.mpr n3, beq_eq_false_iff_ne.mpr n4]), if_neg n5, if_neg n6]; rw [if_neg e, hr, decide_eq_true (show (l.length : Int) > 0 by omega), show (if (l.length : Int) > 1 then (l.length : Int) else 1) = (l.length : Int) by split <;> omega]
          rw [plainV_of hst]
          simp only [if_true]
          rw [send_all (c := 0) hf hw]
          exact plain.rank_late_false_all tag src steps at_ id value inn active A3 c3 l w HALL hv0 hi0 n1 n2 n3 n4 n5 n6 p hs e q hlen
    · have hr : rankV at_ 0 value = value := by unfold rankV; rw [if_neg p]
      by_cases e : at_ = steps - 1
      · have hst : stepV tag.toList src steps at_ id value false 0 (l.length : Int) = (value, false, false, 0) := by
          unfold stepV
          rw [if_neg n1, if_neg n2, if_neg (by simp [beq_eq_false_iff_ne.mpr n3, beq_eq_false_iff_ne.mpr n4]), if_neg n5, if_neg n6]; rw [if_pos e, hr]
        rw [plainV_of hst]
        simp only [Bool.false_eq_true, if_false]
        exact plain.rank_at_false_last tag src steps at_ id value inn active A3 c3 l w HALL hv0 hi0 n1 n2 n3 n4 n5 n6 p hs e
      · by_cases q : l.length = 0
        · have hst : stepV tag.toList src steps at_ id value false 0 (l.length : Int) = (value, true, false, downV (value) 1) := by
            unfold stepV
            rw [if_neg n1, if_neg n2, if_neg (by simp [beq_eq_false_iff_ne.mpr n3, beq_eq_false_iff_ne.mpr n4]), if_neg n5, if_neg n6]; rw [if_neg e, hr, q]; rfl
          rw [plainV_of hst]
          simp only [Bool.false_eq_true, if_false]
          exact plain.rank_at_false_none tag src steps at_ id value inn active A3 c3 l w HALL hv0 hi0 n1 n2 n3 n4 n5 n6 p hs e q
        · have hst : stepV tag.toList src steps at_ id value false 0 (l.length : Int) = (value, true, true, downV (value) (l.length : Int)) := by
            unfold stepV
            rw [if_neg n1, if_neg n2, if_neg (by simp [beq_eq_false_iff_ne.mpr n3, beq_eq_false_iff_ne.mpr n4]), if_neg n5, if_neg n6]; rw [if_neg e, hr, decide_eq_true (show (l.length : Int) > 0 by omega), show (if (l.length : Int) > 1 then (l.length : Int) else 1) = (l.length : Int) by split <;> omega]
          rw [plainV_of hst]
          simp only [if_true]
          rw [send_all (c := 0) hf hw]
          exact plain.rank_at_false_all tag src steps at_ id value inn active A3 c3 l w HALL hv0 hi0 n1 n2 n3 n4 n5 n6 p hs e q hlen
  | true =>
    rw [show (if (true : Bool) = true then inn else 0) = inn from rfl]
    by_cases p : 0 < at_
    · have hr : rankV at_ inn value = 9830 + downV (inn * 85) 100 := by unfold rankV; rw [if_pos p]
      by_cases e : at_ = steps - 1
      · have hst : stepV tag.toList src steps at_ id value true inn (l.length : Int) = (9830 + downV (inn * 85) 100, false, false, 0) := by
          unfold stepV
          rw [if_neg n1, if_neg n2, if_neg (by simp [beq_eq_false_iff_ne.mpr n3, beq_eq_false_iff_ne.mpr n4]), if_neg n5, if_neg n6]; rw [if_pos e, hr]
        rw [plainV_of hst]
        simp only [Bool.false_eq_true, if_false]
        exact plain.rank_late_true_last tag src steps at_ id value inn active A3 c3 l w HALL hv0 hi0 n1 n2 n3 n4 n5 n6 p hs e
      · by_cases q : l.length = 0
        · have hst : stepV tag.toList src steps at_ id value true inn (l.length : Int) = (9830 + downV (inn * 85) 100, true, false, downV (9830 + downV (inn * 85) 100) 1) := by
            unfold stepV
            rw [if_neg n1, if_neg n2, if_neg (by simp [beq_eq_false_iff_ne.mpr n3, beq_eq_false_iff_ne.mpr n4]), if_neg n5, if_neg n6]; rw [if_neg e, hr, q]; rfl
          rw [plainV_of hst]
          simp only [Bool.false_eq_true, if_false]
          exact plain.rank_late_true_none tag src steps at_ id value inn active A3 c3 l w HALL hv0 hi0 n1 n2 n3 n4 n5 n6 p hs e q
        · have hst : stepV tag.toList src steps at_ id value true inn (l.length : Int) = (9830 + downV (inn * 85) 100, true, true, downV (9830 + downV (inn * 85) 100) (l.length : Int)) := by
            unfold stepV
            rw [if_neg n1, if_neg n2, if_neg (by simp [beq_eq_false_iff_ne.mpr n3, beq_eq_false_iff_ne.mpr n4]), if_neg n5, if_neg n6]; rw [if_neg e, hr, decide_eq_true (show (l.length : Int) > 0 by omega), show (if (l.length : Int) > 1 then (l.length : Int) else 1) = (l.length : Int) by split <;> omega]
          rw [plainV_of hst]
          simp only [if_true]
          rw [send_all (c := 0) hf hw]
          exact plain.rank_late_true_all tag src steps at_ id value inn active A3 c3 l w HALL hv0 hi0 n1 n2 n3 n4 n5 n6 p hs e q hlen
    · have hr : rankV at_ inn value = value := by unfold rankV; rw [if_neg p]
      by_cases e : at_ = steps - 1
      · have hst : stepV tag.toList src steps at_ id value true inn (l.length : Int) = (value, false, false, 0) := by
          unfold stepV
          rw [if_neg n1, if_neg n2, if_neg (by simp [beq_eq_false_iff_ne.mpr n3, beq_eq_false_iff_ne.mpr n4]), if_neg n5, if_neg n6]; rw [if_pos e, hr]
        rw [plainV_of hst]
        simp only [Bool.false_eq_true, if_false]
        exact plain.rank_at_true_last tag src steps at_ id value inn active A3 c3 l w HALL hv0 hi0 n1 n2 n3 n4 n5 n6 p hs e
      · by_cases q : l.length = 0
        · have hst : stepV tag.toList src steps at_ id value true inn (l.length : Int) = (value, true, false, downV (value) 1) := by
            unfold stepV
            rw [if_neg n1, if_neg n2, if_neg (by simp [beq_eq_false_iff_ne.mpr n3, beq_eq_false_iff_ne.mpr n4]), if_neg n5, if_neg n6]; rw [if_neg e, hr, q]; rfl
          rw [plainV_of hst]
          simp only [Bool.false_eq_true, if_false]
          exact plain.rank_at_true_none tag src steps at_ id value inn active A3 c3 l w HALL hv0 hi0 n1 n2 n3 n4 n5 n6 p hs e q
        · have hst : stepV tag.toList src steps at_ id value true inn (l.length : Int) = (value, true, true, downV (value) (l.length : Int)) := by
            unfold stepV
            rw [if_neg n1, if_neg n2, if_neg (by simp [beq_eq_false_iff_ne.mpr n3, beq_eq_false_iff_ne.mpr n4]), if_neg n5, if_neg n6]; rw [if_neg e, hr, decide_eq_true (show (l.length : Int) > 0 by omega), show (if (l.length : Int) > 1 then (l.length : Int) else 1) = (l.length : Int) by split <;> omega]
          rw [plainV_of hst]
          simp only [if_true]
          rw [send_all (c := 0) hf hw]
          exact plain.rank_at_true_all tag src steps at_ id value inn active A3 c3 l w HALL hv0 hi0 n1 n2 n3 n4 n5 n6 p hs e q hlen
theorem plain.on (tag : ByteArray) (src steps at_ id value inn : Int) (active has : Bool) (A3 : Option Addr) (c3 : Nat) (l : List S48) (w : World) (HALL : AllOk w A3 c3 l) (hv0 : smallV value) (hi0 : smallV inn) (h0 : 0 ≤ at_) (hs : 1 ≤ steps ∧ steps ≤ 1000000) (hlen : l.length ≤ 1000000) (hf : ∀ e ∈ l, e.f0 = id) :
    Calls Tryz.prog 51 #[.agg #[.string tag, .int .i64 src, .int .i64 steps], .int .i64 at_, .agg #[.int .i64 id, .int .i64 value, .bool active, .bool has, .int .i64 inn], .slice A3 l.length c3] w (PlainPost w (plainV tag.toList src steps at_ id value has (if has = true then inn else 0) l)) := by
  by_cases n1 : tag.toList = sMax
  · exact plain.on_sMax tag src steps at_ id value inn active has A3 c3 l w HALL hv0 hi0 h0 hs hlen hf n1
  by_cases n2 : tag.toList = sLabel
  · exact plain.on_sLabel tag src steps at_ id value inn active has A3 c3 l w HALL hv0 hi0 h0 hs hlen hf n2
  by_cases n3 : tag.toList = sSssp
  · exact plain.on_sSssp tag src steps at_ id value inn active has A3 c3 l w HALL hv0 hi0 h0 hs hlen hf n3
  by_cases n4 : tag.toList = sBfs
  · exact plain.on_sBfs tag src steps at_ id value inn active has A3 c3 l w HALL hv0 hi0 h0 hs hlen hf n4
  by_cases n5 : tag.toList = sDegree
  · exact plain.on_sDegree tag src steps at_ id value inn active has A3 c3 l w HALL hv0 hi0 h0 hs hlen hf n5
  by_cases n6 : tag.toList = sWalks
  · exact plain.on_sWalks tag src steps at_ id value inn active has A3 c3 l w HALL hv0 hi0 h0 hs hlen hf n6
  exact plain.on_rank tag src steps at_ id value inn active has A3 c3 l w HALL hv0 hi0 h0 hs hlen hf n1 n2 n3 n4 n5 n6
end
def fairB (id : Int) (e : S48) : Bool := e.f0 == id && fairW e
def fairJ (steps at_ value inn : Int) : Bool := decide (-1125899906842624 ≤ value) && decide (value ≤ 1125899906842624) && decide (-1125899906842624 ≤ inn) && decide (inn ≤ 1125899906842624) && decide (1 ≤ steps) && decide (steps ≤ 1000000) && decide (0 ≤ at_)
def modillionref07_plain.f (a0_0 : ByteArray) (a0_1 a0_2 a1 a2_0 a2_1 : Int) (a2_2 a2_3 : Bool) (a2_4 : Int) (l3 : List S48) : Option (Int × Int × Bool × Bool × Int × List S61) := if fairJ a0_2 a1 a2_1 a2_4 = true then (if l3.length ≤ 1000000 then (if l3.all (fairB a2_0) = true then some (plainV a0_0.toList a0_1 a0_2 a1 a2_0 a2_1 a2_3 (if a2_3 = true then a2_4 else 0) l3) else none) else none) else none
theorem modillionref07_plain.calls (a0_0 : ByteArray) (a0_1 a0_2 a1 a2_0 a2_1 : Int) (a2_2 a2_3 : Bool) (a2_4 : Int) (A3 : Option Addr) (c3 : Nat) (l3 : List S48) (r1 r2 : Int) (r3 r4 : Bool) (r5 : Int) (r6 : List S61) (w : World) (hr3 : Kd.C k48 w A3 l3.length l3) (hc3 : l3.length ≤ c3) (h : modillionref07_plain.f a0_0 a0_1 a0_2 a1 a2_0 a2_1 a2_2 a2_3 a2_4 l3 = some (r1, r2, r3, r4, r5, r6)) :
    Calls Tryz.prog 51 #[.agg #[.string a0_0, .int .i64 a0_1, .int .i64 a0_2], .int .i64 a1, .agg #[.int .i64 a2_0, .int .i64 a2_1, .bool a2_2, .bool a2_3, .int .i64 a2_4], .slice A3 l3.length c3] w fun e w' => ∃ v5_ : Value, e = .returned (.tuple #[.agg #[.int .i64 r1, .int .i64 r2, .bool r3, .bool r4, .int .i64 r5], v5_]) ∧ Kd.R k61 61 w' w.heap.size (fun _ => True) v5_ r6 ∧ Below w.heap.size w w' := by
  unfold modillionref07_plain.f at h
  by_cases h1 : fairJ a0_2 a1 a2_1 a2_4 = true
  · rw [if_pos h1] at h
    by_cases h2 : l3.length ≤ 1000000
    · rw [if_pos h2] at h
      by_cases h3 : l3.all (fairB a2_0) = true
      · rw [if_pos h3] at h
        have h4 := List.all_eq_true.1 h3
        unfold fairB at h4
        simp only [Bool.and_eq_true, beq_iff_eq] at h4
        unfold fairJ at h1
        simp only [Bool.and_eq_true, decide_eq_true_eq] at h1
        have HALL : AllOk w A3 c3 l3 := ⟨fun val cnt W hb hW => modillionref07_all.calls A3 c3 l3 val cnt _ W (Kd.C_below hr3 hW) hc3 (by unfold modillionref07_all.f; rw [if_pos ⟨h2, hb.1, hb.2, List.all_eq_true.2 (fun e he => (h4 e he).2)⟩])⟩
        have := plain.on a0_0 a0_1 a0_2 a1 a2_0 a2_1 a2_4 a2_2 a2_3 A3 c3 l3 w HALL (by unfold smallV; omega) (by unfold smallV; omega) (by omega) (by omega) h2 (fun e he => (h4 e he).1)
        rw [Option.some.inj h] at this
        exact this
      · rw [if_neg h3] at h; cases h
    · rw [if_neg h2] at h; cases h
  · rw [if_neg h1] at h; cases h

end Go.Proofs.YtpndhkeoljoapaaGreat.P
