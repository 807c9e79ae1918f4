/- What these Go functions compute, as Lean functions, and that they do. No condition. -/
import Derived.Test.YtpndhkeoljoapaaGreatPx0
import Derived.Test.YtpndhkeoljoapaaGreatPx6
import Derived.Test.YtpndhkeoljoapaaGreatPx8
import Derived.Test.YtpndhkeoljoapaaGreatPx10
import Derived.Test.YtpndhkeoljoapaaGreatPx14
import Derived.Test.YtpndhkeoljoapaaGreatPx15
import Derived.Test.YtpndhkeoljoapaaGreatPx16
namespace Go.Proofs.YtpndhkeoljoapaaGreat.P
open Go.RowKit Go.Proofs.YtpndhkeoljoapaaGreatW.PrintWords Go.Proofs.YtpndhkeoljoapaaGreatW.PrintLast Go.Proofs.YtpndhkeoljoapaaGreatW.PrintMore
attribute [local go_sem] max2_int min2_int max_two min_two max_three min_three max_four min_four   -- for this text's walks alone
set_option linter.unusedVariables false
set_option linter.unusedSimpArgs false
set_option linter.unnecessarySimpa false
theorem iteS17 {α : Type} {c : Prop} [Decidable c] {a : Option α} {r : α} (h : (if c then a else none) = some r) : c ∧ a = some r := by
 by_cases hc : c
 ·rw [if_pos hc] at h; exact ⟨hc, h⟩
 ·rw [if_neg hc] at h; cases h

/-! ### modillionref07_Step: function 30 (given) -/
/-- The document's step, of a job that may be and a vertex that is there. -/
def modillionref07_Step.f (k : Nat) (n : Int) (l : List S48) (tag : ByteArray) (src steps at_ id val : Int) (act has : Bool) (inn : Int) : Option (Int × Int × Bool × Bool × Int × List S61 × Int) :=
 (modillionref07_Right.f k n l tag src steps).bind fun t => if t = true then (if 0 ≤ id ∧ id < n ∧ 0 ≤ at_ ∧ at_ < steps then
  (if (bigS val || bigS inn) = true then some (0, 0, false, false, 0, [], 71) else if (!act && !has) = true then some (id, val, act, has, inn, [], 0)
  else (modillionref05_Out.f k n l id).bind fun es => (modillionref07_plain.f tag src steps at_ id val act has inn es).bind fun q => if q.2.2.2.2.2.length ≤ 1000000 then some (if (bigS q.2.1 || q.2.2.2.2.2.any fun m => bigS m.f2) = true then (0, 0, false, false, 0, [], 71) else (q.1, q.2.1, q.2.2.1, q.2.2.2.1, q.2.2.2.2.1, q.2.2.2.2.2, 0)) else none) else none) else none
theorem modillionref07_Step.mono : ∀ a0 a1 a2 a3 a4 a5 a6 a7 a8 a9 a10 k, LeO (modillionref07_Step.f k a0 a1 a2 a3 a4 a5 a6 a7 a8 a9 a10) (modillionref07_Step.f (k + 1) a0 a1 a2 a3 a4 a5 a6 a7 a8 a9 a10) := fun a0 a1 a2 a3 a4 a5 a6 a7 a8 a9 a10 k => by
 unfold modillionref07_Step.f
 exact LeO.bind (modillionref07_Right.mono _ _ _ _ _ _) fun _ => LeO.ite (LeO.ite (LeO.ite (LeO.refl _) (LeO.ite (LeO.refl _) (LeO.bind (modillionref05_Out.mono _ _ _ _) fun _ => LeO.refl _))) (LeO.refl _)) (LeO.refl _)
section
open Go.Shelf Go.Proofs.YtpndhkeoljoapaaGreat.Bridge
theorem refGreat_ok (v : Int) : modillionref07_Great.f v = some (bigS v) := by
 unfold modillionref07_Great.f bigS
 by_cases h : v > 1125899906842624
 ·rw [if_pos h, decide_eq_true h]; rfl
 ·rw [if_neg h, decide_eq_false h]; rfl
theorem any_take (ms : List S61) (b : Bool) (i : Nat) (h : i < ms.length) : (b || (ms.take (i + 1)).any fun m => bigS m.f2) = ((b || (ms.take i).any fun m => bigS m.f2) || bigS ms[i].f2) := by
 rw [List.take_succ_eq_append_getElem h]
 exact any_snoc _ _ _
theorem rd_msgAt (l : List S61) (i : Nat) (h : i < l.length) : rd_T61 l (i : Int) = l[i] := by
 unfold rd_T61
 simp [List.getD_eq_getElem?_getD, List.getElem?_eq_getElem h]
theorem cells5 {w : World} {b : Nat} {a0 a1 a2 a3 a4 : Value} {t : TypeId} (h : w.heap[b]? = some (.cells #[a0, a1, a2, a3, a4] t (0, 0))) : w.cell? ⟨b, 0, none⟩ = some a0 ∧ w.cell? ⟨b, 1, none⟩ = some a1 ∧ w.cell? ⟨b, 2, none⟩ = some a2 ∧ w.cell? ⟨b, 3, none⟩ = some a3 ∧ w.cell? ⟨b, 4, none⟩ = some a4 :=
 ⟨(blk_cell h 0).trans rfl, (blk_cell h 1).trans rfl, (blk_cell h 2).trans rfl, (blk_cell h 3).trans rfl, (blk_cell h 4).trans rfl⟩
theorem frozen5 {w : World} {b : Nat} {c : Array Value} {t : TypeId} (h : w.heap[b]? = some (.cells c t (0, 0))) : w.frozen? ⟨b, 0, none⟩ = false ∧ w.frozen? ⟨b, 1, none⟩ = false ∧ w.frozen? ⟨b, 2, none⟩ = false ∧ w.frozen? ⟨b, 3, none⟩ = false ∧ w.frozen? ⟨b, 4, none⟩ = false :=
 ⟨blk_frozen h 0, blk_frozen h 1, blk_frozen h 2, blk_frozen h 3, blk_frozen h 4⟩
theorem cells3 {w : World} {b : Nat} {a0 a1 a2 : Value} {t : TypeId} (h : w.heap[b]? = some (.cells #[a0, a1, a2] t (0, 0))) : w.cell? ⟨b, 0, none⟩ = some a0 ∧ w.cell? ⟨b, 1, none⟩ = some a1 ∧ w.cell? ⟨b, 2, none⟩ = some a2 := ⟨(blk_cell h 0).trans rfl, (blk_cell h 1).trans rfl, (blk_cell h 2).trans rfl⟩
theorem cells2 {w : World} {b : Nat} {a0 a1 : Value} {t : TypeId} (h : w.heap[b]? = some (.cells #[a0, a1] t (0, 0))) : w.cell? ⟨b, 0, none⟩ = some a0 ∧ w.cell? ⟨b, 1, none⟩ = some a1 := ⟨(blk_cell h 0).trans rfl, (blk_cell h 1).trans rfl⟩
theorem R_set5 {w : World} {B m : Nat} {v : Value} {l : List S61} {a0 a1 a2 a3 a4 : Value} {cs : Array Value} (hR : Kd.R k61 61 w B (fun _ => True) v l) (hb : w.heap[m]? = some (.cells cs 50 (0, 0))) :
  Kd.R k61 61 (((((w.setCell ⟨m, 0, none⟩ a0).setCell ⟨m, 1, none⟩ a1).setCell ⟨m, 2, none⟩ a2).setCell ⟨m, 3, none⟩ a3).setCell ⟨m, 4, none⟩ a4) B (fun _ => True) v l :=
 Kd.R_set (Kd.R_set (Kd.R_set (Kd.R_set (Kd.R_set hR hb (by decide) 0 _) (blk_set hb 0 _) (by decide) 1 _) (blk_set (blk_set hb 0 _) 1 _) (by decide) 2 _) (blk_set (blk_set (blk_set hb 0 _) 1 _) 2 _) (by decide) 3 _) (blk_set (blk_set (blk_set (blk_set hb 0 _) 1 _) 2 _) 3 _) (by decide) 4 _
set_option maxHeartbeats 16000000 in
set_option maxRecDepth 100000 in
theorem modillionref07_Step.calls (k : Nat) (n : Int) (A0_1 : Option Addr) (c0_1 : Nat) (l : List S48) (tag : ByteArray) (src steps at_ id val : Int) (act has : Bool) (inn : Int) (r1 r2 : Int) (r3 r4 : Bool) (r5 : Int) (r6 : List S61) (r7 : Int) (w : World) (hr : Kd.C k48 w A0_1 l.length l) (hc : l.length ≤ c0_1) (h : modillionref07_Step.f k n l tag src steps at_ id val act has inn = some (r1, r2, r3, r4, r5, r6, r7)) :
  Calls Tryz.prog 30 #[.agg #[.int .i64 n, .slice A0_1 l.length c0_1], .agg #[.string tag, .int .i64 src, .int .i64 steps], .int .i64 at_, .agg #[.int .i64 id, .int .i64 val, .bool act, .bool has, .int .i64 inn]] w (StepPost w (r1, r2, r3, r4, r5, r6, r7)) := by
 obtain ⟨res, HRES⟩ : ∃ res, Aside0 (res = (r1, r2, r3, r4, r5, r6, r7)) := ⟨_, ⟨rfl⟩⟩
 rw [← HRES.out] at h ⊢
 clear HRES
 unfold modillionref07_Step.f at h
 obtain ⟨t, hrt, h⟩ := Option.bind_eq_some_iff.mp h
 cases t with
 | false => cases h
 | true =>
 rw [if_pos rfl] at h
 have hg : 0 ≤ id ∧ id < n ∧ 0 ≤ at_ ∧ at_ < steps := by
  by_cases hg : 0 ≤ id ∧ id < n ∧ 0 ≤ at_ ∧ at_ < steps
  ·exact hg
  ·rw [if_neg hg] at h; cases h
 rw [if_pos hg] at h
 have hu1 := Tryz.underlying50
 have hu2 := Tryz.underlying61
 have hu4 := Tryz.underlying26
 have hu5 := Tryz.underlying24
 have HRT : ∀ W, Below w.heap.size w W → Calls Tryz.prog 19 #[.agg #[.int .i64 n, .slice A0_1 l.length c0_1], .agg #[.string tag, .int .i64 src, .int .i64 steps]] W fun e w' => e = .returned (.bool true) ∧ Below W.heap.size W w' := fun W hW => modillionref07_Right.calls k n A0_1 c0_1 l tag src steps true W (Kd.C_below hr hW) hc hrt
 have HG : ∀ v W, Calls Tryz.prog 50 #[.int .i64 v] W fun x w' => x = .returned (.bool (bigS v)) ∧ Drawn0 W w' := fun v W => modillionref07_Great.calls _ _ W (refGreat_ok v)
 have d1 : decide (id < 0) = false := decide_eq_false (by omega)
 have d2 : decide (n ≤ id) = false := decide_eq_false (by omega)
 have d3 : decide (at_ < 0) = false := decide_eq_false (by omega)
 have d4 : decide (steps ≤ at_) = false := decide_eq_false (by omega)
 have HH := Aside0.mk h
 have HC := Aside0.mk hr
 have HCC := Aside0.mk hc
 have HG_ := Aside0.mk HG
 clear h hg hr hc hrt HG
 go_enter Tryz.func30, Tryz.ntmps30
 go_wp2_with (fail)
 refine (HRT _ (by repeat (first | exact Below.refl _ _ | apply below_alloc | apply pw_below_drewN))).mono ?_
 rintro e w2 ⟨rfl, hb⟩
 obtain ⟨BG, BJ, BX, BR, SZ2, HB2⟩ := four_blocks hb
 clear hb HRT
 obtain ⟨g0, g1⟩ := cells2 BG.out
 obtain ⟨j0, j1, j2⟩ := cells3 BJ.out
 obtain ⟨x0, x1, x2, x3, x4⟩ := cells5 BX.out
 go_upto_region 3 with (fail)
 cases hbv : bigS val with
 | true =>
  have HGv : ∀ W, Calls Tryz.prog 50 #[.int .i64 val] W fun x w' => x = .returned (.bool true) ∧ Drawn0 W w' := fun W => by have := HG_.out val W; rwa [hbv] at this
  obtain rfl : res = (0, 0, false, false, 0, [], 71) := by
   have h := HH.out
   rw [hbv, Bool.true_or, if_pos rfl] at h
   exact (Option.some.inj h).symm
  clear hbv HH
  obtain ⟨r0, r1, r2, r3, r4⟩ := cells5 BR.out
  obtain ⟨f0, f1, f2, f3, f4⟩ := frozen5 BR.out
  go_wp2_with (go_at_call 50; refine (HGv _).mono ?_; rintro x w3 ⟨rfl, ⟨nd1, rfl⟩⟩; clear HGv)
  refine bodyPost_ret (results_ctt rfl _ _ (w.heap.size + 1 + 1 + 1) 50 #[.int .i64 0, .int .i64 0, .bool false, .bool false, .int .i64 0] (0, 0) _ rfl ?hg Tryz.underlying50 rfl (by kernel_rfl)) rfl ?_
  case hg => exact (blk_put (blk_put (blk_put (blk_put (blk_put (blk_drewN BR.out _) 0 _ rfl) 1 _ rfl) 2 _ rfl) 3 _ rfl) 4 _ rfl)
  exact ⟨_, rfl, Kd.R_nil _ _ _ _ _, by repeat (first | exact HB2.out | refine below_set ?_ (by omega) | apply pw_below_drewN | apply below_drew1)⟩
 | false =>
 have HGv : ∀ W, Calls Tryz.prog 50 #[.int .i64 val] W fun x w' => x = .returned (.bool false) ∧ Drawn0 W w' := fun W => by have := HG_.out val W; rwa [hbv] at this
 have HGi : ∀ W, Calls Tryz.prog 50 #[.int .i64 inn] W fun x w' => x = .returned (.bool (bigS inn)) ∧ Drawn0 W w' := fun W => HG_.out inn W
 have HH2 := HH.out
 rw [hbv, Bool.false_or] at HH2
 have HH3 := Aside0.mk HH2
 clear hbv HH HH2
 go_upto_if 49 with (first
  | (go_at_call 50; refine (HGv _).mono ?_; rintro x w3 ⟨rfl, ⟨nd1, rfl⟩⟩; clear HGv)
  | (go_at_call 50; refine (HGi _).mono ?_; rintro x w3 ⟨rfl, ⟨nd2, rfl⟩⟩; clear HGi))
 cases hbi : bigS inn with
 | true =>
  obtain rfl : res = (0, 0, false, false, 0, [], 71) := by
   have h := HH3.out
   rw [hbi, if_pos rfl] at h
   exact (Option.some.inj h).symm
  clear hbi HH3
  obtain ⟨r0, r1, r2, r3, r4⟩ := cells5 BR.out
  obtain ⟨f0, f1, f2, f3, f4⟩ := frozen5 BR.out
  go_wp2
  refine bodyPost_ret (results_ctt rfl _ _ (w.heap.size + 1 + 1 + 1) 50 #[.int .i64 0, .int .i64 0, .bool false, .bool false, .int .i64 0] (0, 0) _ rfl ?hg Tryz.underlying50 rfl (by kernel_rfl)) rfl ?_
  case hg => exact (blk_put (blk_put (blk_put (blk_put (blk_put (blk_drewN BR.out _) 0 _ rfl) 1 _ rfl) 2 _ rfl) 3 _ rfl) 4 _ rfl)
  exact ⟨_, rfl, Kd.R_nil _ _ _ _ _, by repeat (first | exact HB2.out | refine below_set ?_ (by omega) | apply pw_below_drewN | apply below_drew1)⟩
 | false =>
 have HH4 := HH3.out
 rw [hbi, if_neg (by decide)] at HH4
 clear hbi HH3
 cases hq : (!act && !has) with
 | true =>
  obtain rfl : res = (id, val, act, has, inn, [], 0) := by
   rw [hq, if_pos rfl] at HH4
   exact (Option.some.inj HH4).symm
  clear HH4
  cases act with
  | true => cases hq
  | false =>
  cases has with
  | true => cases hq
  | false =>
  clear hq
  obtain ⟨r0, r1, r2, r3, r4⟩ := cells5 BR.out
  obtain ⟨f0, f1, f2, f3, f4⟩ := frozen5 BR.out
  go_wp2
  refine bodyPost_ret (results_ctt rfl _ _ (w.heap.size + 1 + 1 + 1) 50 #[.int .i64 id, .int .i64 val, .bool false, .bool false, .int .i64 inn] (0, 0) _ rfl ?hg Tryz.underlying50 rfl (by kernel_rfl)) rfl ?_
  case hg => exact (blk_put (blk_put (blk_put (blk_put (blk_put (blk_drewN BR.out _) 0 _ rfl) 1 _ rfl) 2 _ rfl) 3 _ rfl) 4 _ rfl)
  exact ⟨_, rfl, Kd.R_nil _ _ _ _ _, by repeat (first | exact HB2.out | refine below_set ?_ (by omega) | apply pw_below_drewN | apply below_drew1)⟩
 | false =>
 rw [hq, if_neg (by decide)] at HH4
 obtain ⟨es, hes, HH5⟩ := Option.bind_eq_some_iff.mp HH4
 obtain ⟨⟨q1, q2, q3, q4, q5, ms⟩, hpl, HH6⟩ := Option.bind_eq_some_iff.mp HH5
 dsimp only at HH6
 have HLEN : Aside0 (ms.length ≤ 1000000) := ⟨by
  by_cases hm : ms.length ≤ 1000000
  ·exact hm
  ·rw [if_neg hm] at HH6; cases HH6⟩
 rw [if_pos HLEN.out] at HH6
 have HRES := Aside0.mk (Option.some.inj HH6)
 have HOUT : ∀ W, Below w.heap.size w W → Calls Tryz.prog 52 #[.agg #[.int .i64 n, .slice A0_1 l.length c0_1], .int .i64 id] W fun e w' => ∃ v0_ : Value, e = .returned (v0_) ∧ Kd.R k48 48 w' W.heap.size (fun _ => True) v0_ es ∧ Below W.heap.size W w' := fun W hW => modillionref05_Out.calls k n A0_1 c0_1 l id es W (Kd.C_below HC.out hW) HCC.out hes
 have HPL : ∀ A3 c3 W, Kd.C k48 W A3 es.length es → es.length ≤ c3 → Calls Tryz.prog 51 #[.agg #[.string tag, .int .i64 src, .int .i64 steps], .int .i64 at_, .agg #[.int .i64 id, .int .i64 val, .bool act, .bool has, .int .i64 inn], .slice A3 es.length c3] W fun e w' => ∃ v5_ : Value, e = .returned (.tuple #[.agg #[.int .i64 q1, .int .i64 q2, .bool q3, .bool q4, .int .i64 q5], v5_]) ∧ Kd.R k61 61 w' W.heap.size (fun _ => True) v5_ ms ∧ Below W.heap.size W w' := fun A3 c3 W h1 h2 => modillionref07_plain.calls tag src steps at_ id val act has inn A3 c3 es q1 q2 q3 q4 q5 ms W h1 h2 hpl
 have HOUT_ := Aside0.mk HOUT
 have HPL_ := Aside0.mk HPL
 have HACT := Aside0.mk hq
 clear HH4 HH5 HH6 hes hpl HOUT HPL HC HCC hq
 go_upto_region 5 with (fail)
 go_cut [58] from 15 (fun v58 wc => v58 = .bool false ∧ Aside0 (wc.heap[w.heap.size]? = some (.cells #[.int .i64 n, .slice A0_1 l.length c0_1] 24 (0, 0))) ∧ Aside0 (wc.heap[w.heap.size + 1]? = some (.cells #[.string tag, .int .i64 src, .int .i64 steps] 26 (0, 0))) ∧ Aside0 (wc.heap[w.heap.size + 1 + 1]? = some (.cells #[.int .i64 id, .int .i64 val, .bool act, .bool has, .int .i64 inn] 50 (0, 0))) ∧ Aside0 (wc.heap[w.heap.size + 1 + 1 + 1]? = some (.cells #[.int .i64 0, .int .i64 0, .bool false, .bool false, .int .i64 0] 50 (0, 0))) ∧ Aside0 (w.heap.size + 4 ≤ wc.heap.size) ∧ Aside0 (Below w.heap.size w wc))
 case first =>
  cases act with
  | true =>
   go_wp2
   go_meet
   case rel => exact ⟨rfl, ⟨blk_drewN BG.out _⟩, ⟨blk_drewN BJ.out _⟩, ⟨blk_drewN BX.out _⟩, ⟨blk_drewN BR.out _⟩, SZ2, ⟨pw_below_drewN HB2.out _⟩⟩
  | false =>
   cases has with
   | true =>
    go_wp2
    go_meet
    case rel => exact ⟨rfl, ⟨blk_drewN BG.out _⟩, ⟨blk_drewN BJ.out _⟩, ⟨blk_drewN BX.out _⟩, ⟨blk_drewN BR.out _⟩, SZ2, ⟨pw_below_drewN HB2.out _⟩⟩
   | false => exact absurd HACT.out (by decide)
 case rest =>
 clear g0 g1 j0 j1 j2 x0 x1 x2 x3 x4 BG BJ BX BR SZ2 HB2
 obtain ⟨rfl, BG, BJ, BX, BR, SZ2, HB2⟩ := hcut
 obtain ⟨wb, hwb⟩ : ∃ x, x = wc := ⟨_, rfl⟩
 subst hwb
 go_upto_region 7 with (fail)
 have HK : ∀ w', Below wb.heap.size wb w' → (w'.cell? ⟨w.heap.size, 0, none⟩ = some (.int .i64 n) ∧ w'.cell? ⟨w.heap.size, 1, none⟩ = some (.slice A0_1 l.length c0_1) ∧ w'.cell? ⟨w.heap.size + 1, 0, none⟩ = some (.string tag) ∧ w'.cell? ⟨w.heap.size + 1, 1, none⟩ = some (.int .i64 src) ∧ w'.cell? ⟨w.heap.size + 1, 2, none⟩ = some (.int .i64 steps) ∧ w'.cell? ⟨w.heap.size + 1 + 1, 0, none⟩ = some (.int .i64 id) ∧ w'.cell? ⟨w.heap.size + 1 + 1, 1, none⟩ = some (.int .i64 val) ∧ w'.cell? ⟨w.heap.size + 1 + 1, 2, none⟩ = some (.bool act) ∧ w'.cell? ⟨w.heap.size + 1 + 1, 3, none⟩ = some (.bool has) ∧ w'.cell? ⟨w.heap.size + 1 + 1, 4, none⟩ = some (.int .i64 inn)) := fun W' hb => by
  obtain ⟨g0, g1⟩ := cells2 (blk_below BG.out hb)
  obtain ⟨j0, j1, j2⟩ := cells3 (blk_below BJ.out hb)
  obtain ⟨x0, x1, x2, x3, x4⟩ := cells5 (blk_below BX.out hb)
  exact ⟨g0, g1, j0, j1, j2, x0, x1, x2, x3, x4⟩
 have HK_ := Aside0.mk HK
 clear HK
 go_cut [11, 12] (fun v11 v12 wd => ∃ (m : Nat), v11 = .pointer (some ⟨m, 0, none⟩) ∧ Aside0 (wd.heap[m]? = some (.cells #[.int .i64 q1, .int .i64 q2, .bool q3, .bool q4, .int .i64 q5] 50 (0, 0))) ∧ Aside0 (Kd.R k61 61 wd wb.heap.size (fun _ => True) v12 ms) ∧ Aside0 (Below wb.heap.size wb wd) ∧ Aside0 (wb.heap.size ≤ m))
 case first =>
  have hsl := HK_.out wb (Below.refl _ _)
  go_region_held3 (fun w' => w'.cell? ⟨w.heap.size, 0, none⟩ = some (.int .i64 n) ∧ w'.cell? ⟨w.heap.size, 1, none⟩ = some (.slice A0_1 l.length c0_1) ∧ w'.cell? ⟨w.heap.size + 1, 0, none⟩ = some (.string tag) ∧ w'.cell? ⟨w.heap.size + 1, 1, none⟩ = some (.int .i64 src) ∧ w'.cell? ⟨w.heap.size + 1, 2, none⟩ = some (.int .i64 steps) ∧ w'.cell? ⟨w.heap.size + 1 + 1, 0, none⟩ = some (.int .i64 id) ∧ w'.cell? ⟨w.heap.size + 1 + 1, 1, none⟩ = some (.int .i64 val) ∧ w'.cell? ⟨w.heap.size + 1 + 1, 2, none⟩ = some (.bool act) ∧ w'.cell? ⟨w.heap.size + 1 + 1, 3, none⟩ = some (.bool has) ∧ w'.cell? ⟨w.heap.size + 1 + 1, 4, none⟩ = some (.int .i64 inn)) (first | (with_reducible exact hsl) | (with_reducible refine HK_.out _ ?_; repeat (first | (with_reducible exact HB4.out) | (with_reducible exact HB3.out) | (with_reducible exact Below.refl _ _) | with_reducible apply below_drew1 | with_reducible apply below_alloc | with_reducible refine below_set ?_ HM.out)))
   (first
    | (go_at_call 52; refine (HOUT_.out _ (HB2.out.trans (Below.mono (show Below wb.heap.size wb _ from by repeat (first | exact Below.refl _ _ | apply below_drew1 | apply below_alloc)) HB2.out.size))).mono ?_; rintro x w3 ⟨v3, rfl, hR3, hb3⟩; obtain ⟨A3, c3, e3⟩ := Kd.R_slice hR3; subst e3; have hb4 : Below (wb.alloc (.cells #[.int .i64 0, .int .i64 0, .bool false, .bool false, .int .i64 0] 50)).heap.size (wb.alloc (.cells #[.int .i64 0, .int .i64 0, .bool false, .bool false, .int .i64 0] 50)) w3 := (by first | exact hb3 | exact (below_drew1 (Below.refl _ _)).trans hb3); have BKm := Aside0.mk (blk_below (blk_new wb _) hb4); have HR3 := Aside0.mk (Kd.R_reads' hR3).2; have HB3 : Aside0 (Below wb.heap.size wb w3) := ⟨(below_alloc (Below.refl _ _) _).trans (hb4.mono (by simp))⟩; have HM : Aside0 (wb.heap.size ≤ wb.heap.size) := ⟨Nat.le_refl _⟩; clear hR3 hb3 hb4; obtain ⟨m0, m1, m2, m3, m4⟩ := cells5 BKm.out; obtain ⟨f0, f1, f2, f3, f4⟩ := frozen5 BKm.out)
    | (go_at_call 52; refine (HOUT_.out _ (HB2.out.trans (Below.mono (show Below wb.heap.size wb _ from by repeat (first | exact Below.refl _ _ | apply below_drew1 | apply below_alloc)) HB2.out.size))).mono ?_; rintro x w3 ⟨v3, rfl, hR3, hb3⟩; obtain ⟨A3, c3, e3⟩ := Kd.R_slice hR3; subst e3; have HR3 := Aside0.mk (Kd.R_reads' hR3).2; have HB3 : Aside0 (Below wb.heap.size wb w3) := ⟨(show Below wb.heap.size wb wb.drew from below_drew1 (Below.refl _ _)).trans (hb3.mono (Nat.le_refl _))⟩; clear hR3 hb3)
    | (go_at_call 51; refine (HPL_.out _ _ _ HR3.out.2 HR3.out.1).mono ?_; rintro x w4 ⟨v4, rfl, hR4, hb4⟩; have bkm := blk_below BKm.out hb4; clear BKm m0 m1 m2 m3 m4 f0 f1 f2 f3 f4; have BKm := Aside0.mk bkm; have HB4 : Aside0 (Below wb.heap.size wb w4) := ⟨HB3.out.trans (hb4.mono HB3.out.size)⟩; have HR4 := Aside0.mk (Kd.R_lower (base' := wb.heap.size) hR4 HB3.out.size); clear hR4 hb4 bkm; obtain ⟨m0, m1, m2, m3, m4⟩ := cells5 BKm.out; obtain ⟨f0, f1, f2, f3, f4⟩ := frozen5 BKm.out)
    | (go_at_call 51; refine (HPL_.out _ _ _ (Kd.C_alloc HR3.out.2 _) HR3.out.1).mono ?_; rintro x w4 ⟨v4, rfl, hR4, hb4⟩; have BKm := Aside0.mk (blk_below (blk_new w3 _) hb4); have HB4 : Aside0 (Below wb.heap.size wb w4) := ⟨(below_alloc HB3.out _).trans (hb4.mono (below_alloc HB3.out _).size)⟩; have HR4 := Aside0.mk (Kd.R_lower (base' := wb.heap.size) hR4 (below_alloc HB3.out (.cells #[.int .i64 0, .int .i64 0, .bool false, .bool false, .int .i64 0] 50)).size); have HM : Aside0 (wb.heap.size ≤ w3.heap.size) := ⟨HB3.out.size⟩; clear hR4 hb4; obtain ⟨m0, m1, m2, m3, m4⟩ := cells5 BKm.out; obtain ⟨f0, f1, f2, f3, f4⟩ := frozen5 BKm.out)
    | (go_at_call 51; refine (HPL_.out _ _ _ HR3.out.2 HR3.out.1).mono ?_; rintro x w4 ⟨v4, rfl, hR4, hb4⟩; have HB4 : Aside0 (Below wb.heap.size wb w4) := ⟨HB3.out.trans (hb4.mono HB3.out.size)⟩; have HR4 := Aside0.mk (Kd.R_lower (base' := wb.heap.size) hR4 HB3.out.size); have HM : Aside0 (wb.heap.size ≤ w4.heap.size) := ⟨HB4.out.size⟩; clear hR4 hb4))
  all_goals
   go_wp2
   go_meet
   case rel => exact ⟨_, rfl, ⟨by first | (with_reducible exact blk_new _ _) | (with_reducible exact blk_drew (blk_new _ _)) | (with_reducible exact put5_blk BKm.out) | (with_reducible exact blk_drew (put5_blk BKm.out))⟩, ⟨by first | (with_reducible exact Kd.R_alloc HR4.out _) | (with_reducible exact Kd.R_drew (Kd.R_alloc HR4.out _)) | (with_reducible exact put5_R BKm.out HR4.out) | (with_reducible exact Kd.R_drew (put5_R BKm.out HR4.out))⟩, ⟨by first | (with_reducible exact below_alloc HB4.out _) | (with_reducible exact below_drew1 (below_alloc HB4.out _)) | (with_reducible exact put5_below HM.out HB4.out) | (with_reducible exact below_drew1 (put5_below HM.out HB4.out))⟩, ⟨by first | exact HM.out | exact HB4.out.size⟩⟩
 case rest =>
 obtain ⟨m, rfl, BKm, HRm, HBm, HMm⟩ := hcut
 obtain ⟨wd, hwd⟩ : ∃ x, x = wc := ⟨_, rfl⟩
 subst hwd
 have BR2 := Aside0.mk (blk_below BR.out HBm.out)
 have HB3 : Aside0 (Below w.heap.size w wd) := ⟨HB2.out.trans (HBm.out.mono HB2.out.size)⟩
 obtain ⟨A9, c9, e9⟩ := Kd.R_slice HRm.out
 subst e9
 have C9 := Aside0.mk (Kd.R_reads' HRm.out).2.2
 obtain ⟨m0, m1, m2, m3, m4⟩ := cells5 BKm.out
 have HGq : ∀ W, Calls Tryz.prog 50 #[.int .i64 q2] W fun x w' => x = .returned (.bool (bigS q2)) ∧ Drawn0 W w' := fun W => HG_.out q2 W
 clear BG BJ BX BR HOUT_ HPL_ HK_ HACT
 go_wp2_with (go_at_call 50; refine (HGq _).mono ?_; rintro x w5 ⟨rfl, ⟨nd, rfl⟩⟩; clear HGq)
 clear m0 m1 m2 m3 m4
 go_loopg [13, 14] (ms.length) (fun kq v13 v14 w' => ∃ (i : Nat), v13 = .bool (bigS q2 || (ms.take i).any fun m => bigS m.f2) ∧ v14 = .int .i64 (i : Int) ∧ Aside0 (i + kq = ms.length) ∧ Aside0 (Below wd.heap.size wd w'))
 case atStart => exact ⟨0, by rw [List.take_zero, List.any_nil, Bool.or_false], rfl, ⟨by omega⟩, ⟨pw_below_drewN (Below.refl _ _) _⟩⟩
 case round =>
  obtain ⟨i, rfl, rfl, HI, HB⟩ := hrel
  by_cases hlt : i < ms.length
  ·have d1 : decide ((i : Int) < (ms.length : Int)) = true := decide_eq_true (by omega)
   have d1n : decide (i < ms.length) = true := decide_eq_true hlt
   have p1 : (0 ≤ (i : Int)) = True := eq_true (by omega)
   have q1' : ((i : Int) < (ms.length : Int)) = True := eq_true (by omega)
   have qp : (i < ms.length) = True := eq_true hlt
   obtain ⟨gk1, rfl⟩ : ∃ m, gk = m + 1 := ⟨gk - 1, by have := HI.out; omega⟩
   obtain ⟨ad, e1, hx0, hx1, hx2⟩ := at_T61 (Kd.C_below C9.out HB.out) (i : Int) (by omega) (by omega)
   rw [rd_msgAt ms i hlt, Int.toNat_natCast] at hx0 hx1 hx2
   have hw1 : wrap64 ((i : Int) + 1) = (i : Int) + 1 := by have h1 := HLEN.out; unfold wrap64; omega
   have hts := any_take ms (bigS q2) i hlt
   subst e1
   generalize ms[i] = y at hx0 hx1 hx2 hts
   have HTS := Aside0.mk hts
   clear hts hlt
   have HGy : ∀ W, Calls Tryz.prog 50 #[.int .i64 y.f2] W fun x w' => x = .returned (.bool (bigS y.f2)) ∧ Drawn0 W w' := fun W => HG_.out y.f2 W
   generalize (bigS q2 || (ms.take i).any fun m => bigS m.f2) = fl at HTS ⊢
   cases fl with
   | true =>
    go_wp2
    go_roundg gk1
    case measure => omega
    case rel => exact ⟨i + 1, by rw [HTS.out]; rfl, by go_num, ⟨by have := HI.out; omega⟩, HB⟩
   | false =>
    go_wp2_with (go_at_call 50; refine (HGy _).mono ?_; rintro x w6 ⟨rfl, ⟨nd2, rfl⟩⟩; clear HGy)
    go_roundg gk1
    case measure => omega
    case rel => exact ⟨i + 1, by rw [HTS.out, Bool.false_or], by go_num, ⟨by have := HI.out; omega⟩, ⟨pw_below_drewN HB.out _⟩⟩
  ·have d1 : decide ((i : Int) < (ms.length : Int)) = false := decide_eq_false (by omega)
   have d1n : decide (i < ms.length) = false := decide_eq_false hlt
   have hi : ms.take i = ms := List.take_of_length_le (by omega)
   rw [hi]
   have BKw := Aside0.mk (blk_below BKm.out HB.out)
   have BRw := Aside0.mk (blk_below BR2.out HB.out)
   have HBf : Aside0 (Below w.heap.size w wr) := ⟨HB3.out.trans (HB.out.mono HB3.out.size)⟩
   have HRw := Aside0.mk (Kd.R_lower (base' := w.heap.size) (Kd.R_below HRm.out HB.out) HB2.out.size)
   obtain ⟨m0, m1, m2, m3, m4⟩ := cells5 BKw.out
   obtain ⟨r0, r1, r2, r3, r4⟩ := cells5 BRw.out
   obtain ⟨f0, f1, f2, f3, f4⟩ := frozen5 BRw.out
   have hres := HRES.out
   clear hi hlt HI
   generalize (bigS q2 || ms.any fun m => bigS m.f2) = fl at hres ⊢
   cases fl with
   | true =>
    rw [if_pos rfl] at hres
    subst hres
    clear HRES
    go_wp2
    refine bodyPost_ret (results_ctt rfl _ _ (w.heap.size + 1 + 1 + 1) 50 #[.int .i64 0, .int .i64 0, .bool false, .bool false, .int .i64 0] (0, 0) _ rfl ?hg Tryz.underlying50 rfl (by kernel_rfl)) rfl ?_
    case hg => exact blk_put (blk_put (blk_put (blk_put (blk_put BRw.out 0 _ rfl) 1 _ rfl) 2 _ rfl) 3 _ rfl) 4 _ rfl
    exact ⟨_, rfl, Kd.R_nil _ _ _ _ _, by repeat (first | exact HBf.out | refine below_set ?_ (by omega) | apply pw_below_drewN | apply below_drew1)⟩
   | false =>
    rw [if_neg (by decide)] at hres
    subst hres
    clear HRES
    go_wp2
    refine bodyPost_ret (results_ctt rfl _ _ (w.heap.size + 1 + 1 + 1) 50 #[.int .i64 q1, .int .i64 q2, .bool q3, .bool q4, .int .i64 q5] (0, 0) _ rfl ?hg Tryz.underlying50 rfl (by kernel_rfl)) rfl ?_
    case hg => exact blk_put (blk_put (blk_put (blk_put (blk_put BRw.out 0 _ rfl) 1 _ rfl) 2 _ rfl) 3 _ rfl) 4 _ rfl
    exact ⟨_, rfl, R_set5 HRw.out BRw.out, by repeat (first | exact HBf.out | refine below_set ?_ (by omega) | apply pw_below_drewN | apply below_drew1)⟩
end

/-! ### modillionref08_To: function 53 -/
def modillionref08_To.l0 : Nat → List (S61) → Int → List (S61) → Int → Option ((List (S61)))
 | 0, _, _, _, _ => none
 | k + 1, x0, x1, x5, x6 => if x6 < (x0.length : Int) then (if 0 ≤ x6 then (if ((rd_T61 x0 x6).f1) = x1 then (if x5.length < 5864062014805 then (modillionref08_To.l0 k x0 x1 (x5 ++ [(⟨(rd_T61 x0 x6).f0, (rd_T61 x0 x6).f1, (rd_T61 x0 x6).f2⟩ : S61)]) (wrap64 (x6 + 1))) else (none)) else (modillionref08_To.l0 k x0 x1 x5 (wrap64 (x6 + 1)))) else (none)) else ((modillionref08_Sort.f x5).bind fun t210 => (some t210))
def modillionref08_To.f (k : Nat) (l0 : List (S61)) (a1 : Int) : Option ((List (S61))) := modillionref08_To.l0 k l0 a1 (([] : List (S61))) 0
theorem modillionref08_To.mono_l : ∀ k, (∀ y0 y1 y2 y3, LeO (modillionref08_To.l0 k y0 y1 y2 y3) (modillionref08_To.l0 (k + 1) y0 y1 y2 y3))
 | 0 => fun _ _ _ _ r h => by simp [modillionref08_To.l0] at h
 | k + 1 => by
  have ih0 := modillionref08_To.mono_l k
  ·intro y0 y1 y2 y3
   unfold modillionref08_To.l0
   repeat' first
   | (with_reducible exact ih0 _ _ _ _)
   | (with_reducible exact LeO.refl _)
   | (with_reducible exact LeO.none _)
   | (with_reducible refine LeO.ite ?_ ?_)
   | (with_reducible refine LeO.bind ?_ (fun _ => ?_))
   | exact ih0 _ _ _ _
   | exact LeO.none _
   | refine LeO.ite ?_ ?_
   | refine LeO.bind ?_ (fun _ => ?_)
theorem modillionref08_To.mono : ∀ a0 a1 k, LeO (modillionref08_To.f k a0 a1) (modillionref08_To.f (k + 1) a0 a1) := by
 intro a0 a1 k
 have ih0 := modillionref08_To.mono_l k
 unfold modillionref08_To.f
 repeat' first
   | (with_reducible exact ih0 _ _ _ _)
   | (with_reducible exact LeO.refl _)
   | (with_reducible exact LeO.none _)
   | (with_reducible refine LeO.ite ?_ ?_)
   | (with_reducible refine LeO.bind ?_ (fun _ => ?_))
   | exact ih0 _ _ _ _
   | exact LeO.none _
   | refine LeO.ite ?_ ?_
   | refine LeO.bind ?_ (fun _ => ?_)
set_option maxHeartbeats 8000000 in
set_option maxRecDepth 100000 in
theorem modillionref08_To.calls (k : Nat) (A0 : Option Addr) (c0 : Nat) (l0 : List (S61)) (a1 : Int) (r : List (S61)) (w : World) (hr0 : Kd.C k61 w A0 l0.length l0) (hc0 : l0.length ≤ c0) (h : modillionref08_To.f k l0 a1 = some r) :
  Calls Tryz.prog 53 #[.slice A0 l0.length c0, .int .i64 a1] w fun e w' => ∃ v0_ : Value, e = .returned (v0_) ∧ Kd.R k61 61 w' w.heap.size (fun _ => True) v0_ r ∧ Below w.heap.size w w' := by
 have hu61 := Tryz.underlying61
 have HR0 := Aside0.mk hr0
 have HC0 := Aside0.mk hc0
 clear hr0 hc0
 have HB := Aside0.mk (Below.refl w.heap.size w)
 have H : (modillionref08_To.l0 k l0 a1 (([] : List (S61))) 0) = some r := h
 clear h
 obtain ⟨y202, hy202⟩ : ∃ y_ : List (S61), y_ = (([] : List (S61))) := ⟨_, rfl⟩
 replace H : (modillionref08_To.l0 k l0 a1 y202 0) = some r := by first | (rw [hy202]; with_reducible exact H) | (have H2_ := (Option.bind_some _ _).symm.trans H; rw [hy202]; with_reducible exact H2_) | (have H2_ := (Option.bind_some _ _).symm.trans H; with_reducible exact H2_) | with_reducible exact H | (rw [hy202]; exact H) | exact H
 have Ny202 := Aside0.mk hy202
 clear hy202
 have H' := Aside0.mk H
 clear H
 go_enter Tryz.func53, Tryz.ntmps53
 go_wp2_with (first | ((with_reducible refine gate_dst (N := 7) rfl ?_); refine Kd.R_lit k61 _ 61 ?hg (N := 7) ?hd (xs := ([] : List (S61))) (inner := []) (ok := fun _ => True) (okp := fun _ => True) ?hr ?hp (fun _ hk => hk) trivial (Below.refl _ _) (Nat.le_refl _) (by simp) ?_; (case hd => rfl); (case hg => rfl); (case hr => first | (go_simp; done) | (go_simp; rfl)); (case hp => exact (Reps.none _ _)); intro v203 w3 ho4 hb hg_ hnew_; clear hg_ hnew_; (first | rw [← Ny202.out] at ho4 | (simp only [Int.reduceToNat] at ho4; rw [← Ny202.out] at ho4)); have HO204 := lS ho4 HB; replace HB := bS HB hb; clear hb ho4))
 go_loopg [5, 6] k (fun kq v5 v6 w' => ∃ (x5_1 : List (S61)) (x6_1 : Int), v6 = .int .i64 x6_1 ∧ Aside0 (modillionref08_To.l0 kq l0 a1 x5_1 x6_1 = some r) ∧ Aside0 (kq ≤ k) ∧ Aside0 (Kd.R k61 61 w' w.heap.size (fun _ => True) v5 x5_1) ∧ Aside0 (Below w.heap.size w w'))
 case atStart => exact ⟨(y202), (0), (by first | rfl | (simp; done) | (simp [*]; done)), H', ⟨Nat.le_refl _⟩, ⟨kR HO204.out⟩, ⟨kB HB.out⟩⟩
 case round =>
  clear H'
  try clear p2
  obtain ⟨x5_1, x6_1, rfl, HA, HK1, HO_5, HB⟩ := hrel
  cases gk with
  | zero => exact absurd HA.out (by simp [modillionref08_To.l0])
  | succ k1 =>
   have H := HA.out
   clear HA
   simp only [modillionref08_To.l0] at H
   by_cases c5 : x6_1 < (l0.length : Int)
   ·rw [if_pos c5] at H
    have c5b0 := decide_eq_true c5
    clear c5
    obtain ⟨c6, H⟩ := iteS17 H
    have c6b0 := decide_eq_true c6
    clear c6
    by_cases c7 : ((rd_T61 l0 x6_1).f1) = a1
    ·rw [if_pos c7] at H
     have c7b0 : (((rd_T61 l0 x6_1).f1) == a1) = true := beq_iff_eq.mpr c7
     have c7b1 : (((rd_T61 l0 x6_1).f1) != a1) = false := bne_eq_false_iff_eq.mpr c7
     clear c7
     obtain ⟨c8, H⟩ := iteS17 H
     have LMc8 := Aside0.mk c8
     clear c8
     obtain ⟨y207, hy207⟩ : ∃ y_ : List (S61), y_ = (x5_1 ++ [(⟨(rd_T61 l0 x6_1).f0, (rd_T61 l0 x6_1).f1, (rd_T61 l0 x6_1).f2⟩ : S61)]) := ⟨_, rfl⟩
     replace H : (modillionref08_To.l0 k1 l0 a1 y207 (wrap64 (x6_1 + 1))) = some r := by first | (rw [hy207]; with_reducible exact H) | (have H2_ := (Option.bind_some _ _).symm.trans H; rw [hy207]; with_reducible exact H2_) | (have H2_ := (Option.bind_some _ _).symm.trans H; with_reducible exact H2_) | with_reducible exact H | (rw [hy207]; exact H) | exact H
     have Ny207 := Aside0.mk hy207
     clear hy207
     have H' := Aside0.mk H
     clear H
     have p205 : 0 ≤ (x6_1 : Int) := of_decide_eq_true (by first | (with_reducible assumption) | assumption)
     have q205 : x6_1 < (l0.length : Int) := of_decide_eq_true (by first | (with_reducible assumption) | assumption)
     obtain ⟨ad205, e205, hx205_0, hx205_1, hx205_2⟩ := at_T61 HR0.out x6_1 p205 q205
     cases e205
     replace hx205_0 := (HB.out.cell (World.block_lt_of_cell? w _ hx205_0)).trans hx205_0
     replace hx205_1 := (HB.out.cell (World.block_lt_of_cell? w _ hx205_1)).trans hx205_1
     replace hx205_2 := (HB.out.cell (World.block_lt_of_cell? w _ hx205_2)).trans hx205_2
     replace p205 := eq_true p205
     replace q205 := eq_true q205
     have p206 : 0 ≤ (x6_1 : Int) := of_decide_eq_true (by first | (with_reducible assumption) | assumption)
     have q206 : x6_1 < (l0.length : Int) := of_decide_eq_true (by first | (with_reducible assumption) | assumption)
     obtain ⟨ad206, e206, hx206_0, hx206_1, hx206_2⟩ := at_T61 HR0.out x6_1 p206 q206
     obtain rfl : ad205 = ad206 := (by injection e206)
     replace hx206_0 := (HB.out.cell (World.block_lt_of_cell? w _ hx206_0)).trans hx206_0
     replace hx206_1 := (HB.out.cell (World.block_lt_of_cell? w _ hx206_1)).trans hx206_1
     replace hx206_2 := (HB.out.cell (World.block_lt_of_cell? w _ hx206_2)).trans hx206_2
     replace p206 := eq_true p206
     replace q206 := eq_true q206
     go_wp2_with (first | ((with_reducible refine gate_builtin (b := .append) (xs := #[.tmp 21, .tmp 26]) rfl ?_); at_builtin; refine Kd.R_append k61 (w0 := w) w.heap.size rfl (.tmp 21) (.tmp 26) 29 61 (.agg #[(.int .i64 0), (.int .i64 0), (.int .i64 0)]) 24 rfl Tryz.underlying29 info61 rfl (by decide) (by omega) u5 x5_1 (⟨(rd_T61 l0 x6_1).f0, (rd_T61 l0 x6_1).f1, (rd_T61 l0 x6_1).f2⟩ : S61) [.int .i64 ((rd_T61 l0 x6_1).f0), .int .i64 ((rd_T61 l0 x6_1).f1), .int .i64 ((rd_T61 l0 x6_1).f2)] (fun _ => True) (fun _ => False) rfl rfl ?aP (fun _ hk => hk.elim) ?aF ?aO ?aB ?aS ?aL ?_; (case aP => exact k61_mkM _ _ _ (⟨(rd_T61 l0 x6_1).f0, (rd_T61 l0 x6_1).f1, (rd_T61 l0 x6_1).f2⟩ : S61)); (case aB => exact (kB HB.out)); (case aF => exact (fun _ _ => trivial)); (case aO => exact (kR HO_5.out)); (case aS => exact (below_size (kB HB.out))); (case aL => have := LMc8.out; omega); intro v208 w9 ho hb hg hat; rw [← Ny207.out] at ho; have n0_ := Aside0.mk (hb); have n1_ := Aside0.mk (ho); clear HB; clear HO_5; have HB := n0_; have HO209 := n1_; clear n0_ n1_; clear ho hb hg hat))
     go_roundg k1
     case measure => have := HK1.out; omega
     case rel => exact ⟨(y207), (wrap64 (x6_1 + 1)), (by first | rfl | (simp; done) | (simp [*]; done)), H', ⟨by have := HK1.out; omega⟩, ⟨kR HO209.out⟩, ⟨kB HB.out⟩⟩
    ·rw [if_neg c7] at H
     have c7b0 : (((rd_T61 l0 x6_1).f1) == a1) = false := beq_eq_false_iff_ne.mpr c7
     have c7b1 : (((rd_T61 l0 x6_1).f1) != a1) = true := bne_iff_ne.mpr c7
     have H' := Aside0.mk H
     clear H
     have p205 : 0 ≤ (x6_1 : Int) := of_decide_eq_true (by first | (with_reducible assumption) | assumption)
     have q205 : x6_1 < (l0.length : Int) := of_decide_eq_true (by first | (with_reducible assumption) | assumption)
     obtain ⟨ad205, e205, hx205_0, hx205_1, hx205_2⟩ := at_T61 HR0.out x6_1 p205 q205
     cases e205
     replace hx205_0 := (HB.out.cell (World.block_lt_of_cell? w _ hx205_0)).trans hx205_0
     replace hx205_1 := (HB.out.cell (World.block_lt_of_cell? w _ hx205_1)).trans hx205_1
     replace hx205_2 := (HB.out.cell (World.block_lt_of_cell? w _ hx205_2)).trans hx205_2
     replace p205 := eq_true p205
     replace q205 := eq_true q205
     go_wp2
     go_roundg k1
     case measure => have := HK1.out; omega
     case rel => exact ⟨(x5_1), (wrap64 (x6_1 + 1)), (by first | rfl | (simp; done) | (simp [*]; done)), H', ⟨by have := HK1.out; omega⟩, ⟨kR HO_5.out⟩, ⟨kB HB.out⟩⟩
   ·rw [if_neg c5] at H
    have c5b0 := decide_eq_false c5
    clear c5
    replace H := Option.bind_eq_some_iff.mp H
    obtain ⟨t210, A100, H⟩ := H
    replace H : (some t210) = some r := H
    have A10 := Aside0.mk A100
    clear A100
    obtain rfl := Option.some.inj H
    obtain ⟨Ao11, co11, eo11⟩ := Kd.R_slice HO_5.out
    subst eo11
    go_wp2_with (first | ((with_reducible refine gate_callee (f := 32) rfl ?_); refine gL_ (some 29) Tryz.func32 #[.slice Ao11 x5_1.length co11] ?_; (with_reducible refine (modillionref08_Sort.calls _ _ x5_1 t210 _ ?z1 ?z2 A10.out).mono ?_); (case z1 => exact kD (Kd.R_reads' HO_5.out).2.2); (case z2 => exact (Kd.R_reads' HO_5.out).2.1); rintro e w12 ⟨v211, rfl, ho0, hb⟩; refine ⟨_, rfl, ?_⟩; have HO212 := Aside0.mk (Kd.R_lower (Kd.R_new' ho0 (Kd.R_lt (kR HO_5.out))) (below_size (kB HB.out))); replace HO_5 := Aside0.mk (Kd.R_elder' (kR HO_5.out) (Kd.R_base ho0) hb); replace HB := bS HB hb; clear hb ho0))
    go_ret
    exact ⟨_, by first | rfl | (simp [errW_none, errW_some] <;> rfl) | (simp [*, errW_none, errW_some] <;> rfl), by (with_reducible repeat (first | apply Kd.R_alloc | apply Kd.R_drewN | apply Kd.R_drew)); exact Kd.R_mono HO212.out (fun _ hk => trivial), by exact kB HB.out⟩

end Go.Proofs.YtpndhkeoljoapaaGreat.P
