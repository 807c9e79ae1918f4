/- What these Go functions compute, as Lean functions, and that they do. No condition. -/
import Derived.Test.YtpndhkeoljoapaaGreatPx0
import Derived.Test.YtpndhkeoljoapaaGreatPx1All
import Derived.Test.YtpndhkeoljoapaaGreatPx8
import Derived.Test.YtpndhkeoljoapaaGreatPx9
import Derived.Test.YtpndhkeoljoapaaGreatPx10
import Derived.Test.YtpndhkeoljoapaaGreatPx14
import Derived.Test.YtpndhkeoljoapaaGreatPx17
import Derived.Test.YtpndhkeoljoapaaGreatPx18
namespace Go.Proofs.YtpndhkeoljoapaaGreat.P
open Go.RowKit Go.Proofs.YtpndhkeoljoapaaGreatW.PrintWords Go.Proofs.YtpndhkeoljoapaaGreatW.PrintLast Go.Proofs.YtpndhkeoljoapaaGreatW.PrintMore
attribute [local go_sem] max2_int min2_int max_two min_two max_three min_three max_four min_four   -- for this text's walks alone
set_option linter.unusedVariables false
set_option linter.unusedSimpArgs false
set_option linter.unnecessarySimpa false
theorem iteS19 {α : Type} {c : Prop} [Decidable c] {a : Option α} {r : α} (h : (if c then a else none) = some r) : c ∧ a = some r := by
  by_cases hc : c
  · rw [if_pos hc] at h; exact ⟨hc, h⟩
  · rw [if_neg hc] at h; cases h

attribute [local go_sem high] eqA50 eqA61
/-! ### modillionref09_Next: function 8 (given) -/
abbrev NxP := Int × Int × Bool × Bool × Int × List S61 × Int
def nxSteps (F : S50 → Option NxP) : List S50 → List S50 → List S61 → Option (List S50 × List S61 × Int)
  | [], o, s => some (o, s, 0)
  | y :: r, o, s => (F y).bind fun q => if q.2.2.2.2.2.2 = 0 then nxSteps F r (o ++ [vxOf q]) (s ++ q.2.2.2.2.2.1) else some (o, s, q.2.2.2.2.2.2)
def nxComes (C : Int → Option (Int × Bool × Int)) : Nat → Nat → List S50 → Option (List S50 × Int)
  | 0, _, o => some (o, 0)
  | d + 1, v, o => (C (v : Int)).bind fun c => if c.2.2 = 0 then nxComes C d (v + 1) (o.take v ++ [comeV (o.getD v z50) c.2.1 c.1] ++ o.drop (v + 1)) else some (o, c.2.2)
theorem nxSteps_len {F : S50 → Option NxP} : ∀ {r o : List S50} {s : List S61} {p : List S50 × List S61 × Int}, nxSteps F r o s = some p → s.length ≤ p.2.1.length
  | [], o, s, p, h => by
    obtain rfl := Option.some.inj (show some (o, s, (0 : Int)) = some p from h)
    exact Nat.le_refl _
  | y :: r, o, s, p, h => by
    rw [nxSteps] at h
    obtain ⟨q, _, h⟩ := Option.bind_eq_some_iff.mp h
    split at h
    · have := nxSteps_len h
      rw [List.length_append] at this
      omega
    · obtain rfl := Option.some.inj h
      exact Nat.le_refl _
theorem nxSteps_mono {F F' : S50 → Option NxP} (hF : ∀ y, LeO (F y) (F' y)) : ∀ r o s, LeO (nxSteps F r o s) (nxSteps F' r o s)
  | [], _, _ => LeO.refl _
  | y :: r, o, s => LeO.bind (hF y) fun _ => LeO.ite (nxSteps_mono hF r _ _) (LeO.refl _)
theorem nxComes_mono {C C' : Int → Option (Int × Bool × Int)} (hC : ∀ i, LeO (C i) (C' i)) : ∀ d v o, LeO (nxComes C d v o) (nxComes C' d v o)
  | 0, _, _ => LeO.refl _
  | d + 1, v, o => LeO.bind (hC _) fun _ => LeO.ite (nxComes_mono hC d _ _) (LeO.refl _)
theorem put_len {o : List S50} {v : Nat} (h : v < o.length) (x : S50) : (o.take v ++ [x] ++ o.drop (v + 1)).length = o.length := by
  simp only [List.length_append, List.length_take, List.length_drop, List.length_cons, List.length_nil]
  omega
section
open Go.Shelf Go.Proofs.YtpndhkeoljoapaaGreat.Bridge
theorem nx_empty {w : World} {base b : Nat} (h : w.heap[b]? = some (.cells #[] 50 (0, 0))) (hb : base ≤ b) : Kd.R k50 50 w base (fun _ => True) (.slice (some ⟨b, 0, none⟩) 0 0) [] :=
  ⟨fun _ _ => trivial, [], ⟨rfl, .inr ⟨b, 0, #[], rfl, hb, h, Nat.le_refl _, by unfold maxLen; omega, rfl, rfl⟩⟩, (Kd.R_nil k50 50 w base (fun _ => True)).2.elim (fun i hi => by have := hi.1.1; cases i with | nil => exact hi.2 | cons _ _ => simp at this)⟩
theorem nx_emptyM {w : World} {base b : Nat} (h : w.heap[b]? = some (.cells #[] 61 (0, 0))) (hb : base ≤ b) : Kd.R k61 61 w base (fun _ => True) (.slice (some ⟨b, 0, none⟩) 0 0) [] :=
  ⟨fun _ _ => trivial, [], ⟨rfl, .inr ⟨b, 0, #[], rfl, hb, h, Nat.le_refl _, by unfold maxLen; omega, rfl, rfl⟩⟩, (Kd.R_nil k61 61 w base (fun _ => True)).2.elim (fun i hi => by have := hi.1.1; cases i with | nil => exact hi.2 | cons _ _ => simp at this)⟩
def NxPost (w : World) (r : List S50 × List S61 × Int) (e : Ending) (w' : World) : Prop := ∃ v0_ v1_ : Value, e = .returned (.tuple #[v0_, v1_, .int .i64 r.2.2]) ∧ Kd.R k50 50 w' w.heap.size (fun _ => True) v0_ r.1 ∧ Kd.R k61 61 w' w.heap.size (fun _ => True) v1_ r.2.1 ∧ Below w.heap.size w w'
theorem NxPost.none {w w' : World} {c : Int} {r : List S50 × List S61 × Int} (hr : ([], [], c) = r) (hb : Below w.heap.size w w') : NxPost w r (.returned (.tuple #[.slice none 0 0, .slice none 0 0, .int .i64 c])) w' := by
  subst hr
  exact ⟨_, _, rfl, Kd.R_nil _ _ _ _ _, Kd.R_nil _ _ _ _ _, hb⟩
def nxTail (F : S50 → Option NxP) (C : List S61 → Int → Option (Int × Bool × Int)) (vs : List S50) : Option (List S50 × List S61 × Int) :=
  if idsOk vs 0 = false then some ([], [], 90)
  else (nxSteps F vs [] []).bind fun p =>
    if p.2.1.length ≤ 1000000 then
      if p.2.2 = 0 then (nxComes (C p.2.1) vs.length 0 p.1).bind fun q => if q.2 = 0 then (modillionref08_Sort.f p.2.1).bind fun t => some (q.1, t, 0) else some ([], [], q.2)
      else some ([], [], p.2.2)
    else none
theorem nx_one {w : World} {b : Nat} {x : S50} (h : w.heap[b]? = some (.cells #[.int .i64 x.f0, .int .i64 x.f1, .bool x.f2, .bool x.f3, .int .i64 x.f4] 50 (0, 0))) : Kd.C k50 w (some ⟨b, 0, none⟩) 1 [x] := by
  refine ⟨rfl, by omega, fun _ => ⟨_, rfl, fun j p hj => ?_⟩⟩
  have hj0 : j = 0 := by have := (List.getElem?_eq_some_iff.1 hj).1; simp at this; exact this
  subst hj0
  obtain rfl : x = p := by simpa using hj
  refine ⟨_, rfl, k50_mk _ x, fun i u hu => ?_⟩
  rw [add_plain]
  rcases i with _ | _ | _ | _ | _ | i
  · obtain rfl := Option.some.inj hu; simp [World.cell?, h]
  · obtain rfl := Option.some.inj hu; simp [World.cell?, h]
  · obtain rfl := Option.some.inj hu; simp [World.cell?, h]
  · obtain rfl := Option.some.inj hu; simp [World.cell?, h]
  · obtain rfl := Option.some.inj hu; simp [World.cell?, h]
  · cases hu
theorem vx_at {W : World} {A : Option Addr} {l : List S50} (h : Kd.C k50 W A l.length l) (i : Nat) (hl : i < l.length) : ∃ ad, A = some ad ∧ W.cell? (ad.add (i * 5)) = some (.int .i64 l[i].f0) ∧ W.cell? ⟨(ad.add (i * 5)).block, (ad.add (i * 5)).off + 1, none⟩ = some (.int .i64 l[i].f1) ∧ W.cell? ⟨(ad.add (i * 5)).block, (ad.add (i * 5)).off + 2, none⟩ = some (.bool l[i].f2) ∧ W.cell? ⟨(ad.add (i * 5)).block, (ad.add (i * 5)).off + 3, none⟩ = some (.bool l[i].f3) ∧ W.cell? ⟨(ad.add (i * 5)).block, (ad.add (i * 5)).off + 4, none⟩ = some (.int .i64 l[i].f4) := by
  obtain ⟨ad, e, h0, h1, h2, h3, h4⟩ := at_T50 h (i : Int) (by omega) (by omega)
  rw [rd_atVertex l i hl, Int.toNat_natCast] at h0 h1 h2 h3 h4
  exact ⟨ad, e, h0, h1, h2, h3, h4⟩
set_option maxHeartbeats 16000000 in
set_option maxRecDepth 100000 in
theorem modillionref09_Next.w_main (AE AL : Option Addr) (cE cL NE : Nat) (n src steps at_ : Int) (tag : ByteArray) (w : World) (vs : List S50) (F : S50 → Option NxP) (C : List S61 → Int → Option (Int × Bool × Int)) (r : List S50 × List S61 × Int)
    (HRT : ∀ W, Below w.heap.size w W → Calls Tryz.prog 19 #[.agg #[.int .i64 n, .slice AE NE cE], .agg #[.string tag, .int .i64 src, .int .i64 steps]] W fun e w' => e = .returned (.bool true) ∧ Below W.heap.size W w')
    (HST : ∀ W, Below w.heap.size w W → ∀ y p, F y = some p → Calls Tryz.prog 30 #[.agg #[.int .i64 n, .slice AE NE cE], .agg #[.string tag, .int .i64 src, .int .i64 steps], .int .i64 at_, .agg #[.int .i64 y.f0, .int .i64 y.f1, .bool y.f2, .bool y.f3, .int .i64 y.f4]] W fun e w' => ∃ v5_ : Value, e = .returned (.tuple #[.agg #[.int .i64 p.1, .int .i64 p.2.1, .bool p.2.2.1, .bool p.2.2.2.1, .int .i64 p.2.2.2.2.1], v5_, .int .i64 p.2.2.2.2.2.2]) ∧ Kd.R k61 61 w' W.heap.size (fun _ => True) v5_ p.2.2.2.2.2.1 ∧ Below W.heap.size W w')
    (HCM : ∀ W, Below w.heap.size w W → ∀ A c s i q, Kd.C k61 W A s.length s → s.length ≤ c → C s i = some q → Calls Tryz.prog 31 #[.string tag, .slice A s.length c, .int .i64 i] W fun e w' => e = .returned (.tuple #[.int .i64 q.1, .bool q.2.1, .int .i64 q.2.2]) ∧ Below W.heap.size W w')
    (HSO : ∀ W, Below w.heap.size w W → ∀ A c s t, Kd.C k61 W A s.length s → s.length ≤ c → modillionref08_Sort.f s = some t → Calls Tryz.prog 32 #[.slice A s.length c] W fun e w' => ∃ v0_ : Value, e = .returned v0_ ∧ Kd.R k61 61 w' W.heap.size (fun _ => True) v0_ t ∧ Below W.heap.size W w')
    (h0 : 0 ≤ at_) (h1 : at_ < steps) (hN : vs.length ≤ 1000000) (hn : (vs.length : Int) = n) (hV : Kd.C k50 w AL vs.length vs) (H : nxTail F C vs = some r) :
    Calls Tryz.prog 8 #[.agg #[.int .i64 n, .slice AE NE cE], .agg #[.string tag, .int .i64 src, .int .i64 steps], .int .i64 at_, .slice AL vs.length cL] w (NxPost w r) := by
  have hu2 := Tryz.underlying26
  have hu3 := Tryz.underlying24
  have hu1 := Tryz.underlying50
  have HST_ := Aside0.mk HST
  have HCM_ := Aside0.mk HCM
  have HSO_ := Aside0.mk HSO
  have HN_ := Aside0.mk hN
  have HV_ := Aside0.mk hV
  have HT_ := Aside0.mk H
  have c1 : decide (at_ < 0) = false := decide_eq_false (by omega)
  have c2 : decide (steps ≤ at_) = false := decide_eq_false (by omega)
  have c3 : ((vs.length : Int) != n) = false := bne_eq_false_iff_eq.mpr hn
  clear HST HCM HSO hN hV H h0 h1 hn
  go_enter Tryz.func8, Tryz.ntmps8
  go_wp2_with (fail)
  refine (HRT _ (by repeat (first | exact Below.refl _ _ | apply below_alloc))).mono ?_
  rintro e w2 ⟨rfl, hb⟩
  have BG2 := Aside0.mk (blk_below (blk_alloc (heap_alloc_new w (.cells #[.int .i64 n, .slice AE NE cE] 24)) (.cells #[.string tag, .int .i64 src, .int .i64 steps] 26)) hb)
  have BJ2 := Aside0.mk (blk_below (heap_alloc2_new w (.cells #[.int .i64 n, .slice AE NE cE] 24) (.cells #[.string tag, .int .i64 src, .int .i64 steps] 26)) hb)
  have HB2 : Aside0 (Below w.heap.size w w2) := ⟨Below.trans (below_alloc (below_alloc (Below.refl _ _) _) _) (hb.mono (by simp; omega))⟩
  have j2 : w2.cell? ⟨w.heap.size + 1, 2, none⟩ = some (.int .i64 steps) := (blk_cell BJ2.out 2).trans rfl
  have g0 : w2.cell? ⟨w.heap.size, 0, none⟩ = some (.int .i64 n) := (blk_cell BG2.out 0).trans rfl
  clear hb HRT
  go_wp2
  clear c1 c2 c3 j2 g0
  go_loopg [11] (vs.length) (fun kq v11 w' => ∃ (i : Nat), v11 = .int .i64 (i : Int) ∧ Aside0 (i + kq = vs.length) ∧ Aside0 (idsOk (vs.drop i) i = idsOk vs 0) ∧ Aside0 (w'.heap[w.heap.size]? = some (.cells #[.int .i64 n, .slice AE NE cE] 24 (0, 0))) ∧ Aside0 (w'.heap[w.heap.size + 1]? = some (.cells #[.string tag, .int .i64 src, .int .i64 steps] 26 (0, 0))) ∧ Aside0 (Below w.heap.size w w'))
  case atStart => exact ⟨0, rfl, ⟨by omega⟩, ⟨rfl⟩, BG2, BJ2, HB2⟩
  case round =>
    clear BG2 BJ2 HB2
    obtain ⟨i, rfl, HI, HID, BG, BJ, HB⟩ := hrel
    by_cases hlt : i < vs.length
    · have d1 : decide ((i : Int) < (vs.length : Int)) = true := decide_eq_true (by omega)
      have d1n : decide (i < vs.length) = true := decide_eq_true hlt
      have p1 : 0 ≤ (i : Int) := by omega
      have q1 : (i : Int) < (vs.length : Int) := by omega
      have hw1 : wrap64 ((i : Int) + 1) = (i : Int) + 1 := by have h1 := HN_.out; unfold wrap64; omega
      obtain ⟨gk1, rfl⟩ : ∃ m, gk = m + 1 := ⟨gk - 1, by have := HI.out; omega⟩
      have hid := HID.out
      rw [List.drop_eq_getElem_cons hlt, idsOk] at hid
      obtain ⟨ad, e1, hx0, hx1, hx2, hx3, hx4⟩ := at_T50 (Kd.C_below HV_.out HB.out) (i : Int) p1 q1
      have hy : rd_T50 vs (i : Int) = vs[i] := rd_atVertex vs i hlt
      rw [hy, Int.toNat_natCast] at hx0
      clear hx1 hx2 hx3 hx4 hy
      subst e1
      by_cases hf : vs[i].f0 = (i : Int)
      · have f1 : (vs[i].f0 != (i : Int)) = false := bne_eq_false_iff_eq.mpr hf
        rw [beq_iff_eq.mpr hf, Bool.true_and] at hid
        have HID2 := Aside0.mk hid
        clear hid hf HID
        generalize vs[i].f0 = yf at hx0 f1
        clear hlt
        go_wp2
        go_roundg gk1
        case measure => omega
        case rel => exact ⟨i + 1, by go_num, ⟨by have := HI.out; omega⟩, HID2, BG, BJ, HB⟩
      · have f1 : (vs[i].f0 != (i : Int)) = true := bne_iff_ne.mpr hf
        rw [beq_eq_false_iff_ne.mpr hf, Bool.false_and] at hid
        have HR : Aside0 (([], [], (90 : Int)) = r) := ⟨by
          have h := HT_.out
          unfold nxTail at h
          rw [← hid, if_pos rfl] at h
          exact Option.some.inj h⟩
        clear hid hf HID
        generalize vs[i].f0 = yf at hx0 f1
        clear hlt
        go_wp2
        go_ret3
        exact NxPost.none HR.out HB.out
    · have d1 : decide ((i : Int) < (vs.length : Int)) = false := decide_eq_false (by omega)
      have d1n : decide (i < vs.length) = false := decide_eq_false hlt
      have hi : i = vs.length := by have := HI.out; omega
      have hid : idsOk vs 0 = true := by
        have h := HID.out
        rw [hi, List.drop_length] at h
        exact h.symm
      have h := HT_.out
      unfold nxTail at h
      rw [hid, if_neg (by decide)] at h
      obtain ⟨p, hp, h⟩ := Option.bind_eq_some_iff.mp h
      have HPL : Aside0 (p.2.1.length ≤ 1000000) := ⟨by
        by_cases hpl : p.2.1.length ≤ 1000000
        · exact hpl
        · rw [if_neg hpl] at h
          cases h⟩
      rw [if_pos HPL.out] at h
      have HP := Aside0.mk hp
      have HQ := Aside0.mk h
      clear h hp hid hi hlt HI HID HT_
      go_wp2
      clear d1 d1n
      go_loopg [12, 13, 14] (vs.length) (fun kq v12 v13 v14 w' => ∃ (i : Nat) (o : List S50) (s : List S61), v14 = .int .i64 (i : Int) ∧ Aside0 (i + kq = vs.length) ∧ Aside0 (o.length = i) ∧ Aside0 (nxSteps F (vs.drop i) o s = some p) ∧ Aside0 (Kd.R k50 50 w' w.heap.size (fun _ => True) v12 o) ∧ Aside0 (Kd.R k61 61 w' w.heap.size (fun _ => True) v13 s) ∧ Aside0 (w'.heap[w.heap.size]? = some (.cells #[.int .i64 n, .slice AE NE cE] 24 (0, 0))) ∧ Aside0 (w'.heap[w.heap.size + 1]? = some (.cells #[.string tag, .int .i64 src, .int .i64 steps] 26 (0, 0))) ∧ Aside0 (Below w.heap.size w w'))
      case atStart => exact ⟨0, [], [], rfl, ⟨by omega⟩, ⟨rfl⟩, HP, ⟨nx_empty (blk_alloc (heap_alloc_new _ _) _) HB.out.size⟩, ⟨nx_emptyM (heap_alloc2_new _ _ _) (Nat.le_succ_of_le HB.out.size)⟩, ⟨blk_alloc (blk_alloc BG.out _) _⟩, ⟨blk_alloc (blk_alloc BJ.out _) _⟩, ⟨below_alloc (below_alloc HB.out _) _⟩⟩
      case round =>
        clear BG BJ HB HP
        obtain ⟨i, o, s, rfl, HI, HOL, HP, HO, HS, BG, BJ, HB⟩ := hrel
        obtain ⟨g0, g1⟩ := c2z wr BG.out
        obtain ⟨j0, j1, j2⟩ := c3z wr BJ.out
        by_cases hlt : i < vs.length
        · have d1 : decide ((i : Int) < (vs.length : Int)) = true := decide_eq_true (by omega)
          have d1n : decide (i < vs.length) = true := decide_eq_true hlt
          have p1 : (0 ≤ (i : Int)) = True := eq_true (by omega)
          have q1 : ((i : Int) < (vs.length : Int)) = True := eq_true (by omega)
          have qp : (i < vs.length) = True := eq_true hlt
          have hw1 : wrap64 ((i : Int) + 1) = (i : Int) + 1 := by have h1 := HN_.out; unfold wrap64; omega
          obtain ⟨gk1, rfl⟩ : ∃ m, gk = m + 1 := ⟨gk - 1, by have := HI.out; omega⟩
          obtain ⟨q, hq, hst⟩ : ∃ q, F vs[i] = some q ∧ (if q.2.2.2.2.2.2 = 0 then nxSteps F (vs.drop (i + 1)) (o ++ [vxOf q]) (s ++ q.2.2.2.2.2.1) else some (o, s, q.2.2.2.2.2.2)) = some p := by
            have h := HP.out
            rw [List.drop_eq_getElem_cons hlt, nxSteps] at h
            exact Option.bind_eq_some_iff.mp h
          obtain ⟨ad, e1, hx0, hx1, hx2, hx3, hx4⟩ := at_T50 (Kd.C_below HV_.out HB.out) (i : Int) (by omega) (by omega)
          have hy : rd_T50 vs (i : Int) = vs[i] := rd_atVertex vs i hlt
          rw [hy, Int.toNat_natCast] at hx0 hx1 hx2 hx3 hx4
          clear hy
          subst e1
          have HST2 := Aside0.mk hst
          have HLT := Aside0.mk hlt
          have HSTEP := fun W hW => HST_.out W hW vs[i] q hq
          clear hst hq HP
          generalize vs[i] = y at hx0 hx1 hx2 hx3 hx4 HSTEP
          clear hlt
          obtain ⟨r1, r2, r3, r4, r5, ms, er⟩ := q
          dsimp only at HSTEP
          have HSTEP_ := Aside0.mk HSTEP
          clear HSTEP
          have HK : ∀ W', Below wr.heap.size wr W' → (W'.cell? ⟨w.heap.size, 0, none⟩ = some (.int .i64 n) ∧ W'.cell? ⟨w.heap.size, 1, none⟩ = some (.slice AE NE cE) ∧ W'.cell? ⟨w.heap.size + 1, 0, none⟩ = some (.string tag) ∧ W'.cell? ⟨w.heap.size + 1, 1, none⟩ = some (.int .i64 src) ∧ W'.cell? ⟨w.heap.size + 1, 2, none⟩ = some (.int .i64 steps) ∧ W'.cell? (ad.add (i * 5)) = some (.int .i64 y.f0) ∧ W'.cell? ⟨(ad.add (i * 5)).block, (ad.add (i * 5)).off + 1, none⟩ = some (.int .i64 y.f1) ∧ W'.cell? ⟨(ad.add (i * 5)).block, (ad.add (i * 5)).off + 2, none⟩ = some (.bool y.f2) ∧ W'.cell? ⟨(ad.add (i * 5)).block, (ad.add (i * 5)).off + 3, none⟩ = some (.bool y.f3) ∧ W'.cell? ⟨(ad.add (i * 5)).block, (ad.add (i * 5)).off + 4, none⟩ = some (.int .i64 y.f4)) := fun W' hb => by
            have one : ∀ {a : Addr} {u : Value}, wr.cell? a = some u → W'.cell? a = some u := fun {a u} hc => (hb.cell (World.block_lt_of_cell? wr a hc)).trans hc
            exact ⟨one g0, one g1, one j0, one j1, one j2, one hx0, one hx1, one hx2, one hx3, one hx4⟩
          have HK_ := Aside0.mk HK
          clear HK
          have HSTEP : ∀ W', Below wr.heap.size wr W' → _ := fun W' hW' => HSTEP_.out W' (HB.out.trans (hW'.mono HB.out.size))
          go_upto_region 14 with (fail)
          go_cut [15, 16, 17] (fun v15 v16 v17 wc => ∃ (m : Nat), v15 = .pointer (some ⟨m, 0, none⟩) ∧ v17 = .int .i64 er ∧ Aside0 (wc.heap[m]? = some (.cells #[.int .i64 r1, .int .i64 r2, .bool r3, .bool r4, .int .i64 r5] 50 (0, 0))) ∧ Aside0 (Kd.R k61 61 wc wr.heap.size (fun _ => True) v16 ms) ∧ Aside0 (Below wr.heap.size wr wc) ∧ Aside0 (wr.heap.size ≤ m))
          case first =>
            have hsl := HK_.out wr (Below.refl _ _)
            go_region_held3 (fun w' => w'.cell? ⟨w.heap.size, 0, none⟩ = some (.int .i64 n) ∧ w'.cell? ⟨w.heap.size, 1, none⟩ = some (.slice AE NE cE) ∧ w'.cell? ⟨w.heap.size + 1, 0, none⟩ = some (.string tag) ∧ w'.cell? ⟨w.heap.size + 1, 1, none⟩ = some (.int .i64 src) ∧ w'.cell? ⟨w.heap.size + 1, 2, none⟩ = some (.int .i64 steps) ∧ w'.cell? (ad.add (i * 5)) = some (.int .i64 y.f0) ∧ w'.cell? ⟨(ad.add (i * 5)).block, (ad.add (i * 5)).off + 1, none⟩ = some (.int .i64 y.f1) ∧ w'.cell? ⟨(ad.add (i * 5)).block, (ad.add (i * 5)).off + 2, none⟩ = some (.bool y.f2) ∧ w'.cell? ⟨(ad.add (i * 5)).block, (ad.add (i * 5)).off + 3, none⟩ = some (.bool y.f3) ∧ w'.cell? ⟨(ad.add (i * 5)).block, (ad.add (i * 5)).off + 4, none⟩ = some (.int .i64 y.f4)) (first | (with_reducible exact hsl) | (with_reducible refine HK_.out _ ?_; repeat (first | (with_reducible exact HB3.out) | (with_reducible exact Below.refl _ _) | with_reducible apply below_drew1 | with_reducible apply below_alloc | with_reducible refine below_set ?_ (Nat.le_refl _) | with_reducible refine below_set ?_ HSZ.out)))
              (first
                | (go_at_call 30; refine (HSTEP _ (by repeat (first | exact Below.refl _ _ | apply below_drew1 | apply below_drew | apply below_alloc))).mono ?_; rintro x w3 ⟨mv, rfl, hr, hb3⟩; have hb4 : Below (wr.alloc (.cells #[.int .i64 0, .int .i64 0, .bool false, .bool false, .int .i64 0] 50)).heap.size (wr.alloc (.cells #[.int .i64 0, .int .i64 0, .bool false, .bool false, .int .i64 0] 50)) w3 := (by first | exact hb3 | exact (below_drew1 (Below.refl _ _)).trans hb3); have BKm := Aside0.mk (blk_below (blk_new wr _) hb4); have HR3 := Aside0.mk (Kd.R_lower (base' := wr.heap.size) hr (show wr.heap.size ≤ (wr.alloc (.cells #[.int .i64 0, .int .i64 0, .bool false, .bool false, .int .i64 0] 50)).heap.size by simp)); have HB3 : Aside0 (Below wr.heap.size wr w3) := ⟨(below_alloc (Below.refl _ _) _).trans (hb4.mono (by simp))⟩; clear hr hb3 hb4; have m0 : w3.cell? ⟨wr.heap.size, 0, none⟩ = some (Value.int .i64 0) := (blk_cell BKm.out 0).trans rfl; have m1 : w3.cell? ⟨wr.heap.size, 1, none⟩ = some (Value.int .i64 0) := (blk_cell BKm.out 1).trans rfl; have m2 : w3.cell? ⟨wr.heap.size, 2, none⟩ = some (Value.bool false) := (blk_cell BKm.out 2).trans rfl; have m3 : w3.cell? ⟨wr.heap.size, 3, none⟩ = some (Value.bool false) := (blk_cell BKm.out 3).trans rfl; have m4 : w3.cell? ⟨wr.heap.size, 4, none⟩ = some (Value.int .i64 0) := (blk_cell BKm.out 4).trans rfl; have f0 := blk_frozen BKm.out 0; have f1 := blk_frozen BKm.out 1; have f2 := blk_frozen BKm.out 2; have f3 := blk_frozen BKm.out 3; have f4 := blk_frozen BKm.out 4)
                | (go_at_call 30; refine (HSTEP _ (by repeat (first | exact Below.refl _ _ | apply below_drew1 | apply below_drew | apply below_alloc))).mono ?_; rintro x w3 ⟨mv, rfl, hr, hb3⟩; have HR3 := Aside0.mk (Kd.R_lower (base' := wr.heap.size) hr (Nat.le_refl _)); have HB3 : Aside0 (Below wr.heap.size wr w3) := ⟨(show Below wr.heap.size wr wr.drew from below_drew1 (Below.refl _ _)).trans (hb3.mono (Nat.le_refl _))⟩; have HSZ : Aside0 (wr.heap.size ≤ w3.heap.size) := ⟨HB3.out.size⟩; clear hr hb3))
            all_goals
              go_wp2
              go_meet
              case rel => exact ⟨_, rfl, rfl, ⟨by first | (with_reducible exact blk_new _ _) | (with_reducible exact blk_drew (blk_new _ _)) | (with_reducible exact put5_blk BKm.out) | (with_reducible exact blk_drew (put5_blk BKm.out))⟩, ⟨by first | (with_reducible exact Kd.R_alloc HR3.out _) | (with_reducible exact Kd.R_drew (Kd.R_alloc HR3.out _)) | (with_reducible exact put5_R BKm.out HR3.out) | (with_reducible exact Kd.R_drew (put5_R BKm.out HR3.out))⟩, ⟨by first | (with_reducible exact below_alloc HB3.out _) | (with_reducible exact below_drew1 (below_alloc HB3.out _)) | (with_reducible exact put5_below (Nat.le_refl _) HB3.out) | (with_reducible exact below_drew1 (put5_below (Nat.le_refl _) HB3.out))⟩, ⟨by first | exact HSZ.out | exact Nat.le_refl _⟩⟩
          case rest =>
            obtain ⟨m, rfl, rfl, BK, HR1, HB1, HM⟩ := hcut
            clear HSTEP HSTEP_ HK_ g0 g1 j0 j1 j2 hx0 hx1 hx2 hx3 hx4
            have HO2 := Aside0.mk (Kd.R_below HO.out HB1.out)
            have HS2 := Aside0.mk (Kd.R_below HS.out HB1.out)
            have BG2 := Aside0.mk (blk_below BG.out HB1.out)
            have BJ2 := Aside0.mk (blk_below BJ.out HB1.out)
            have HB2 : Aside0 (Below w.heap.size w wc) := ⟨HB.out.trans (HB1.out.mono HB.out.size)⟩
            clear HO HS BG BJ HB
            by_cases he : er = 0
            · subst he
              have HST3 : Aside0 (nxSteps F (vs.drop (i + 1)) (o ++ [⟨r1, r2, r3, r4, r5⟩]) (s ++ ms) = some p) := ⟨by
                have h := HST2.out
                rw [if_pos rfl] at h
                exact h⟩
              have HLN : Aside0 (s.length + ms.length ≤ 1000000) := ⟨by
                have h := nxSteps_len HST3.out
                rw [List.length_append] at h
                have h2 := HPL.out
                omega⟩
              have HIL : Aside0 (o.length + 1 ≤ 1000001) := ⟨by have h1 := HOL.out; have h2 := HLT.out; have h3 := HN_.out; omega⟩
              obtain ⟨m0, m1, m2, m3, m4⟩ := c5z wc BK.out
              obtain ⟨AM, cM, eM⟩ := Kd.R_slice HR1.out
              subst eM
              clear HST2
              go_wp2_with (first
                | ((with_reducible refine gate_builtin (b := .append) (xs := #[.tmp 78, .tmp 80]) rfl ?_); at_builtin; refine Kd.R_append k50 (w0 := w) w.heap.size rfl (.tmp 78) (.tmp 80) 27 50 (.agg #[(.int .i64 0), (.int .i64 0), (.bool false), (.bool false), (.int .i64 0)]) 32 rfl Tryz.underlying27 info50 rfl (by decide) (by omega) _ o (⟨r1, r2, r3, r4, r5⟩ : S50) [.int .i64 r1, .int .i64 r2, .bool r3, .bool r4, .int .i64 r5] (fun _ => True) (fun _ => False) rfl rfl (k50_mkM _ _ _ (⟨r1, r2, r3, r4, r5⟩ : S50)) (fun _ hk => hk.elim) (fun _ _ => trivial) HO2.out HB2.out HB2.out.size (by have := HIL.out; omega) ?_; intro v12b w4 ho hb hg _; have HO3 := Aside0.mk ho; have HB3 := Aside0.mk hb; have HS3 := Aside0.mk (Kd.R_over HS2.out HO2.out (by decide) hg); have HM3 := Aside0.mk (Kd.R_over HR1.out HO2.out (by decide) hg); have BG3 := Aside0.mk (blk_grown BG2.out hg (Kd.R_ne HO2.out BG2.out (by decide))); have BJ3 := Aside0.mk (blk_grown BJ2.out hg (Kd.R_ne HO2.out BJ2.out (by decide))); clear ho hb hg HO2 HS2 HR1 BG2 BJ2 HB2)
                | ((with_reducible refine gate_builtin (b := .append) (xs := #[.tmp 82, .tmp 83]) rfl ?_); at_builtin; refine Kd.R_append_rows k61 (w0 := w) w.heap.size rfl (.tmp 82) (.tmp 83) 29 61 (.agg #[(.int .i64 0), (.int .i64 0), (.int .i64 0)]) 24 rfl Tryz.underlying29 info61 rfl (by decide) (by omega) _ s ms AM ms.length cM (fun _ => True) (fun _ => False) rfl rfl ?aO ?aR (fun _ _ h => h) (fun _ h => h.elim) (fun _ _ => trivial) HB3.out HB3.out.size (by have := HLN.out; omega) ?_; (case aO => exact HS3.out); (case aR => exact (Kd.R_reads' HM3.out).2.2); intro v13b w5 ho hb hg _; have HS4 := Aside0.mk ho; have HB4 := Aside0.mk hb; have HO4 := Aside0.mk (Kd.R_over HO3.out HS3.out (by decide) hg); have BG4 := Aside0.mk (blk_grown BG3.out hg (Kd.R_ne HS3.out BG3.out (by decide))); have BJ4 := Aside0.mk (blk_grown BJ3.out hg (Kd.R_ne HS3.out BJ3.out (by decide))); clear ho hb hg HO3 HS3 HM3 BG3 BJ3 HB3))
              go_roundg gk1
              case measure => omega
              case rel => exact ⟨i + 1, _, _, by go_num, ⟨by have := HI.out; omega⟩, ⟨by rw [List.length_append, HOL.out]; rfl⟩, HST3, HO4, HS4, BG4, BJ4, HB4⟩
            · have b1 : (er != 0) = true := bne_iff_ne.mpr he
              have b0 : (er == 0) = false := beq_eq_false_iff_ne.mpr he
              have HR : Aside0 (([], [], er) = r) := ⟨by
                have h := HST2.out
                rw [if_neg he] at h
                obtain rfl := Option.some.inj h
                have h2 := HQ.out
                rw [if_neg he] at h2
                exact Option.some.inj h2⟩
              clear he HST2 HQ
              go_wp2
              go_ret3
              exact NxPost.none HR.out HB2.out
        · have d1 : decide ((i : Int) < (vs.length : Int)) = false := decide_eq_false (by omega)
          have d1n : decide (i < vs.length) = false := decide_eq_false hlt
          have hi : i = vs.length := by have := HI.out; omega
          obtain rfl : (o, s, (0 : Int)) = p := by
            have h := HP.out
            rw [hi, List.drop_length, nxSteps] at h
            exact Option.some.inj h
          have hq := HQ.out
          rw [if_pos rfl] at hq
          obtain ⟨q, hnc, hq⟩ := Option.bind_eq_some_iff.mp hq
          have HOL2 : Aside0 (o.length = vs.length) := ⟨by rw [HOL.out, hi]⟩
          have HNC := Aside0.mk hnc
          have HQ3 := Aside0.mk hq
          have HBW := HB
          have HO0 := HO
          have HS0 := HS
          have BJ0 := BJ
          obtain ⟨AS, cS, eS⟩ := Kd.R_slice HS.out
          subst eS
          obtain ⟨wb, hwb⟩ : ∃ x, x = wr := ⟨_, rfl⟩
          subst hwb
          clear hnc hq hi hlt HI HOL HP HQ g0 g1 j0 j1 j2 HB HO HS BJ BG HST_ 
          go_wp2
          clear d1 d1n
          go_loopg [12, 18] (vs.length) (fun kq v12 v18 w' => ∃ (i : Nat) (o : List S50), v18 = .int .i64 (i : Int) ∧ Aside0 (i + kq = vs.length) ∧ Aside0 (o.length = vs.length) ∧ Aside0 (nxComes (C s) (vs.length - i) i o = some q) ∧ Aside0 (Kd.R k50 50 w' w.heap.size (fun _ => True) v12 o) ∧ Aside0 (Below wb.heap.size wb w'))
          case atStart => exact ⟨0, o, rfl, ⟨by omega⟩, HOL2, HNC, HO0, ⟨Below.refl _ _⟩⟩
          case round =>
            clear HOL2 HNC HO0
            obtain ⟨i, o, rfl, HI, HOL, HP, HO, HB⟩ := hrel
            have j0 : wr.cell? ⟨w.heap.size + 1, 0, none⟩ = some (.string tag) := (blk_cell (blk_below BJ0.out HB.out) 0).trans rfl
            by_cases hlt : i < vs.length
            · have d1 : decide ((i : Int) < (vs.length : Int)) = true := decide_eq_true (by omega)
              have d1n : decide (i < vs.length) = true := decide_eq_true hlt
              have hw1 : wrap64 ((i : Int) + 1) = (i : Int) + 1 := by have h1 := HN_.out; unfold wrap64; omega
              obtain ⟨gk1, rfl⟩ : ∃ m, gk = m + 1 := ⟨gk - 1, by have := HI.out; omega⟩
              obtain ⟨c, hc, hst⟩ : ∃ c, C s (i : Int) = some c ∧ (if c.2.2 = 0 then nxComes (C s) (vs.length - (i + 1)) (i + 1) (o.take i ++ [comeV (o.getD i z50) c.2.1 c.1] ++ o.drop (i + 1)) else some (o, c.2.2)) = some q := by
                have h := HP.out
                rw [show vs.length - i = (vs.length - (i + 1)) + 1 by omega, nxComes] at h
                exact Option.bind_eq_some_iff.mp h
              obtain ⟨cn, cis, ce⟩ := c
              have HCAME := HCM_.out wr (HBW.out.trans (HB.out.mono HBW.out.size)) AS cS s (i : Int) (cn, cis, ce) (Kd.R_reads' (Kd.R_below HS0.out HB.out)).2.2 (Kd.R_reads' HS0.out).2.1 hc
              have HST2 := Aside0.mk hst
              have HLT := Aside0.mk hlt
              clear hst hc HP hlt
              go_upto_region 22 with (go_at_call 31; refine HCAME.mono ?_; rintro e w3 ⟨rfl, hb3⟩; have HB3 := Aside0.mk hb3; clear hb3)
              clear HCAME j0
              have HBw3 : Aside0 (Below wb.heap.size wb w3) := ⟨HB.out.trans (HB3.out.mono HB.out.size)⟩
              have HO3 := Aside0.mk (Kd.R_below HO.out HB3.out)
              by_cases he : ce = 0
              · have b0 : (ce == 0) = true := beq_iff_eq.mpr he
                have b1 : (ce != 0) = false := bne_eq_false_iff_eq.mpr he
                have hst := HST2.out
                rw [if_pos he] at hst
                have HST3 := Aside0.mk hst
                have hio : i < o.length := by rw [HOL.out]; exact HLT.out
                obtain ⟨AO, co, eO⟩ := Kd.R_slice HO3.out
                subst eO
                obtain ⟨ay, eA, y0, y1, y2, y3, y4⟩ := vx_at (Kd.R_reads' HO3.out).2.2 i hio
                subst eA
                have hgd : o.getD i z50 = o[i] := by simp [List.getD_eq_getElem?_getD, List.getElem?_eq_getElem hio]
                rw [hgd] at HST3
                have HOI := Aside0.mk hio
                generalize o[i] = y at y0 y1 y2 y3 y4 HST3
                have p1 : (0 ≤ (i : Int)) = True := eq_true (by omega)
                have q1 : ((i : Int) < (o.length : Int)) = True := eq_true (by omega)
                have qp : (i < o.length) = True := eq_true hio
                have qd : decide (i < o.length) = true := decide_eq_true hio
                clear hgd hio hst he HST2 HO HB
                go_wp2
                have BM0 := blk_new w3 (.cells #[.int .i64 y.f0, .int .i64 y.f1, .bool y.f2, .bool cis, .int .i64 cn] 50)
                have hoz := Kd.R_alloc HO3.out (.cells #[.int .i64 y.f0, .int .i64 y.f1, .bool y.f2, .bool cis, .int .i64 cn] 50)
                have hbz := below_alloc HBw3.out (.cells #[.int .i64 y.f0, .int .i64 y.f1, .bool y.f2, .bool cis, .int .i64 cn] 50)
                clear HO3 HBw3 HB3
                generalize w3.alloc (.cells #[.int .i64 y.f0, .int .i64 y.f1, .bool y.f2, .bool cis, .int .i64 cn] 50) = wz at BM0 hoz hbz ⊢
                generalize w3.heap.size = m at BM0 ⊢
                have BM := Aside0.mk BM0
                have HBZ := Aside0.mk hbz
                obtain ⟨ti, hti, _, hsz, _⟩ := info_parts info50
                have hoc : o.length ≤ co := (Kd.R_reads' hoz).2.1
                have hjo : i ≤ o.length := Nat.le_of_lt HOI.out
                have hio2 : i < o.length := HOI.out
                have hcut := cut_to (P := Tryz.prog) 27 50 .i64 Tryz.underlying27 hti (some ay) o.length co (i : Int) (by omega) (by omega) hoc
                have hcuf := cut_from (P := Tryz.prog) 27 50 .i64 Tryz.underlying27 hti 5 hsz (some ay) o.length co ((i : Int) + 1) (by omega) (by omega)
                rw [Int.toNat_natCast] at hcut
                rw [show ((i : Int) + 1).toNat = i + 1 by omega] at hcuf
                have hdr := Kd.C_drop (Kd.R_reads' hoz).2.2 (show i + 1 ≤ o.length from HOI.out) hoc
                have htk := Kd.C_take (Kd.R_reads' hoz).2.2 hjo
                rw [List.length_take, Nat.min_eq_left hjo] at htk
                rw [List.length_drop] at hdr
                change Kd.C k50 wz (if co = i + 1 then (some ay) else ((some ay) : Option Addr).map (·.add ((i + 1) * 5))) (o.length - (i + 1)) (o.drop (i + 1)) at hdr
                obtain ⟨AD, hAD⟩ : ∃ AD, (if co = i + 1 then (some ay) else ((some ay) : Option Addr).map (·.add ((i + 1) * 5))) = AD := ⟨_, rfl⟩
                rw [hAD] at hcuf hdr
                have HTK := Aside0.mk htk
                have HDR := Aside0.mk hdr
                have HBD : Aside0 (o.length ≤ 1000000 ∧ i < o.length) := ⟨⟨by have h1 := HN_.out; have h2 := HOL.out; omega, HOI.out⟩⟩
                have hw2 : IntKind.i64.wrap ((i : Int) + 1) = (i : Int) + 1 := IntWalk.i64_in _ (by have h1 := HN_.out; have h2 := HLT.out; omega)
                have hs0 := cells5 BM0
                clear hdr htk hAD hti hsz hoc hjo hio2 BM0 hoz hbz
                go_region_held3 (fun w' => w'.cell? ⟨m, 0, none⟩ = some (.int .i64 y.f0) ∧ w'.cell? ⟨m, 1, none⟩ = some (.int .i64 y.f1) ∧ w'.cell? ⟨m, 2, none⟩ = some (.bool y.f2) ∧ w'.cell? ⟨m, 3, none⟩ = some (.bool cis) ∧ w'.cell? ⟨m, 4, none⟩ = some (.int .i64 cn)) (first | (with_reducible exact hs7) | (with_reducible exact hs6) | (with_reducible exact hs4) | (with_reducible exact hs0) | go_keep)
                  (first
                   | (refine Kd.R_append_rows_step k50 (w0 := wz) wz.heap.size (by rfl) (.tmp 111) (.tmp 114) 27 50 (.agg #[(.int .i64 0), (.int .i64 0), (.bool false), (.bool false), (.int .i64 0)]) 32 (by rfl) Tryz.underlying27 info50 rfl (by decide) (by omega) (.slice (some ⟨wz.heap.size, 0, none⟩) 0 0) [] (o.take i) (some ay) i co (fun _ => True) (fun _ => False) (by rfl) (by rfl) (nx_empty (Go.heap_alloc_new wz.drew _) (Nat.le_refl _)) (Kd.C_below HTK.out (by repeat (first | exact Below.refl _ _ | apply below_alloc | apply pw_below_drewN | apply below_drew1 | apply below_drew))) (fun _ _ h => h) (fun _ h => h.elim) (fun _ _ => trivial) (by repeat (first | exact Below.refl _ _ | apply below_alloc | apply pw_below_drewN | apply below_drew1 | apply below_drew)) (by simp <;> omega) (by have := HBD.out; simp; omega) ?_; intro v115 w4 hr4 hb4 hg4 _; (simp only [List.nil_append] at hr4); have HR4 := Aside0.mk hr4; have HB4 := Aside0.mk hb4; have hs4 := cells5 (blk_below BM.out hb4); clear hr4 hb4 hg4)
                   | (refine Kd.R_append_rows_step k50 (w0 := wz) wz.heap.size (by rfl) (.tmp 111) (.tmp 114) 27 50 (.agg #[(.int .i64 0), (.int .i64 0), (.bool false), (.bool false), (.int .i64 0)]) 32 (by rfl) Tryz.underlying27 info50 rfl (by decide) (by omega) (.slice (some ⟨wz.heap.size, 0, none⟩) 0 0) [] (o.take i) (some ay) i co (fun _ => True) (fun _ => False) (by rfl) (by rfl) (Kd.R_drew (nx_empty (Go.heap_alloc2_old wz (.cells #[] 50) (.cells #[.int .i64 y.f0, .int .i64 y.f1, .bool y.f2, .bool cis, .int .i64 cn] 50)) (Nat.le_refl _))) (Kd.C_below HTK.out (by repeat (first | exact Below.refl _ _ | apply below_alloc | apply pw_below_drewN | apply below_drew1 | apply below_drew))) (fun _ _ h => h) (fun _ h => h.elim) (fun _ _ => trivial) (by repeat (first | exact Below.refl _ _ | apply below_alloc | apply pw_below_drewN | apply below_drew1 | apply below_drew)) (by simp <;> omega) (by have := HBD.out; simp; omega) ?_; intro v115 w4 hr4 hb4 hg4 _; (simp only [List.nil_append] at hr4); have HR4 := Aside0.mk hr4; have HB4 := Aside0.mk hb4; have hs4 := cells5 (blk_below BM.out hb4); have hX := (hg4.block (wz.heap.size + 1) (by simp <;> omega) (by simp [Value.ownBlock])).trans (show _ = some (Obj.cells #[.int .i64 y.f0, .int .i64 y.f1, .bool y.f2, .bool cis, .int .i64 cn] 50 (0, 0)) from (Go.heap_alloc2_new wz (.cells #[] 50) (.cells #[.int .i64 y.f0, .int .i64 y.f1, .bool y.f2, .bool cis, .int .i64 cn] 50))); clear hr4 hb4 hg4)
                   | (refine Kd.R_append_rows_step k50 (w0 := wz) wz.heap.size (by rfl) (.tmp 111) (.tmp 114) 27 50 (.agg #[(.int .i64 0), (.int .i64 0), (.bool false), (.bool false), (.int .i64 0)]) 32 (by rfl) Tryz.underlying27 info50 rfl (by decide) (by omega) (.slice (some ⟨wz.heap.size + 1, 0, none⟩) 0 0) [] (o.take i) (some ay) i co (fun _ => True) (fun _ => False) (by rfl) (by rfl) (Kd.R_drew (nx_empty (Go.heap_alloc2_new wz (.cells #[.int .i64 y.f0, .int .i64 y.f1, .bool y.f2, .bool cis, .int .i64 cn] 50) (.cells #[] 50)) (by omega))) (Kd.C_below HTK.out (by repeat (first | exact Below.refl _ _ | apply below_alloc | apply pw_below_drewN | apply below_drew1 | apply below_drew))) (fun _ _ h => h) (fun _ h => h.elim) (fun _ _ => trivial) (by repeat (first | exact Below.refl _ _ | apply below_alloc | apply pw_below_drewN | apply below_drew1 | apply below_drew)) (by simp <;> omega) (by have := HBD.out; simp; omega) ?_; intro v115 w4 hr4 hb4 hg4 _; (simp only [List.nil_append] at hr4); have HR4 := Aside0.mk hr4; have HB4 := Aside0.mk hb4; have hs4 := cells5 (blk_below BM.out hb4); have hX := (hg4.block (wz.heap.size) (by simp <;> omega) (by simp [Value.ownBlock])).trans (show _ = some (Obj.cells #[.int .i64 y.f0, .int .i64 y.f1, .bool y.f2, .bool cis, .int .i64 cn] 50 (0, 0)) from (Go.heap_alloc2_old wz (.cells #[.int .i64 y.f0, .int .i64 y.f1, .bool y.f2, .bool cis, .int .i64 cn] 50) (.cells #[] 50))); clear hr4 hb4 hg4)
                   | (refine Kd.R_append_step k50 (w0 := wz) wz.heap.size (by rfl) (.tmp 115) (.tmp 117) 27 50 (.agg #[(.int .i64 0), (.int .i64 0), (.bool false), (.bool false), (.int .i64 0)]) 32 (by rfl) Tryz.underlying27 info50 rfl (by decide) (by omega) v115 (o.take i) (comeV y cis cn) [.int .i64 y.f0, .int .i64 y.f1, .bool y.f2, .bool cis, .int .i64 cn] (fun _ => True) (fun _ => False) (by rfl) (by rfl) (k50_mkM _ _ _ (comeV y cis cn)) (fun _ h => h.elim) (fun _ _ => trivial) HR4.out HB4.out HB4.out.size (by have := HBD.out; rw [List.length_take]; omega) ?_; intro v118 w6 hr6 hb6 _ _; have HR6 := Aside0.mk hr6; have HB6 := Aside0.mk hb6; have hs6 := cells5 (blk_below BM.out hb6); clear hr6 hb6 HR4)
                   | (refine Kd.R_append_rows_step k50 (w0 := wz) wz.heap.size (by rfl) (.tmp 115) (.tmp 117) 27 50 (.agg #[(.int .i64 0), (.int .i64 0), (.bool false), (.bool false), (.int .i64 0)]) 32 (by rfl) Tryz.underlying27 info50 rfl (by decide) (by omega) v115 (o.take i) [comeV y cis cn] _ 1 1 (fun _ => True) (fun _ => False) (by rfl) (by rfl) HR4.out (nx_one (x := comeV y cis cn) hX) (fun _ _ h => h) (fun _ h => h.elim) (fun _ _ => trivial) HB4.out HB4.out.size (by have := HBD.out; rw [List.length_take]; omega) ?_; intro v118 w6 hr6 hb6 _ _; have HR6 := Aside0.mk hr6; have HB6 := Aside0.mk hb6; have hs6 := cells5 (blk_below BM.out hb6); clear hr6 hb6 HR4)
                   | (refine Kd.R_append_rows_step k50 (w0 := wz) wz.heap.size (by rfl) (.tmp 118) (.tmp 122) 27 50 (.agg #[(.int .i64 0), (.int .i64 0), (.bool false), (.bool false), (.int .i64 0)]) 32 (by rfl) Tryz.underlying27 info50 rfl (by decide) (by omega) v118 (o.take i ++ [comeV y cis cn]) (o.drop (i + 1)) AD (o.length - (i + 1)) (co - (i + 1)) (fun _ => True) (fun _ => False) (by rfl) (by rfl) HR6.out (Kd.C_below HDR.out HB6.out) (fun _ _ h => h) (fun _ h => h.elim) (fun _ _ => trivial) HB6.out HB6.out.size (by have := HBD.out; rw [List.length_append, List.length_take]; simp; omega) ?_; intro v123 w7 hr7 hb7 _ _; have HR7 := Aside0.mk hr7; have HB7 := Aside0.mk hb7; have hs7 := cells5 (blk_below BM.out hb7); clear hr7 hb7 HR6))
                all_goals (go_wp2; go_roundg gk1; (case measure => omega); (case rel => exact ⟨i + 1, o.take i ++ [comeV y cis cn] ++ o.drop (i + 1), by go_num, ⟨by have := HI.out; omega⟩, ⟨by rw [put_len HOI.out]; exact HOL.out⟩, HST3, ⟨Kd.R_lower HR7.out (Nat.le_trans HBW.out.size HBZ.out.size)⟩, ⟨HBZ.out.trans (HB7.out.mono HBZ.out.size)⟩⟩))
              · have b1 : (ce != 0) = true := bne_iff_ne.mpr he
                have b0 : (ce == 0) = false := beq_eq_false_iff_ne.mpr he
                have HR : Aside0 (([], [], ce) = r) := ⟨by
                  have h := HST2.out
                  rw [if_neg he] at h
                  obtain rfl := Option.some.inj h
                  have h2 := HQ3.out
                  rw [if_neg he] at h2
                  exact Option.some.inj h2⟩
                clear he HST2 HQ3
                go_wp2
                go_ret3
                exact NxPost.none HR.out (HBW.out.trans (HBw3.out.mono HBW.out.size))
            · have d1 : decide ((i : Int) < (vs.length : Int)) = false := decide_eq_false (by omega)
              have d1n : decide (i < vs.length) = false := decide_eq_false hlt
              obtain rfl : (o, (0 : Int)) = q := by
                have h := HP.out
                rw [show vs.length - i = 0 by omega, nxComes] at h
                exact Option.some.inj h
              have h := HQ3.out
              rw [if_pos rfl] at h
              obtain ⟨t, ht, h⟩ := Option.bind_eq_some_iff.mp h
              have HR := Aside0.mk (Option.some.inj h)
              have HSORT := HSO_.out wr (HBW.out.trans (HB.out.mono HBW.out.size)) AS cS s t (Kd.R_reads' (Kd.R_below HS0.out HB.out)).2.2 (Kd.R_reads' HS0.out).2.1 ht
              clear h ht HP HQ3 hlt
              go_wp2_with (go_at_call 32; refine HSORT.mono ?_; rintro e w4 ⟨v4, rfl, hr4, hb4⟩; have HR4 := Aside0.mk hr4; have HB4 := Aside0.mk hb4; clear hr4 hb4)
              go_ret3
              have hbw := HBW.out.trans (HB.out.mono HBW.out.size)
              have hr := HR.out
              subst hr
              exact ⟨_, _, rfl, Kd.R_below HO.out HB4.out, Kd.R_lower HR4.out hbw.size, hbw.trans (HB4.out.mono hbw.size)⟩
set_option maxHeartbeats 16000000 in
set_option maxRecDepth 100000 in
theorem modillionref09_Next.w_err (AE AL : Option Addr) (cE cL NE : Nat) (n src steps at_ : Int) (tag : ByteArray) (w : World) (N : Nat) (t : Bool) (c : Int)
    (HRT : ∀ W, Below w.heap.size w W → Calls Tryz.prog 19 #[.agg #[.int .i64 n, .slice AE NE cE], .agg #[.string tag, .int .i64 src, .int .i64 steps]] W fun e w' => e = .returned (.bool t) ∧ Below W.heap.size W w')
    (h : (t = false ∧ c = 70) ∨ (t = true ∧ at_ < 0 ∧ c = 70) ∨ (t = true ∧ ¬ at_ < 0 ∧ at_ ≥ steps ∧ c = 70) ∨ (t = true ∧ ¬ at_ < 0 ∧ ¬ at_ ≥ steps ∧ (N : Int) ≠ n ∧ c = 90)) :
    Calls Tryz.prog 8 #[.agg #[.int .i64 n, .slice AE NE cE], .agg #[.string tag, .int .i64 src, .int .i64 steps], .int .i64 at_, .slice AL N cL] w (NxPost w ([], [], c)) := by
  have hu2 := Tryz.underlying26
  have hu3 := Tryz.underlying24
  have d1 : at_ < 0 ∨ ¬ at_ < 0 := Decidable.em _
  rcases h with ⟨rfl, rfl⟩ | ⟨rfl, h1, rfl⟩ | ⟨rfl, h1, h2, rfl⟩ | ⟨rfl, h1, h2, h3, rfl⟩
  case' inr.inl => have c1 : decide (at_ < 0) = true := decide_eq_true h1
  case' inr.inr.inl => have c1 : decide (at_ < 0) = false := decide_eq_false h1
  case' inr.inr.inr => have c1 : decide (at_ < 0) = false := decide_eq_false h1
  case' inr.inr.inl => have c2 : decide (steps ≤ at_) = true := decide_eq_true h2
  case' inr.inr.inr => have c2 : decide (steps ≤ at_) = false := decide_eq_false h2
  case' inr.inr.inr => have c3 : ((N : Int) != n) = true := bne_iff_ne.mpr h3
  all_goals
    clear d1
    (try clear h1)
    (try clear h2)
    (try clear h3)
    go_enter Tryz.func8, Tryz.ntmps8
    go_wp2_with (fail)
    refine (HRT _ (by repeat (first | exact Below.refl _ _ | apply below_alloc))).mono ?_
    rintro e w2 ⟨rfl, hb⟩
    have BG2 := Aside0.mk (blk_below (blk_alloc (heap_alloc_new w (.cells #[.int .i64 n, .slice AE NE cE] 24)) (.cells #[.string tag, .int .i64 src, .int .i64 steps] 26)) hb)
    have BJ2 := Aside0.mk (blk_below (heap_alloc2_new w (.cells #[.int .i64 n, .slice AE NE cE] 24) (.cells #[.string tag, .int .i64 src, .int .i64 steps] 26)) hb)
    have HB2 : Aside0 (Below w.heap.size w w2) := ⟨Below.trans (below_alloc (below_alloc (Below.refl _ _) _) _) (hb.mono (by simp; omega))⟩
    have j2 : w2.cell? ⟨w.heap.size + 1, 2, none⟩ = some (.int .i64 steps) := (blk_cell BJ2.out 2).trans rfl
    have g0 : w2.cell? ⟨w.heap.size, 0, none⟩ = some (.int .i64 n) := (blk_cell BG2.out 0).trans rfl
    clear hb HRT BG2 BJ2
    go_wp2
    go_ret3
    exact NxPost.none rfl HB2.out
end
def modillionref09_Next.f (k : Nat) (n : Int) (l : List S48) (tag : ByteArray) (src steps at_ : Int) (vs : List S50) : Option (List S50 × List S61 × Int) :=
  (modillionref07_Right.f k n l tag src steps).bind fun t =>
    if t = true then
      if at_ < 0 then some ([], [], 70) else if at_ ≥ steps then some ([], [], 70)
      else if vs.length ≤ 1000000 then
        if (vs.length : Int) ≠ n then some ([], [], 90)
        else nxTail (fun y => modillionref07_Step.f k n l tag src steps at_ y.f0 y.f1 y.f2 y.f3 y.f4) (fun s i => modillionref08_Came.f k tag s i) vs
      else none
    else some ([], [], 70)
theorem modillionref09_Next.mono : ∀ a0 a1 a2 a3 a4 a5 a6 k, LeO (modillionref09_Next.f k a0 a1 a2 a3 a4 a5 a6) (modillionref09_Next.f (k + 1) a0 a1 a2 a3 a4 a5 a6) := fun a0 a1 a2 a3 a4 a5 a6 k => by
  unfold modillionref09_Next.f
  refine LeO.bind (modillionref07_Right.mono _ _ _ _ _ _) fun _ => LeO.ite (LeO.ite (LeO.refl _) (LeO.ite (LeO.refl _) (LeO.ite (LeO.ite (LeO.refl _) ?_) (LeO.refl _)))) (LeO.refl _)
  unfold nxTail
  exact LeO.ite (LeO.refl _) (LeO.bind (nxSteps_mono (fun _ => modillionref07_Step.mono _ _ _ _ _ _ _ _ _ _ _ _) _ _ _) fun _ => LeO.ite (LeO.ite (LeO.bind (nxComes_mono (fun _ => modillionref08_Came.mono _ _ _ _) _ _ _) fun _ => LeO.refl _) (LeO.refl _)) (LeO.refl _))
theorem modillionref09_Next.calls (k : Nat) (a0_0 : Int) (A0_1 : Option Addr) (c0_1 : Nat) (l0_1 : List S48) (a1_0 : ByteArray) (a1_1 a1_2 a2 : Int) (A3 : Option Addr) (c3 : Nat) (l3 : List S50) (r1 : List S50) (r2 : List S61) (r3 : Int) (w : World) (hr0_1 : Kd.C k48 w A0_1 l0_1.length l0_1) (hc0_1 : l0_1.length ≤ c0_1) (hr3 : Kd.C k50 w A3 l3.length l3) (hc3 : l3.length ≤ c3) (h : modillionref09_Next.f k a0_0 l0_1 a1_0 a1_1 a1_2 a2 l3 = some (r1, r2, r3)) :
    Calls Tryz.prog 8 #[.agg #[.int .i64 a0_0, .slice A0_1 l0_1.length c0_1], .agg #[.string a1_0, .int .i64 a1_1, .int .i64 a1_2], .int .i64 a2, .slice A3 l3.length c3] w fun e w' => ∃ v0_ v1_ : Value, e = .returned (.tuple #[v0_, v1_, .int .i64 r3]) ∧ Kd.R k50 50 w' w.heap.size (fun _ => True) v0_ r1 ∧ Kd.R k61 61 w' w.heap.size (fun _ => True) v1_ r2 ∧ Below w.heap.size w w' := by
  show Calls Tryz.prog _ _ w (NxPost w (r1, r2, r3))
  generalize (r1, r2, r3) = r at h ⊢
  unfold modillionref09_Next.f at h
  obtain ⟨t, ht, h⟩ := Option.bind_eq_some_iff.mp h
  have HRT : ∀ W, Below w.heap.size w W → Calls Tryz.prog 19 #[.agg #[.int .i64 a0_0, .slice A0_1 l0_1.length c0_1], .agg #[.string a1_0, .int .i64 a1_1, .int .i64 a1_2]] W fun e w' => e = .returned (.bool t) ∧ Below W.heap.size W w' := fun W hW => modillionref07_Right.calls k a0_0 A0_1 c0_1 l0_1 a1_0 a1_1 a1_2 t W (Kd.C_below hr0_1 hW) hc0_1 ht
  cases t with
  | false => obtain rfl := Option.some.inj h; exact modillionref09_Next.w_err A0_1 A3 c0_1 c3 _ a0_0 a1_1 a1_2 a2 a1_0 w _ false 70 HRT (.inl ⟨rfl, rfl⟩)
  | true =>
    rw [if_pos rfl] at h
    by_cases h1 : a2 < 0
    · rw [if_pos h1] at h; obtain rfl := Option.some.inj h; exact modillionref09_Next.w_err A0_1 A3 c0_1 c3 _ a0_0 a1_1 a1_2 a2 a1_0 w _ true 70 HRT (.inr (.inl ⟨rfl, h1, rfl⟩))
    rw [if_neg h1] at h
    by_cases h2 : a2 ≥ a1_2
    · rw [if_pos h2] at h; obtain rfl := Option.some.inj h; exact modillionref09_Next.w_err A0_1 A3 c0_1 c3 _ a0_0 a1_1 a1_2 a2 a1_0 w _ true 70 HRT (.inr (.inr (.inl ⟨rfl, h1, h2, rfl⟩)))
    rw [if_neg h2] at h
    by_cases hN : l3.length ≤ 1000000
    · rw [if_pos hN] at h
      by_cases h3 : (l3.length : Int) ≠ a0_0
      · rw [if_pos h3] at h; obtain rfl := Option.some.inj h; exact modillionref09_Next.w_err A0_1 A3 c0_1 c3 _ a0_0 a1_1 a1_2 a2 a1_0 w _ true 90 HRT (.inr (.inr (.inr ⟨rfl, h1, h2, h3, rfl⟩)))
      rw [if_neg h3] at h
      exact modillionref09_Next.w_main A0_1 A3 c0_1 c3 _ a0_0 a1_1 a1_2 a2 a1_0 w l3 _ _ r HRT
        (fun W hW y p hp => modillionref07_Step.calls k a0_0 A0_1 c0_1 l0_1 a1_0 a1_1 a1_2 a2 y.f0 y.f1 y.f2 y.f3 y.f4 p.1 p.2.1 p.2.2.1 p.2.2.2.1 p.2.2.2.2.1 p.2.2.2.2.2.1 p.2.2.2.2.2.2 W (Kd.C_below hr0_1 hW) hc0_1 hp)
        (fun W hW A c s i q hC hc hq => modillionref08_Came.calls k a1_0 A c s i q.1 q.2.1 q.2.2 W hC hc hq)
        (fun W hW A c s t hC hc ht => modillionref08_Sort.calls A c s t W hC hc ht)
        (by omega) (by omega) hN (by omega) hr3 h
    · rw [if_neg hN] at h; cases h

/-! ### modillionref09_Same: function 9 -/
def modillionref09_Same.l0 : Nat → List (S50) → List (S50) → Int → Option (Bool)
  | 0, _, _, _ => none
  | k + 1, x0, x1, x5 => if x5 < (x0.length : Int) then (if 0 ≤ x5 then (if x5 < (x1.length : Int) then (if (!(((rd_T50 x0 x5).f0) == ((rd_T50 x1 x5).f0)) || (!(((rd_T50 x0 x5).f1) == ((rd_T50 x1 x5).f1)) || (!(((rd_T50 x0 x5).f2) == ((rd_T50 x1 x5).f2)) || (!(((rd_T50 x0 x5).f3) == ((rd_T50 x1 x5).f3)) || (!(((rd_T50 x0 x5).f4) == ((rd_T50 x1 x5).f4))))))) = true then (some false) else (modillionref09_Same.l0 k x0 x1 (wrap64 (x5 + 1)))) else (none)) else (none)) else (some true)
def modillionref09_Same.f (k : Nat) (l0 : List (S50)) (l1 : List (S50)) : Option (Bool) := if (l0.length : Int) = (l1.length : Int) then (modillionref09_Same.l0 k l0 l1 0) else (some false)
theorem modillionref09_Same.mono_l : ∀ k, (∀ y0 y1 y2, LeO (modillionref09_Same.l0 k y0 y1 y2) (modillionref09_Same.l0 (k + 1) y0 y1 y2))
  | 0 => fun _ _ _ r h => by simp [modillionref09_Same.l0] at h
  | k + 1 => by
    have ih0 := modillionref09_Same.mono_l k
    · intro y0 y1 y2
      unfold modillionref09_Same.l0
      repeat' first
      | (with_reducible exact ih0 _ _ _)
      | (with_reducible exact LeO.refl _)
      | (with_reducible exact LeO.none _)
      | (with_reducible refine LeO.ite ?_ ?_)
      | (with_reducible refine LeO.bind ?_ (fun _ => ?_))
      | exact ih0 _ _ _
      | exact LeO.none _
      | refine LeO.ite ?_ ?_
      | refine LeO.bind ?_ (fun _ => ?_)
theorem modillionref09_Same.mono : ∀ a0 a1 k, LeO (modillionref09_Same.f k a0 a1) (modillionref09_Same.f (k + 1) a0 a1) := by
  intro a0 a1 k
  have ih0 := modillionref09_Same.mono_l k
  unfold modillionref09_Same.f
  repeat' first
      | (with_reducible exact ih0 _ _ _)
      | (with_reducible exact LeO.refl _)
      | (with_reducible exact LeO.none _)
      | (with_reducible refine LeO.ite ?_ ?_)
      | (with_reducible refine LeO.bind ?_ (fun _ => ?_))
      | exact ih0 _ _ _
      | exact LeO.none _
      | refine LeO.ite ?_ ?_
      | refine LeO.bind ?_ (fun _ => ?_)
set_option maxHeartbeats 8000000 in
set_option maxRecDepth 100000 in
theorem modillionref09_Same.calls (k : Nat) (A0 : Option Addr) (c0 : Nat) (l0 : List (S50)) (A1 : Option Addr) (c1 : Nat) (l1 : List (S50)) (r : Bool) (w : World) (hr0 : Kd.C k50 w A0 l0.length l0) (hc0 : l0.length ≤ c0) (hr1 : Kd.C k50 w A1 l1.length l1) (hc1 : l1.length ≤ c1) (h : modillionref09_Same.f k l0 l1 = some r) :
    Calls Tryz.prog 9 #[.slice A0 l0.length c0, .slice A1 l1.length c1] w fun e w' => e = .returned (.bool r) ∧ Drawn0 w w' := by
  have hu50 := Tryz.underlying50
  have HR0 := Aside0.mk hr0
  have HC0 := Aside0.mk hc0
  clear hr0 hc0
  have HR1 := Aside0.mk hr1
  have HC1 := Aside0.mk hc1
  clear hr1 hc1
  have H : (if (l0.length : Int) = (l1.length : Int) then (modillionref09_Same.l0 k l0 l1 0) else (some false)) = some r := h
  clear h
  by_cases c3 : (l0.length : Int) = (l1.length : Int)
  · rw [if_pos c3] at H
    have c3b0 : ((l0.length : Int) == (l1.length : Int)) = true := beq_iff_eq.mpr c3
    have c3b1 : ((l0.length : Int) != (l1.length : Int)) = false := bne_eq_false_iff_eq.mpr c3
    have c3b2 : (l0.length == l1.length) = true := by first | simpa using c3 | (simp at c3 ⊢; omega)
    clear c3
    have H' := Aside0.mk H
    clear H
    go_enter Tryz.func9, Tryz.ntmps9
    go_wp2
    repeat (go_quiet (fail); try go_wp2)
    go_loopg [5] k (fun kq v5 w' => ∃ (x5_1 : Int), v5 = .int .i64 x5_1 ∧ Aside0 (modillionref09_Same.l0 kq l0 l1 x5_1 = some r) ∧ Aside0 (kq ≤ k) ∧ Drawn0 w w')
    case atStart => exact ⟨(0), (by first | rfl | (simp; done) | (simp [*]; done)), H', ⟨Nat.le_refl _⟩, by repeat (first | exact Drawn0.refl _ | apply Drawn0.step)⟩
    case round =>
      clear H'
      try clear c1
      try clear p2
      try clear c3
      try clear c3b0
      try clear c3b1
      try clear c3b2
      obtain ⟨x5_1, rfl, HA, HK1, ⟨m1, rfl⟩⟩ := hrel
      cases gk with
      | zero => exact absurd HA.out (by simp [modillionref09_Same.l0])
      | succ k1 =>
        have H := HA.out
        clear HA
        simp only [modillionref09_Same.l0] at H
        by_cases c4 : x5_1 < (l0.length : Int)
        · rw [if_pos c4] at H
          have c4b0 := decide_eq_true c4
          clear c4
          obtain ⟨c5, H⟩ := iteS19 H
          have c5b0 := decide_eq_true c5
          clear c5
          obtain ⟨c6, H⟩ := iteS19 H
          have c6b0 := decide_eq_true c6
          clear c6
          by_cases c7 : (!(((rd_T50 l0 x5_1).f0) == ((rd_T50 l1 x5_1).f0)) || (!(((rd_T50 l0 x5_1).f1) == ((rd_T50 l1 x5_1).f1)) || (!(((rd_T50 l0 x5_1).f2) == ((rd_T50 l1 x5_1).f2)) || (!(((rd_T50 l0 x5_1).f3) == ((rd_T50 l1 x5_1).f3)) || (!(((rd_T50 l0 x5_1).f4) == ((rd_T50 l1 x5_1).f4))))))) = true
          · rw [if_pos c7] at H
            have c7b0 : (!(((rd_T50 l0 x5_1).f0) == ((rd_T50 l1 x5_1).f0)) || (!(((rd_T50 l0 x5_1).f1) == ((rd_T50 l1 x5_1).f1)) || (!(((rd_T50 l0 x5_1).f2) == ((rd_T50 l1 x5_1).f2)) || (!(((rd_T50 l0 x5_1).f3) == ((rd_T50 l1 x5_1).f3)) || (!(((rd_T50 l0 x5_1).f4) == ((rd_T50 l1 x5_1).f4))))))) = true := c7
            clear c7
            obtain rfl := Option.some.inj H
            have p228 : 0 ≤ (x5_1 : Int) := of_decide_eq_true (by first | (with_reducible assumption) | assumption)
            have q228 : x5_1 < (l0.length : Int) := of_decide_eq_true (by first | (with_reducible assumption) | assumption)
            obtain ⟨ad228, e228, hx228_0, hx228_1, hx228_2, hx228_3, hx228_4⟩ := at_T50 HR0.out x5_1 p228 q228
            cases e228
            replace p228 := eq_true p228
            replace q228 := eq_true q228
            have p229 : 0 ≤ (x5_1 : Int) := of_decide_eq_true (by first | (with_reducible assumption) | assumption)
            have q229 : x5_1 < (l1.length : Int) := of_decide_eq_true (by first | (with_reducible assumption) | assumption)
            obtain ⟨ad229, e229, hx229_0, hx229_1, hx229_2, hx229_3, hx229_4⟩ := at_T50 HR1.out x5_1 p229 q229
            cases e229
            replace p229 := eq_true p229
            replace q229 := eq_true q229
            go_wp2
            repeat (go_quiet (fail); try go_wp2)
            go_ret
            exact ⟨by first | rfl | (simp; done) | (simp [*]; done), by repeat (first | exact Drawn0.refl _ | apply Drawn0.step)⟩
          · rw [if_neg c7] at H
            have c7b0 : (!(((rd_T50 l0 x5_1).f0) == ((rd_T50 l1 x5_1).f0)) || (!(((rd_T50 l0 x5_1).f1) == ((rd_T50 l1 x5_1).f1)) || (!(((rd_T50 l0 x5_1).f2) == ((rd_T50 l1 x5_1).f2)) || (!(((rd_T50 l0 x5_1).f3) == ((rd_T50 l1 x5_1).f3)) || (!(((rd_T50 l0 x5_1).f4) == ((rd_T50 l1 x5_1).f4))))))) = false := by simpa using c7
            clear c7
            have H' := Aside0.mk H
            clear H
            have p228 : 0 ≤ (x5_1 : Int) := of_decide_eq_true (by first | (with_reducible assumption) | assumption)
            have q228 : x5_1 < (l0.length : Int) := of_decide_eq_true (by first | (with_reducible assumption) | assumption)
            obtain ⟨ad228, e228, hx228_0, hx228_1, hx228_2, hx228_3, hx228_4⟩ := at_T50 HR0.out x5_1 p228 q228
            cases e228
            replace p228 := eq_true p228
            replace q228 := eq_true q228
            have p229 : 0 ≤ (x5_1 : Int) := of_decide_eq_true (by first | (with_reducible assumption) | assumption)
            have q229 : x5_1 < (l1.length : Int) := of_decide_eq_true (by first | (with_reducible assumption) | assumption)
            obtain ⟨ad229, e229, hx229_0, hx229_1, hx229_2, hx229_3, hx229_4⟩ := at_T50 HR1.out x5_1 p229 q229
            cases e229
            replace p229 := eq_true p229
            replace q229 := eq_true q229
            go_wp2
            repeat (go_quiet (fail); try go_wp2)
            go_roundg k1
            case measure => have := HK1.out; omega
            case rel => exact ⟨(wrap64 (x5_1 + 1)), (by first | rfl | (simp; done) | (simp [*]; done)), H', ⟨by have := HK1.out; omega⟩, by repeat (first | exact Drawn0.refl _ | apply Drawn0.step)⟩
        · rw [if_neg c4] at H
          have c4b0 := decide_eq_false c4
          clear c4
          obtain rfl := Option.some.inj H
          go_wp2
          repeat (go_quiet (fail); try go_wp2)
          go_ret
          exact ⟨by first | rfl | (simp; done) | (simp [*]; done), by repeat (first | exact Drawn0.refl _ | apply Drawn0.step)⟩
  · rw [if_neg c3] at H
    have c3b0 : ((l0.length : Int) == (l1.length : Int)) = false := beq_eq_false_iff_ne.mpr c3
    have c3b1 : ((l0.length : Int) != (l1.length : Int)) = true := bne_iff_ne.mpr c3
    have c3b2 : (l0.length == l1.length) = false := by first | simpa using c3 | (simp at c3 ⊢; omega)
    obtain rfl := Option.some.inj H
    go_enter Tryz.func9, Tryz.ntmps9
    go_wp2
    repeat (go_quiet (fail); try go_wp2)
    go_ret
    exact ⟨by first | rfl | (simp; done) | (simp [*]; done), by repeat (first | exact Drawn0.refl _ | apply Drawn0.step)⟩

/-! ### modillionref07_Same: function 10 -/
def modillionref07_Same.l0 : Nat → List (S61) → List (S61) → Int → Option (Bool)
  | 0, _, _, _ => none
  | k + 1, x0, x1, x5 => if x5 < (x0.length : Int) then (if 0 ≤ x5 then (if x5 < (x1.length : Int) then (if (!(((rd_T61 x0 x5).f0) == ((rd_T61 x1 x5).f0)) || (!(((rd_T61 x0 x5).f1) == ((rd_T61 x1 x5).f1)) || (!(((rd_T61 x0 x5).f2) == ((rd_T61 x1 x5).f2))))) = true then (some false) else (modillionref07_Same.l0 k x0 x1 (wrap64 (x5 + 1)))) else (none)) else (none)) else (some true)
def modillionref07_Same.f (k : Nat) (l0 : List (S61)) (l1 : List (S61)) : Option (Bool) := if (l0.length : Int) = (l1.length : Int) then (modillionref07_Same.l0 k l0 l1 0) else (some false)
theorem modillionref07_Same.mono_l : ∀ k, (∀ y0 y1 y2, LeO (modillionref07_Same.l0 k y0 y1 y2) (modillionref07_Same.l0 (k + 1) y0 y1 y2))
  | 0 => fun _ _ _ r h => by simp [modillionref07_Same.l0] at h
  | k + 1 => by
    have ih0 := modillionref07_Same.mono_l k
    · intro y0 y1 y2
      unfold modillionref07_Same.l0
      repeat' first
      | (with_reducible exact ih0 _ _ _)
      | (with_reducible exact LeO.refl _)
      | (with_reducible exact LeO.none _)
      | (with_reducible refine LeO.ite ?_ ?_)
      | (with_reducible refine LeO.bind ?_ (fun _ => ?_))
      | exact ih0 _ _ _
      | exact LeO.none _
      | refine LeO.ite ?_ ?_
      | refine LeO.bind ?_ (fun _ => ?_)
theorem modillionref07_Same.mono : ∀ a0 a1 k, LeO (modillionref07_Same.f k a0 a1) (modillionref07_Same.f (k + 1) a0 a1) := by
  intro a0 a1 k
  have ih0 := modillionref07_Same.mono_l k
  unfold modillionref07_Same.f
  repeat' first
      | (with_reducible exact ih0 _ _ _)
      | (with_reducible exact LeO.refl _)
      | (with_reducible exact LeO.none _)
      | (with_reducible refine LeO.ite ?_ ?_)
      | (with_reducible refine LeO.bind ?_ (fun _ => ?_))
      | exact ih0 _ _ _
      | exact LeO.none _
      | refine LeO.ite ?_ ?_
      | refine LeO.bind ?_ (fun _ => ?_)
set_option maxHeartbeats 8000000 in
set_option maxRecDepth 100000 in
theorem modillionref07_Same.calls (k : Nat) (A0 : Option Addr) (c0 : Nat) (l0 : List (S61)) (A1 : Option Addr) (c1 : Nat) (l1 : List (S61)) (r : Bool) (w : World) (hr0 : Kd.C k61 w A0 l0.length l0) (hc0 : l0.length ≤ c0) (hr1 : Kd.C k61 w A1 l1.length l1) (hc1 : l1.length ≤ c1) (h : modillionref07_Same.f k l0 l1 = some r) :
    Calls Tryz.prog 10 #[.slice A0 l0.length c0, .slice A1 l1.length c1] w fun e w' => e = .returned (.bool r) ∧ Drawn0 w w' := by
  have hu61 := Tryz.underlying61
  have HR0 := Aside0.mk hr0
  have HC0 := Aside0.mk hc0
  clear hr0 hc0
  have HR1 := Aside0.mk hr1
  have HC1 := Aside0.mk hc1
  clear hr1 hc1
  have H : (if (l0.length : Int) = (l1.length : Int) then (modillionref07_Same.l0 k l0 l1 0) else (some false)) = some r := h
  clear h
  by_cases c3 : (l0.length : Int) = (l1.length : Int)
  · rw [if_pos c3] at H
    have c3b0 : ((l0.length : Int) == (l1.length : Int)) = true := beq_iff_eq.mpr c3
    have c3b1 : ((l0.length : Int) != (l1.length : Int)) = false := bne_eq_false_iff_eq.mpr c3
    have c3b2 : (l0.length == l1.length) = true := by first | simpa using c3 | (simp at c3 ⊢; omega)
    clear c3
    have H' := Aside0.mk H
    clear H
    go_enter Tryz.func10, Tryz.ntmps10
    go_wp2
    repeat (go_quiet (fail); try go_wp2)
    go_loopg [5] k (fun kq v5 w' => ∃ (x5_1 : Int), v5 = .int .i64 x5_1 ∧ Aside0 (modillionref07_Same.l0 kq l0 l1 x5_1 = some r) ∧ Aside0 (kq ≤ k) ∧ Drawn0 w w')
    case atStart => exact ⟨(0), (by first | rfl | (simp; done) | (simp [*]; done)), H', ⟨Nat.le_refl _⟩, by repeat (first | exact Drawn0.refl _ | apply Drawn0.step)⟩
    case round =>
      clear H'
      try clear c1
      try clear p2
      try clear c3
      try clear c3b0
      try clear c3b1
      try clear c3b2
      obtain ⟨x5_1, rfl, HA, HK1, ⟨m1, rfl⟩⟩ := hrel
      cases gk with
      | zero => exact absurd HA.out (by simp [modillionref07_Same.l0])
      | succ k1 =>
        have H := HA.out
        clear HA
        simp only [modillionref07_Same.l0] at H
        by_cases c4 : x5_1 < (l0.length : Int)
        · rw [if_pos c4] at H
          have c4b0 := decide_eq_true c4
          clear c4
          obtain ⟨c5, H⟩ := iteS19 H
          have c5b0 := decide_eq_true c5
          clear c5
          obtain ⟨c6, H⟩ := iteS19 H
          have c6b0 := decide_eq_true c6
          clear c6
          by_cases c7 : (!(((rd_T61 l0 x5_1).f0) == ((rd_T61 l1 x5_1).f0)) || (!(((rd_T61 l0 x5_1).f1) == ((rd_T61 l1 x5_1).f1)) || (!(((rd_T61 l0 x5_1).f2) == ((rd_T61 l1 x5_1).f2))))) = true
          · rw [if_pos c7] at H
            have c7b0 : (!(((rd_T61 l0 x5_1).f0) == ((rd_T61 l1 x5_1).f0)) || (!(((rd_T61 l0 x5_1).f1) == ((rd_T61 l1 x5_1).f1)) || (!(((rd_T61 l0 x5_1).f2) == ((rd_T61 l1 x5_1).f2))))) = true := c7
            clear c7
            obtain rfl := Option.some.inj H
            have p230 : 0 ≤ (x5_1 : Int) := of_decide_eq_true (by first | (with_reducible assumption) | assumption)
            have q230 : x5_1 < (l0.length : Int) := of_decide_eq_true (by first | (with_reducible assumption) | assumption)
            obtain ⟨ad230, e230, hx230_0, hx230_1, hx230_2⟩ := at_T61 HR0.out x5_1 p230 q230
            cases e230
            replace p230 := eq_true p230
            replace q230 := eq_true q230
            have p231 : 0 ≤ (x5_1 : Int) := of_decide_eq_true (by first | (with_reducible assumption) | assumption)
            have q231 : x5_1 < (l1.length : Int) := of_decide_eq_true (by first | (with_reducible assumption) | assumption)
            obtain ⟨ad231, e231, hx231_0, hx231_1, hx231_2⟩ := at_T61 HR1.out x5_1 p231 q231
            cases e231
            replace p231 := eq_true p231
            replace q231 := eq_true q231
            go_wp2
            repeat (go_quiet (fail); try go_wp2)
            go_ret
            exact ⟨by first | rfl | (simp; done) | (simp [*]; done), by repeat (first | exact Drawn0.refl _ | apply Drawn0.step)⟩
          · rw [if_neg c7] at H
            have c7b0 : (!(((rd_T61 l0 x5_1).f0) == ((rd_T61 l1 x5_1).f0)) || (!(((rd_T61 l0 x5_1).f1) == ((rd_T61 l1 x5_1).f1)) || (!(((rd_T61 l0 x5_1).f2) == ((rd_T61 l1 x5_1).f2))))) = false := by simpa using c7
            clear c7
            have H' := Aside0.mk H
            clear H
            have p230 : 0 ≤ (x5_1 : Int) := of_decide_eq_true (by first | (with_reducible assumption) | assumption)
            have q230 : x5_1 < (l0.length : Int) := of_decide_eq_true (by first | (with_reducible assumption) | assumption)
            obtain ⟨ad230, e230, hx230_0, hx230_1, hx230_2⟩ := at_T61 HR0.out x5_1 p230 q230
            cases e230
            replace p230 := eq_true p230
            replace q230 := eq_true q230
            have p231 : 0 ≤ (x5_1 : Int) := of_decide_eq_true (by first | (with_reducible assumption) | assumption)
            have q231 : x5_1 < (l1.length : Int) := of_decide_eq_true (by first | (with_reducible assumption) | assumption)
            obtain ⟨ad231, e231, hx231_0, hx231_1, hx231_2⟩ := at_T61 HR1.out x5_1 p231 q231
            cases e231
            replace p231 := eq_true p231
            replace q231 := eq_true q231
            go_wp2
            repeat (go_quiet (fail); try go_wp2)
            go_roundg k1
            case measure => have := HK1.out; omega
            case rel => exact ⟨(wrap64 (x5_1 + 1)), (by first | rfl | (simp; done) | (simp [*]; done)), H', ⟨by have := HK1.out; omega⟩, by repeat (first | exact Drawn0.refl _ | apply Drawn0.step)⟩
        · rw [if_neg c4] at H
          have c4b0 := decide_eq_false c4
          clear c4
          obtain rfl := Option.some.inj H
          go_wp2
          repeat (go_quiet (fail); try go_wp2)
          go_ret
          exact ⟨by first | rfl | (simp; done) | (simp [*]; done), by repeat (first | exact Drawn0.refl _ | apply Drawn0.step)⟩
  · rw [if_neg c3] at H
    have c3b0 : ((l0.length : Int) == (l1.length : Int)) = false := beq_eq_false_iff_ne.mpr c3
    have c3b1 : ((l0.length : Int) != (l1.length : Int)) = true := bne_iff_ne.mpr c3
    have c3b2 : (l0.length == l1.length) = false := by first | simpa using c3 | (simp at c3 ⊢; omega)
    obtain rfl := Option.some.inj H
    go_enter Tryz.func10, Tryz.ntmps10
    go_wp2
    repeat (go_quiet (fail); try go_wp2)
    go_ret
    exact ⟨by first | rfl | (simp; done) | (simp [*]; done), by repeat (first | exact Drawn0.refl _ | apply Drawn0.step)⟩

end Go.Proofs.YtpndhkeoljoapaaGreat.P
