/- Printed by a program of this session (wip/myprint.py) over the print of the kit: what the Go functions of this seat compute, as Lean functions, and that they do; for the functions that take or make function values the contracts are by hand. No condition. -/
import Derived.Test.YtgdkemgilmfkfaaPx0
import Derived.Test.YtgdkemgilmfkfaaPx2
import Derived.Test.YtgdkemgilmfkfaaPx3
namespace Go.Proofs.Ytgdkemgilmfkfaa.P
open Go.RowKit Go.Proofs.YtgdkemgilmfkfaaW.PrintWords Go.Proofs.YtgdkemgilmfkfaaW.PrintLast Go.Proofs.YtgdkemgilmfkfaaW.PrintMore
attribute [local go_sem] max2_int min2_int max_two min_two max_three min_three max_four min_four   -- for this text's walks alone
set_option linter.unusedVariables false
set_option linter.unusedSimpArgs false
set_option linter.unnecessarySimpa false

/-! ### fold_Check: function 19 (given) -/
def alongB (m : S41) (e : S56) : Bool := e.f0 == m.f0 && e.f1 == m.f1
def twiceB (m x : S41) : Bool := x.f0 == m.f0 && x.f1 == m.f1
/-- May a message not be sent, behind those? -/
def badMsg (es : List S56) (pre : List S41) (m : S41) : Bool := !(es.any (alongB m)) || pre.any (twiceB m) || decide (m.f2 > 1125899906842624) || decide (m.f2 < -1125899906842624)
def badMsgs (es : List S56) : List S41 → List S41 → Bool
  | _, [] => false
  | pre, m :: r => badMsg es pre m || badMsgs es (pre ++ [m]) r
def fold_Check.f (a0_0 : Int) (l0_1 : List S56) (l1 : List S41) : Option Int := if l1.length ≤ 9223372036854775806 then (graph_Check.f a0_0 l0_1).bind fun c => (if c = 0 then (if badMsgs l0_1 [] l1 = true then some 80 else some 0) else some 80) else none
section
open Go.Shelf Go.Proofs.Ytgdkemgilmfkfaa.Bridge
set_option maxHeartbeats 8000000 in
set_option maxRecDepth 100000 in
theorem fold_Check_1.on (m : S41) (b : Nat) (w : World) (hb : b < w.heap.size) (hc : w.cell? ⟨b, 0, none⟩ = some (.int .i64 m.f0)) (hd : w.cell? ⟨b, 1, none⟩ = some (.int .i64 m.f1)) : PredOn Try.prog 35 #[.pointer (some ⟨b, 0, none⟩)] (fun x => .agg (encEdge x).toArray) (alongB m) w := fun W x hW => by
  have hu1 := Try.underlying56
  have hu2 := Try.underlying41
  have hc2 : W.cell? ⟨b, 0, none⟩ = some (.int .i64 m.f0) := (hW.cell (p := ⟨b, 0, none⟩) hb).trans hc
  have hd2 : W.cell? ⟨b, 1, none⟩ = some (.int .i64 m.f1) := (hW.cell (p := ⟨b, 1, none⟩) hb).trans hd
  have hbW : b < W.heap.size := Nat.lt_of_lt_of_le hb hW.size
  have hne : b ≠ W.heap.size := by omega
  clear hc hd hb hW
  show Calls Try.prog 35 #[.agg #[.int .i64 x.f0, .int .i64 x.f1, .int .i64 x.f2], .pointer (some ⟨b, 0, none⟩)] W _
  unfold alongB
  go_enter Try.func35, Try.ntmps35
  go_wp2
  all_goals (go_ret; exact ⟨by first | rfl | (simp [*]; done), by repeat (first | exact Below.refl _ _ | apply below_alloc | apply pw_below_drewN)⟩)
set_option maxHeartbeats 8000000 in
set_option maxRecDepth 100000 in
theorem fold_Check_2.on (m : S41) (b : Nat) (w : World) (hb : b < w.heap.size) (hc : w.cell? ⟨b, 0, none⟩ = some (.int .i64 m.f0)) (hd : w.cell? ⟨b, 1, none⟩ = some (.int .i64 m.f1)) : PredOn Try.prog 36 #[.pointer (some ⟨b, 0, none⟩)] (fun x => .agg (encMsg x).toArray) (twiceB m) w := fun W x hW => by
  have hu2 := Try.underlying41
  have hc2 : W.cell? ⟨b, 0, none⟩ = some (.int .i64 m.f0) := (hW.cell (p := ⟨b, 0, none⟩) hb).trans hc
  have hd2 : W.cell? ⟨b, 1, none⟩ = some (.int .i64 m.f1) := (hW.cell (p := ⟨b, 1, none⟩) hb).trans hd
  have hbW : b < W.heap.size := Nat.lt_of_lt_of_le hb hW.size
  have hne : b ≠ W.heap.size := by omega
  clear hc hd hb hW
  show Calls Try.prog 36 #[.agg #[.int .i64 x.f0, .int .i64 x.f1, .int .i64 x.f2], .pointer (some ⟨b, 0, none⟩)] W _
  unfold twiceB
  go_enter Try.func36, Try.ntmps36
  go_wp2
  all_goals (go_ret; exact ⟨by first | rfl | (simp [*]; done), by repeat (first | exact Below.refl _ _ | apply below_alloc | apply pw_below_drewN)⟩)
theorem badMsgs_drop (es : List S56) (l : List S41) (i : Nat) (h : i < l.length) : badMsgs es (l.take i) (l.drop i) = (badMsg es (l.take i) l[i] || badMsgs es (l.take (i + 1)) (l.drop (i + 1))) := by
  rw [List.drop_eq_getElem_cons h, List.take_succ_eq_append_getElem h]
  rfl
set_option maxHeartbeats 16000000 in
set_option maxRecDepth 100000 in
theorem fold_Check.calls (a0_0 : Int) (A0_1 : Option Addr) (c0_1 : Nat) (l0_1 : List S56) (A1 : Option Addr) (c1 : Nat) (l1 : List S41) (r : Int) (w : World) (hr0_1 : Kd.C k56 w A0_1 l0_1.length l0_1) (hc0_1 : l0_1.length ≤ c0_1) (hr1 : Kd.C k41 w A1 l1.length l1) (hc1 : l1.length ≤ c1) (h : fold_Check.f a0_0 l0_1 l1 = some r) :
    Calls Try.prog 19 #[.agg #[.int .i64 a0_0, .slice A0_1 l0_1.length c0_1], .slice A1 l1.length c1] w fun e w' => e = .returned (.int .i64 r) ∧ Below w.heap.size w w' := by
  have hu := Try.underlying30
  have hu2 := Try.underlying41
  unfold fold_Check.f at h
  by_cases hl : l1.length ≤ 9223372036854775806
  · rw [if_pos hl] at h
    obtain ⟨c, hc, h⟩ := Option.bind_eq_some_iff.mp h
    have hle : l0_1.length ≤ 9223372036854775806 := by
      unfold graph_Check.f at hc
      by_cases q : l0_1.length ≤ 9223372036854775806
      · exact q
      · rw [if_neg q] at hc; exact absurd hc (by simp)
    have hb1 : Below w.heap.size w (w.alloc (.cells #[.int .i64 a0_0, .slice A0_1 l0_1.length c0_1] 30)) := below_alloc (Below.refl _ _) _
    have HG := graph_Check.calls a0_0 A0_1 c0_1 l0_1 c _ (Kd.C_below hr0_1 hb1) hc0_1 hc
    have HB := Aside0.mk hb1
    have HE := Aside0.mk hr0_1
    have HM := Aside0.mk hr1
    have HLE := Aside0.mk hle
    have HLM := Aside0.mk hl
    have HC1 := Aside0.mk hc1
    clear hb1 hr0_1 hr1 hc hle hl hc0_1 hc1
    by_cases hz : c = 0
    · rw [if_pos hz] at h
      subst hz
      have HR : Aside0 (r = if badMsgs l0_1 [] l1 = true then 80 else 0) := ⟨by split at h <;> simp_all⟩
      clear h
      go_enter Try.func19, Try.ntmps19
      go_wp2_with (go_at_call 34; refine HG.mono ?_; rintro e w2 ⟨rfl, hb⟩; have hg1 := (hb.cell (p := ⟨w.heap.size, 1, none⟩) (by simp)).trans (show _ = some (.slice A0_1 l0_1.length c0_1) by simp); have HG1 := Aside0.mk hg1; have HB2 := Aside0.mk (HB.out.trans (hb.mono HB.out.size)); have HS2 : Aside0 (w.heap.size < w2.heap.size) := ⟨by have := hb.size; simp at this; omega⟩; clear hb HG hg1)
      go_loopg [14] (l1.length) (fun kq v14 w' => ∃ i : Nat, v14 = .int .i64 (i : Int) ∧ Aside0 (i + kq = l1.length) ∧ Aside0 (badMsgs l0_1 [] l1 = badMsgs l0_1 (l1.take i) (l1.drop i)) ∧ Aside0 (Below w2.heap.size w2 w'))
      case atStart => exact ⟨0, rfl, ⟨by omega⟩, ⟨rfl⟩, ⟨Below.refl _ _⟩⟩
      case round =>
        obtain ⟨i, rfl, HI, HQ, HBW⟩ := hrel
        by_cases hlt : i < l1.length
        · have d1 : decide ((i : Int) < (l1.length : Int)) = true := decide_eq_true (by omega)
          have d1n : decide (i < l1.length) = true := decide_eq_true hlt
          have p1 : 0 ≤ (i : Int) := by omega
          have q1 : (i : Int) < (l1.length : Int) := by omega
          obtain ⟨ad, e1, hx0, hx1, hx2⟩ := at_T41 (Kd.C_below HM.out (HB2.out.trans (HBW.out.mono HB2.out.size))) (i : Int) p1 q1
          cases e1
          rw [rd_atMsg l1 i hlt, Int.toNat_natCast] at hx0 hx1 hx2
          have hbd := badMsgs_drop l0_1 l1 i hlt
          rw [← HQ.out] at hbd
          obtain ⟨y, hy⟩ : ∃ y : S41, l1[i] = y := ⟨_, rfl⟩
          rw [hy] at hx0 hx1 hx2 hbd
          have HBD := Aside0.mk hbd
          have HLT := Aside0.mk hlt
          clear hy hbd HQ
          have hg1 : wr.cell? ⟨w.heap.size, 1, none⟩ = some (.slice A0_1 l0_1.length c0_1) := (HBW.out.cell (p := ⟨w.heap.size, 1, none⟩) HS2.out).trans HG1.out
          have hne : w.heap.size ≠ wr.heap.size := by have := HBW.out.size; have := HS2.out; omega
          have hlw : w.heap.size < wr.heap.size := by have := HBW.out.size; have := HS2.out; omega
          obtain ⟨gk1, rfl⟩ : ∃ m, gk = m + 1 := ⟨gk - 1, by have := HI.out; have := HLT.out; omega⟩
          have hw1 : wrap64 ((i : Int) + 1) = (i : Int) + 1 := by have h1 := HLM.out; have h2 := HLT.out; unfold wrap64; omega
          have eg1 : ∀ args w, (callFunc 35 args).run Try.prog w = .ok (.enter 35 args) w := enters_of Try.func35 (by kernel_rfl) rfl
          have eg2 : ∀ args w, (callFunc 36 args).run Try.prog w = .ok (.enter 36 args) w := enters_of Try.func36 (by kernel_rfl) rfl
          have hbW2 : Below w.heap.size w (wr.alloc (.cells #[.int .i64 y.f0, .int .i64 y.f1, .int .i64 y.f2] 41)) := below_alloc (HB2.out.trans (HBW.out.mono HB2.out.size)) _
          have H1 := hasEdge.on (alongB y) 35 #[.pointer (some ⟨wr.heap.size, 0, none⟩)] eg1 A0_1 c0_1 l0_1 _ (Kd.C_below HE.out hbW2) HLE.out (fold_Check_1.on y wr.heap.size _ (by simp) (by simp) (by simp))
          have hlt2 : (l1.take i).length = i := by rw [List.length_take]; omega
          have H2 : ∀ W, Below (wr.heap.size + 1) (wr.alloc (.cells #[.int .i64 y.f0, .int .i64 y.f1, .int .i64 y.f2] 41)) W → Calls Try.prog 38 #[.slice (some ad) i c1, .func (.func 36) #[] #[.pointer (some ⟨wr.heap.size, 0, none⟩)]] W fun e w' => e = .returned (.bool ((l1.take i).any (twiceB y))) ∧ Below W.heap.size W w' := fun W hW => by
            have k0 := (hW.cell (p := ⟨wr.heap.size, 0, none⟩) (by simp)).trans (show _ = some (.int .i64 y.f0) by simp)
            have k1 := (hW.cell (p := ⟨wr.heap.size, 1, none⟩) (by simp)).trans (show _ = some (.int .i64 y.f1) by simp)
            have hs := hW.size
            simp only [World.size_alloc] at hs
            have := hasMsg.on (twiceB y) 36 #[.pointer (some ⟨wr.heap.size, 0, none⟩)] eg2 (some ad) c1 (l1.take i) W (Kd.C_take (Kd.C_below HM.out (hbW2.trans (hW.mono (by omega)))) (by omega)) (by have := HLM.out; omega) (fold_Check_2.on y wr.heap.size W (by omega) k0 k1)
            rwa [hlt2] at this
          have HB3 := Aside0.mk hbW2
          obtain ⟨ti, hti, _, _, _⟩ := info_parts info41
          have hcut := cut_to (P := Try.prog) 22 41 .i64 Try.underlying22 hti (some ad) l1.length c1 (i : Int) p1 (by omega) HC1.out
          rw [Int.toNat_natCast] at hcut
          clear hbW2 eg1 eg2 hlt hti
          replace p1 := eq_true p1
          replace q1 := eq_true q1
          cases ha : l0_1.any (alongB y) with
          | false =>
            have hb80 : badMsgs l0_1 [] l1 = true := by rw [HBD.out]; unfold badMsg; rw [ha]; rfl
            have hr80 : r = 80 := by rw [HR.out, if_pos hb80]
            subst hr80
            rw [ha] at H1
            clear hb80 ha HR
            go_wp2_with (go_at_call 37; refine H1.mono ?_; rintro e w5 ⟨rfl, hb⟩; have k2 := (hb.cell (p := ⟨wr.heap.size, 2, none⟩) (by simp)).trans (show _ = some (.int .i64 y.f2) by simp); have HB5 := Aside0.mk hb; have H5 := H2 w5 (by simpa using hb); have hs5 : wr.heap.size < w5.heap.size := (by have := hb.size; simp at this; omega); clear hb H1 H2)
            go_ret
            exact ⟨rfl, HB3.out.trans (HB5.out.mono HB3.out.size)⟩
          | true =>
            rw [ha] at H1
            cases hb : (l1.take i).any (twiceB y) with
            | true =>
              have hb80 : badMsgs l0_1 [] l1 = true := by rw [HBD.out]; unfold badMsg; rw [ha, hb]; rfl
              have hr80 : r = 80 := by rw [HR.out, if_pos hb80]
              subst hr80
              rw [hb] at H2
              clear hb80 ha hb HR
              go_wp2_with (first | (go_at_call 37; refine H1.mono ?_; rintro e w5 ⟨rfl, hb⟩; have k2 := (hb.cell (p := ⟨wr.heap.size, 2, none⟩) (by simp)).trans (show _ = some (.int .i64 y.f2) by simp); have HB5 := Aside0.mk hb; have H5 := H2 w5 (by simpa using hb); have hs5 : wr.heap.size < w5.heap.size := (by have := hb.size; simp at this; omega); clear hb H1 H2) | (go_at_call 38; refine H5.mono ?_; rintro e w6 ⟨rfl, hb⟩; have k6 := (hb.cell (p := ⟨wr.heap.size, 2, none⟩) hs5).trans k2; have HB6 := Aside0.mk (HB5.out.trans (hb.mono HB5.out.size)); clear hb H5 k2))
              go_ret
              exact ⟨rfl, HB3.out.trans (HB6.out.mono HB3.out.size)⟩
            | false =>
              rw [hb] at H2
              by_cases g1 : y.f2 > 1125899906842624
              · have hb80 : badMsgs l0_1 [] l1 = true := by rw [HBD.out]; unfold badMsg; rw [ha, hb, decide_eq_true g1]; rfl
                have hr80 : r = 80 := by rw [HR.out, if_pos hb80]
                subst hr80
                have g1b : decide (1125899906842624 < y.f2) = true := decide_eq_true g1
                clear hb80 ha hb HR g1
                go_wp2_with (first | (go_at_call 37; refine H1.mono ?_; rintro e w5 ⟨rfl, hb⟩; have k2 := (hb.cell (p := ⟨wr.heap.size, 2, none⟩) (by simp)).trans (show _ = some (.int .i64 y.f2) by simp); have HB5 := Aside0.mk hb; have H5 := H2 w5 (by simpa using hb); have hs5 : wr.heap.size < w5.heap.size := (by have := hb.size; simp at this; omega); clear hb H1 H2) | (go_at_call 38; refine H5.mono ?_; rintro e w6 ⟨rfl, hb⟩; have k6 := (hb.cell (p := ⟨wr.heap.size, 2, none⟩) hs5).trans k2; have HB6 := Aside0.mk (HB5.out.trans (hb.mono HB5.out.size)); clear hb H5 k2))
                go_ret
                exact ⟨rfl, HB3.out.trans (HB6.out.mono HB3.out.size)⟩
              · have g1b : decide (1125899906842624 < y.f2) = false := decide_eq_false g1
                by_cases g2 : y.f2 < -1125899906842624
                · have hb80 : badMsgs l0_1 [] l1 = true := by rw [HBD.out]; unfold badMsg; rw [ha, hb, decide_eq_true g2]; simp
                  have hr80 : r = 80 := by rw [HR.out, if_pos hb80]
                  subst hr80
                  have g2b : decide (y.f2 < -1125899906842624) = true := decide_eq_true g2
                  clear hb80 ha hb HR g1 g2
                  go_wp2_with (first | (go_at_call 37; refine H1.mono ?_; rintro e w5 ⟨rfl, hb⟩; have k2 := (hb.cell (p := ⟨wr.heap.size, 2, none⟩) (by simp)).trans (show _ = some (.int .i64 y.f2) by simp); have HB5 := Aside0.mk hb; have H5 := H2 w5 (by simpa using hb); have hs5 : wr.heap.size < w5.heap.size := (by have := hb.size; simp at this; omega); clear hb H1 H2) | (go_at_call 38; refine H5.mono ?_; rintro e w6 ⟨rfl, hb⟩; have k6 := (hb.cell (p := ⟨wr.heap.size, 2, none⟩) hs5).trans k2; have HB6 := Aside0.mk (HB5.out.trans (hb.mono HB5.out.size)); clear hb H5 k2))
                  go_ret
                  exact ⟨rfl, HB3.out.trans (HB6.out.mono HB3.out.size)⟩
                · have g2b : decide (y.f2 < -1125899906842624) = false := decide_eq_false g2
                  have HQ2 : Aside0 (badMsgs l0_1 [] l1 = badMsgs l0_1 (l1.take (i + 1)) (l1.drop (i + 1))) := ⟨by rw [HBD.out]; unfold badMsg; rw [ha, hb, decide_eq_false g1, decide_eq_false g2]; simp⟩
                  clear ha hb g1 g2 HBD
                  go_wp2_with (first | (go_at_call 37; refine H1.mono ?_; rintro e w5 ⟨rfl, hb⟩; have k2 := (hb.cell (p := ⟨wr.heap.size, 2, none⟩) (by simp)).trans (show _ = some (.int .i64 y.f2) by simp); have HB5 := Aside0.mk hb; have H5 := H2 w5 (by simpa using hb); have hs5 : wr.heap.size < w5.heap.size := (by have := hb.size; simp at this; omega); clear hb H1 H2) | (go_at_call 38; refine H5.mono ?_; rintro e w6 ⟨rfl, hb⟩; have k6 := (hb.cell (p := ⟨wr.heap.size, 2, none⟩) hs5).trans k2; have HB6 := Aside0.mk (HB5.out.trans (hb.mono HB5.out.size)); clear hb H5 k2))
                  go_roundg gk1
                  case measure => omega
                  case rel => exact ⟨i + 1, by go_num, ⟨by have := HI.out; omega⟩, HQ2, ⟨HBW.out.trans (((below_alloc (Below.refl _ _) (.cells #[.int .i64 y.f0, .int .i64 y.f1, .int .i64 y.f2] 41)).trans (HB6.out.mono (by simp))).mono HBW.out.size)⟩⟩
        · have d1 : decide ((i : Int) < (l1.length : Int)) = false := decide_eq_false (by omega)
          have d1n : decide (i < l1.length) = false := decide_eq_false hlt
          have hr0 : r = 0 := by
            have h2 := HQ.out
            rw [List.drop_of_length_le (by omega)] at h2
            have h3 : badMsgs l0_1 [] l1 = false := by rw [h2]; unfold badMsgs; rfl
            rw [HR.out, h3]; rfl
          subst hr0
          clear HQ HR HI hlt
          go_wp2
          go_ret
          exact ⟨rfl, HB2.out.trans (HBW.out.mono HB2.out.size)⟩
    · rw [if_neg hz] at h
      obtain rfl := Option.some.inj h
      have z1 : (c == 0) = false := beq_eq_false_iff_ne.mpr hz
      have z2 : (c != 0) = true := bne_iff_ne.mpr hz
      clear hz h
      go_enter Try.func19, Try.ntmps19
      go_wp2_with (go_at_call 34; refine HG.mono ?_; rintro e w2 ⟨rfl, hb⟩; have HB2 := Aside0.mk (HB.out.trans (hb.mono HB.out.size)); clear hb HG)
      go_ret
      exact ⟨rfl, HB2.out⟩
  · rw [if_neg hl] at h
    exact absurd h (by simp)
end

/-! ### part_Mix: function 56 -/
def part_Mix.f (a0 : Int) : Option (Int) := some (Go.bits .xor .u32 (((Go.bits .xor .u32 ((a0 * 2654435761) % 4294967296) (((a0 * 2654435761) % 4294967296) / 32768)) * 2246822519) % 4294967296) ((((Go.bits .xor .u32 ((a0 * 2654435761) % 4294967296) (((a0 * 2654435761) % 4294967296) / 32768)) * 2246822519) % 4294967296) / 8192))
set_option maxHeartbeats 8000000 in
set_option maxRecDepth 100000 in
theorem part_Mix.calls (a0 : Int) (r : Int) (w : World) (h : part_Mix.f a0 = some r) :
    Calls Try.prog 56 #[.int .u32 a0] w fun e w' => e = .returned (.int .u32 r) ∧ Drawn0 w w' := by
  have H : (some (Go.bits .xor .u32 (((Go.bits .xor .u32 ((a0 * 2654435761) % 4294967296) (((a0 * 2654435761) % 4294967296) / 32768)) * 2246822519) % 4294967296) ((((Go.bits .xor .u32 ((a0 * 2654435761) % 4294967296) (((a0 * 2654435761) % 4294967296) / 32768)) * 2246822519) % 4294967296) / 8192))) = some r := h
  clear h
  obtain rfl := Option.some.inj H
  go_enter Try.func56, Try.ntmps56
  go_wp2
  go_ret
  exact ⟨by first | rfl | (simp; done) | (simp [*]; done), by repeat (first | exact Drawn0.refl _ | apply Drawn0.step)⟩

/-! ### part_Owner: function 41 -/
def part_Owner.f (a0 : Int) (a1 : Int) : Option (Int) := if a0 < 0 then (some (-1)) else (if a1 < 1 then (some (-1)) else (if a1 > 64 then (some (-1)) else ((part_Mix.f ((a0) % 4294967296)).bind fun t106 => (if ((a1) % 4294967296) = 0 then (none) else (some (wrap64 (Int.tmod t106 ((a1) % 4294967296))))))))
set_option maxHeartbeats 8000000 in
set_option maxRecDepth 100000 in
theorem part_Owner.calls (a0 : Int) (a1 : Int) (r : Int) (w : World) (h : part_Owner.f a0 a1 = some r) :
    Calls Try.prog 41 #[.int .i64 a0, .int .i64 a1] w fun e w' => e = .returned (.int .i64 r) ∧ Drawn0 w w' := by
  have H : (if a0 < 0 then (some (-1)) else (if a1 < 1 then (some (-1)) else (if a1 > 64 then (some (-1)) else ((part_Mix.f ((a0) % 4294967296)).bind fun t106 => (if ((a1) % 4294967296) = 0 then (none) else (some (wrap64 (Int.tmod t106 ((a1) % 4294967296))))))))) = some r := h
  clear h
  by_cases c3 : a0 < 0
  · rw [if_pos c3] at H
    have c3b0 : decide (a0 < 0) = true := decide_eq_true c3
    clear c3
    obtain rfl := Option.some.inj H
    go_enter Try.func41, Try.ntmps41
    go_wp2
    go_ret
    exact ⟨by first | rfl | (simp; done) | (simp [*]; done), by repeat (first | exact Drawn0.refl _ | apply Drawn0.step)⟩
  · rw [if_neg c3] at H
    have c3b0 : decide (a0 < 0) = false := decide_eq_false c3
    clear c3
    by_cases c4 : a1 < 1
    · rw [if_pos c4] at H
      have c4b0 : decide (a1 < 1) = true := decide_eq_true c4
      clear c4
      obtain rfl := Option.some.inj H
      go_enter Try.func41, Try.ntmps41
      go_wp2
      go_ret
      exact ⟨by first | rfl | (simp; done) | (simp [*]; done), by repeat (first | exact Drawn0.refl _ | apply Drawn0.step)⟩
    · rw [if_neg c4] at H
      have c4b0 : decide (a1 < 1) = false := decide_eq_false c4
      clear c4
      by_cases c5 : a1 > 64
      · rw [if_pos c5] at H
        have c5b0 : decide (64 < a1) = true := decide_eq_true c5
        clear c5
        obtain rfl := Option.some.inj H
        go_enter Try.func41, Try.ntmps41
        go_wp2
        go_ret
        exact ⟨by first | rfl | (simp; done) | (simp [*]; done), by repeat (first | exact Drawn0.refl _ | apply Drawn0.step)⟩
      · rw [if_neg c5] at H
        have c5b0 : decide (64 < a1) = false := decide_eq_false c5
        clear c5
        replace H := Option.bind_eq_some_iff.mp H
        obtain ⟨t106, A60, H⟩ := H
        replace H : (if ((a1) % 4294967296) = 0 then (none) else (some (wrap64 (Int.tmod t106 ((a1) % 4294967296))))) = some r := H
        have A6 := Aside0.mk A60
        clear A60
        by_cases c7 : ((a1) % 4294967296) = 0
        · rw [if_pos c7] at H
          exact absurd H (by simp)
        · rw [if_neg c7] at H
          have c7b0 : (((a1) % 4294967296) == 0) = false := beq_eq_false_iff_ne.mpr c7
          have c7b1 : (((a1) % 4294967296) != 0) = true := bne_iff_ne.mpr c7
          obtain rfl := Option.some.inj H
          go_enter Try.func41, Try.ntmps41
          go_wp2_with (first | ((with_reducible refine gate_callee (f := 56) rfl ?_); refine goesL_ (some 17) rfl rfl Try.func56 (by kernel_rfl) rfl #[.int .u32 ((a0) % 4294967296)] rfl (by (try simp only [List.map_toArray, List.map_cons, List.map_nil]); first | done | rfl | (simp only [List.length_drop, List.length_take]; rfl)) ?_; (with_reducible refine (part_Mix.calls ((a0) % 4294967296) t106 _ A6.out).mono ?_); rintro e w' ⟨rfl, ⟨nd, rfl⟩⟩; refine ⟨_, rfl, ?_⟩))
          go_ret
          exact ⟨by first | rfl | (simp; done) | (simp [*]; done), by repeat (first | exact Drawn0.refl _ | apply Drawn0.step)⟩

/-! ### fold_Split: function 20 (given) -/
/-- Whose a vertex is. -/
def ownE (v k : Int) : Int := (part_Owner.f v k).getD 0
theorem owner_ownE (v k : Int) : part_Owner.f v k = some (ownE v k) := by
  have h : ∃ x, part_Owner.f v k = some x := by
    unfold part_Owner.f
    split
    · exact ⟨_, rfl⟩
    · split
      · exact ⟨_, rfl⟩
      · split
        · exact ⟨_, rfl⟩
        · unfold part_Mix.f
          rw [Option.bind_some, if_neg (by omega)]
          exact ⟨_, rfl⟩
  obtain ⟨x, hx⟩ := h
  unfold ownE
  rw [hx]
  rfl
def negB (x : S41) : Bool := decide (x.f1 < 0)
def hisB (k v : Int) (x : S41) : Bool := ownE x.f1 k == v
/-- The messages of the worker v. -/
def hisOf (k : Int) (l : List S41) (v : Nat) : List S41 := sortMsg (l.filter (hisB k (v : Int)))
def fold_Split.f (a0 : Int) (l1 : List S41) : Option (List (List S41) × Int) := if l1.length < 5864062014805 then (if (decide (a0 < 1) || (decide (a0 > 64) || l1.any negB)) = true then some ([], 80) else some ((List.range a0.toNat).map (hisOf a0 l1), 0)) else none
section
open Go.Sort Go.Shelf Go.Proofs.Ytgdkemgilmfkfaa.Bridge
set_option maxHeartbeats 8000000 in
theorem fold_Split_1.on (w : World) : PredOn Try.prog 39 #[] (fun x => .agg (encMsg x).toArray) negB w := fun W x hW => by
  have hu2 := Try.underlying41
  clear hW
  show Calls Try.prog 39 #[.agg #[.int .i64 x.f0, .int .i64 x.f1, .int .i64 x.f2]] W _
  unfold negB
  go_enter Try.func39, Try.ntmps39
  go_wp2
  all_goals (go_ret; exact ⟨by first | rfl | (simp [*]; done), by repeat (first | exact Below.refl _ _ | apply below_alloc | apply pw_below_drewN)⟩)
set_option maxHeartbeats 8000000 in
set_option maxRecDepth 100000 in
theorem fold_Split_2.on (k v : Int) (b d : Nat) (w : World) (hb : b < w.heap.size) (hd : d < w.heap.size) (hc : w.cell? ⟨b, 0, none⟩ = some (.int .i64 k)) (he : w.cell? ⟨d, 0, none⟩ = some (.int .i64 v)) : PredOn Try.prog 40 #[.pointer (some ⟨b, 0, none⟩), .pointer (some ⟨d, 0, none⟩)] (fun x => .agg (encMsg x).toArray) (hisB k v) w := fun W x hW => by
  have hu2 := Try.underlying41
  have hc2 : W.cell? ⟨b, 0, none⟩ = some (.int .i64 k) := (hW.cell (p := ⟨b, 0, none⟩) hb).trans hc
  have he2 : W.cell? ⟨d, 0, none⟩ = some (.int .i64 v) := (hW.cell (p := ⟨d, 0, none⟩) hd).trans he
  have hbW : b < W.heap.size := Nat.lt_of_lt_of_le hb hW.size
  have hdW : d < W.heap.size := Nat.lt_of_lt_of_le hd hW.size
  have hne : b ≠ W.heap.size := by omega
  have hne2 : d ≠ W.heap.size := by omega
  clear hc he hb hd hW
  have A := Aside0.mk (owner_ownE x.f1 k)
  have HC : ∀ W : World, Calls Try.prog 41 #[.int .i64 x.f1, .int .i64 k] W fun e w' => e = .returned (.int .i64 (ownE x.f1 k)) ∧ ∃ m, w' = W.drewN m := fun W => (part_Owner.calls x.f1 k (ownE x.f1 k) _ A.out).mono fun e w' ⟨he, ⟨hw⟩⟩ => ⟨he, hw⟩
  show Calls Try.prog 40 #[.agg #[.int .i64 x.f0, .int .i64 x.f1, .int .i64 x.f2], .pointer (some ⟨b, 0, none⟩), .pointer (some ⟨d, 0, none⟩)] W _
  unfold hisB
  generalize ownE x.f1 k = t at HC ⊢
  clear A
  go_enter Try.func40, Try.ntmps40
  go_wp2
  go_quiet ((go_at_call 41; exact Calls.quiet_of (HC _)))
  go_wp2
  all_goals (go_ret; exact ⟨by first | rfl | (simp [*]; done), by repeat (first | exact Below.refl _ _ | apply below_alloc | apply pw_below_drewN)⟩)
set_option maxHeartbeats 16000000 in
set_option maxRecDepth 100000 in
theorem fold_Split.bad (a0 : Int) (A1 : Option Addr) (c1 : Nat) (l1 : List S41) (w : World) (hr1 : Kd.C k41 w A1 l1.length l1) (hl : l1.length < 5864062014805) (h : (decide (a0 < 1) || (decide (a0 > 64) || l1.any negB)) = true) :
    Calls Try.prog 20 #[.int .i64 a0, .slice A1 l1.length c1] w fun e w' => e = .returned (.tuple #[.slice none 0 0, .int .i64 80]) ∧ Below w.heap.size w w' := by
  have eg : ∀ args w, (callFunc 39 args).run Try.prog w = .ok (.enter 39 args) w := enters_of Try.func39 (by kernel_rfl) rfl
  have hb1 : Below w.heap.size w (w.alloc (.cells #[.int .i64 a0] 3)) := below_alloc (Below.refl _ _) _
  have HH := hasMsg.on negB 39 #[] eg A1 c1 l1 _ (Kd.C_below hr1 hb1) (by omega) (fold_Split_1.on _)
  have HB := Aside0.mk hb1
  clear hb1 hr1 hl eg
  by_cases d1 : a0 < 1
  · have e1 : decide (a0 < 1) = true := decide_eq_true d1
    clear h d1 HH
    go_enter Try.func20, Try.ntmps20
    go_wp2
    go_ret2
    exact ⟨rfl, HB.out⟩
  · have e1 : decide (a0 < 1) = false := decide_eq_false d1
    by_cases d2 : a0 > 64
    · have e2 : decide (64 < a0) = true := decide_eq_true d2
      clear h d1 d2 HH
      go_enter Try.func20, Try.ntmps20
      go_wp2
      go_ret2
      exact ⟨rfl, HB.out⟩
    · have e2 : decide (64 < a0) = false := decide_eq_false d2
      have h4 : l1.any negB = true := by simpa [d1, show ¬ (64 < a0) from d2] using h
      rw [h4] at HH
      clear h d1 d2 h4
      go_enter Try.func20, Try.ntmps20
      go_wp2_with (go_at_call 38; refine HH.mono ?_; rintro e w' ⟨rfl, hb⟩; have HB2 := Aside0.mk (HB.out.trans (hb.mono HB.out.size)); clear hb)
      go_ret2
      exact ⟨rfl, HB2.out⟩
theorem below_grown {base g : Nat} {w0 W w1 : World} (HB : Below base w0 W) (hg : W.grownBy w1 (some g)) (hbg : base ≤ g) (hbs : base ≤ W.heap.size) : Below base w0 w1 :=
  HB.trans ⟨hg.os, hg.tape, hg.output, hg.size, fun k hk => hg.block k (by omega) (fun he => by injection he with he; omega)⟩
/-- The first i workers' messages, and none for the others. -/
def hisTo (k : Int) (l : List S41) (n i : Nat) : List (List S41) := (List.range i).map (hisOf k l) ++ List.replicate (n - i) []
theorem hisTo_set (k : Int) (l : List S41) (n i : Nat) (h : i < n) : (hisTo k l n i).set i (hisOf k l i) = hisTo k l n (i + 1) := by
  unfold hisTo
  rw [List.range_succ, List.map_append, List.append_assoc, show n - i = (n - (i + 1)) + 1 by omega, List.replicate_succ, List.set_append_right _ _ (by simp)]
  simp
theorem split_start (n : Nat) (l : List S41) : List.replicate ((n : Int)).toNat ([] : List S41) = hisTo n l n 0 := by
  unfold hisTo
  simp
theorem split_form {e base n : Nat} {w : World} {v : Value} {ok : Nat → Prop} (h : Kd.S (Kd.slice 41 k41) e w base ok v (List.replicate ((n : Int)).toNat [])) (hp : 0 < n) : ∃ g cap, v = .slice (some ⟨g, 0, none⟩) n cap ∧ base ≤ g := by
  obtain ⟨g', cap, e, h1, h2, _⟩ := Kd.S_form h (by simpa using hp)
  exact ⟨g', cap, by simpa using e, h1⟩
theorem split_put {w : World} {base b6 g n cap i : Nat} {xs : List (List S41)} {oki : Nat → Prop} {c : List Value} {v : Value} {r : List S41} (hH : Kd.H (Kd.slice 41 k41) 22 w base (fun _ => True) (.slice (some ⟨g, 0, none⟩) n cap) xs (i : Int) oki c) (hi : i < n) (hcl : c.length = 1) (hr : Kd.R k41 41 w b6 (fun _ => True) v r) (hb : base ≤ b6) (ho : ∀ k, b6 ≤ k → oki k) :
    (∃ u, w.cell? ⟨g, i, none⟩ = some u) ∧ w.frozen? ⟨g, i, none⟩ = false ∧ Kd.S (Kd.slice 41 k41) 22 (w.setCell ⟨g, i, none⟩ v) base (fun _ => True) (.slice (some ⟨g, 0, none⟩) n cap) (xs.set i r) ∧ w.grownBy (w.setCell ⟨g, i, none⟩ v) (some g) := by
  have hc := Kd.H_at hH (by omega) (by omega)
  obtain ⟨u, hu⟩ : ∃ u, c[0]? = some u := ⟨c[0]'(by omega), List.getElem?_eq_getElem _⟩
  have h1 := hc.1 0 u hu
  have h2 := hc.2 0
  have hs := Kd.S_seg0 (seg := [v]) (j := 0) hH (by omega) (by omega) (by show 0 + 1 ≤ 1; omega) (x' := r) (okp := fun k => b6 ≤ k) (by
    obtain ⟨u', rfl⟩ : ∃ u', c = [u'] := List.length_eq_one_iff.1 hcl
    exact ⟨v, rfl, Kd.R_lower (Kd.R_mono (Kd.R_bound hr) (fun k hk => hk.2.1)) hb⟩) (fun k hk => ho k hk)
  rw [Int.toNat_natCast] at h1 h2 hs
  have e : i * (Kd.slice 41 k41).sz + 0 = i := by show i * 1 + 0 = i; omega
  rw [e] at h1 h2 hs
  exact ⟨⟨u, h1⟩, h2, hs.1, hs.2⟩
theorem hisTo_len (k : Int) (l : List S41) (n i : Nat) (h : i ≤ n) : (hisTo k l n i).length = n := by
  unfold hisTo
  simp; omega
set_option maxHeartbeats 16000000 in
set_option maxRecDepth 100000 in
theorem fold_Split.good (a0 : Int) (A1 : Option Addr) (c1 : Nat) (l1 : List S41) (w : World) (hr1 : Kd.C k41 w A1 l1.length l1) (hc1 : l1.length ≤ c1) (hl : l1.length < 5864062014805) (h1 : 1 ≤ a0) (h2 : a0 ≤ 64) (h : l1.any negB = false) :
    Calls Try.prog 20 #[.int .i64 a0, .slice A1 l1.length c1] w fun e w' => ∃ v0_ : Value, e = .returned (.tuple #[v0_, .int .i64 0]) ∧ Kd.S (Kd.slice 41 k41) 22 w' w.heap.size (fun _ => True) v0_ ((List.range a0.toNat).map (hisOf a0 l1)) ∧ Below w.heap.size w w' := by
  have eg : ∀ args w, (callFunc 39 args).run Try.prog w = .ok (.enter 39 args) w := enters_of Try.func39 (by kernel_rfl) rfl
  have hb1 : Below w.heap.size w (w.alloc (.cells #[.int .i64 a0] 3)) := below_alloc (Below.refl _ _) _
  have HH := hasMsg.on negB 39 #[] eg A1 c1 l1 _ (Kd.C_below hr1 hb1) (by omega) (fold_Split_1.on _)
  rw [h] at HH
  have HB := Aside0.mk hb1
  have HR := Aside0.mk hr1
  have HL := Aside0.mk hl
  have HC := Aside0.mk hc1
  have e1 : decide (a0 < 1) = false := decide_eq_false (by omega)
  have e2 : decide (64 < a0) = false := decide_eq_false (by omega)
  obtain ⟨n, rfl⟩ := Int.eq_ofNat_of_zero_le (show 0 ≤ a0 by omega)
  have HN : Aside0 (n ≤ 64) := ⟨by omega⟩
  have HP0 : Aside0 (0 < n) := ⟨by omega⟩
  have HS : ∀ (q : List S41) (W : World) (A : Option Addr) (c : Nat), q.length < 5864062014805 → Kd.C k41 W A q.length q → q.length ≤ c → Calls Try.prog 11 #[.slice A q.length c] W fun e w' => ∃ v0_ : Value, e = .returned (v0_) ∧ Kd.R k41 41 w' W.heap.size (fun _ => True) v0_ (sortMsg q) ∧ Below W.heap.size W w' :=
      fun q W A c hq hr hc => fold_Sort.calls A c q (sortMsg q) W hr hc (by unfold fold_Sort.f; rw [if_pos hq])
  clear hb1 hr1 hl hc1 h1 h2 h eg
  go_enter Try.func20, Try.ntmps20
  go_wp2_with (first
   | (go_at_call 38; refine HH.mono ?_; rintro e w2 ⟨rfl, hb⟩; have hg1 := (hb.cell (p := ⟨w.heap.size, 0, none⟩) (by simp)).trans (show _ = some (.int .i64 (n : Int)) by simp); have HG1 := Aside0.mk hg1; have HB2 := Aside0.mk (HB.out.trans (hb.mono HB.out.size)); have HS2 : Aside0 (w.heap.size < w2.heap.size) := ⟨by have := hb.size; simp at this; omega⟩; clear hb HH HB)
   | ((with_reducible refine gate_dst (N := 19) rfl ?_); refine Kd.S_make (Kd.slice 41 k41) w2.heap.size 22 rfl (N := 19) rfl 34 _ _ rfl (n : Int) rfl rfl Try.underlying34 (.slice none 0 0) 24 info22 rfl (by decide) (by omega) [] (ok := fun _ => True) (okp := fun _ => True) ⟨_, rfl, Kd.R_nil _ _ _ _ _⟩ (fun _ hk => hk) trivial (by omega) (by have := HN.out; omega) (Below.refl _ _) (Nat.le_refl _) ?_; intro v19 w3 hs hb _ hnew; clear hnew; obtain ⟨g', cap, e19, hgb⟩ := split_form hs HP0.out; subst e19; rw [split_start n l1] at hs; have HX0 := Aside0.mk hs; have HB3 := Aside0.mk hb; have HGB := Aside0.mk hgb; clear hs hb hgb))
  go_loopg [22] (n) (fun kq v22 w' => ∃ i : Nat, v22 = .int .i64 (i : Int) ∧ Aside0 (i + kq = n) ∧ Aside0 (Kd.S (Kd.slice 41 k41) 22 w' w2.heap.size (fun _ => True) (.slice (some ⟨g', 0, none⟩) n cap) (hisTo n l1 n i)) ∧ Aside0 (Below w2.heap.size w2 w'))
  case atStart => exact ⟨0, rfl, ⟨by omega⟩, HX0, HB3⟩
  case round =>
    obtain ⟨i, rfl, HI, HO, HBW⟩ := hrel
    by_cases hlt : i < n
    · have d1 : decide ((i : Int) < (n : Int)) = true := decide_eq_true (by omega)
      have d1n : decide (i < n) = true := decide_eq_true hlt
      have p1 : 0 ≤ (i : Int) := by omega
      have q1 : (i : Int) < (n : Int) := by omega
      have hw1 : wrap64 ((i : Int) + 1) = (i : Int) + 1 := by have h2 := HN.out; unfold wrap64; omega
      have hg1 : wr.cell? ⟨w.heap.size, 0, none⟩ = some (.int .i64 (n : Int)) := (HBW.out.cell (p := ⟨w.heap.size, 0, none⟩) HS2.out).trans HG1.out
      have hne : w.heap.size ≠ wr.heap.size := by have := HBW.out.size; have := HS2.out; omega
      have hlw : w.heap.size < wr.heap.size := by have := HBW.out.size; have := HS2.out; omega
      obtain ⟨gk1, rfl⟩ : ∃ m, gk = m + 1 := ⟨gk - 1, by have := HI.out; omega⟩
      have eg2 : ∀ args w, (callFunc 40 args).run Try.prog w = .ok (.enter 40 args) w := enters_of Try.func40 (by kernel_rfl) rfl
      obtain ⟨W4, hW4⟩ : ∃ W4, wr.alloc (.cells #[.int .i64 (i : Int)] 3) = W4 := ⟨_, rfl⟩
      have hb4 : Below wr.heap.size wr W4 := hW4 ▸ below_alloc (Below.refl _ _) _
      have hs4 : W4.heap.size = wr.heap.size + 1 := by rw [← hW4]; simp
      have hk4 : W4.cell? ⟨wr.heap.size, 0, none⟩ = some (.int .i64 (i : Int)) := by rw [← hW4]; simp
      have hbB4 : Below w2.heap.size w2 W4 := HBW.out.trans (hb4.mono HBW.out.size)
      have HP : ∀ W, Below W4.heap.size W4 W → Calls Try.prog 29 #[.slice A1 l1.length c1, .func (.func 40) #[] #[.pointer (some ⟨w.heap.size, 0, none⟩), .pointer (some ⟨wr.heap.size, 0, none⟩)]] W fun e w' => ∃ v0_ : Value, e = .returned v0_ ∧ Kd.R k41 41 w' W.heap.size (fun _ => True) v0_ (l1.filter (hisB n i)) ∧ Below W.heap.size W w' := fun W hW => by
        have hs := hW.size
        exact fold_pick.on (hisB n i) 40 _ eg2 A1 c1 l1 W (Kd.C_below HR.out (HB2.out.trans ((hbB4.trans (hW.mono hbB4.size)).mono HB2.out.size))) HC.out HL.out (fold_Split_2.on n i w.heap.size wr.heap.size W (by omega) (by omega) ((hW.cell (p := ⟨w.heap.size, 0, none⟩) (by simp; omega)).trans ((hb4.cell (p := ⟨w.heap.size, 0, none⟩) hlw).trans hg1)) ((hW.cell (p := ⟨wr.heap.size, 0, none⟩) (by simp; omega)).trans hk4))
      have hgl := Kd.S_lt HO.out g' (by simp [Value.ownBlock])
      have hgl1 : g' ≠ wr.heap.size := by omega
      have hgl2 : wr.heap.size ≠ g' := by omega
      clear hgl
      obtain ⟨oki, c, hcl, _, hcc, _, hH⟩ := Kd.S_lend (Kd.S_below HO.out hb4) [] (i : Int) p1 q1
      have HH4 := Aside0.mk (Kd.H_widen hH)
      have HLF : Aside0 ((l1.filter (hisB n i)).length < 5864062014805) := ⟨by have := List.length_filter_le (hisB n i) l1; have := HL.out; omega⟩
      have HK4 := Aside0.mk hk4
      have HB4 := Aside0.mk hbB4
      have HW4 := Aside0.mk hW4
      have HCL := Aside0.mk hcl
      have HLT := Aside0.mk hlt
      have HSET : Aside0 ((hisTo n l1 n i).set i (sortMsg (l1.filter (hisB n i))) = hisTo n l1 n (i + 1)) := ⟨hisTo_set n l1 n i hlt⟩
      have HS4 := Aside0.mk hs4
      clear hk4 hbB4 hcl hcc hH hb4 hs4 hlt eg2 HO
      rw [← hW4] at HP
      clear hW4
      replace p1 := eq_true p1
      replace q1 := eq_true q1
      go_wp2
      go_region_held3 (fun w' => w'.cell? ⟨wr.heap.size, 0, none⟩ = some (.int .i64 (i : Int))) (first | go_keep | assumption)
        (first
         | (go_at_call 29; refine (HP _ (by repeat (first | exact Below.refl _ _ | apply below_drew1 | apply pw_below_drewN | apply below_drew))).mono ?_; rintro e w5 ⟨v5, rfl, hr, hb⟩; obtain ⟨A5, c5, e5⟩ := Kd.R_slice hr; subst e5; have HR5 := Aside0.mk (Kd.R_reads' hr).2; clear HP hr; rw [HW4.out] at hb; have HB5 := Aside0.mk hb; have hk5 := (hb.cell (p := ⟨wr.heap.size, 0, none⟩) (by have := HS4.out; simp; omega)).trans HK4.out; clear hb)
         | (go_at_call 11; refine (HS _ _ _ _ HLF.out HR5.out.2 HR5.out.1).mono ?_; rintro e w6 ⟨v6, rfl, hr, hb⟩; obtain ⟨A6, c6, e6⟩ := Kd.R_slice hr; subst e6; have hs5 := HB5.out.size; have hb46 : Below W4.heap.size W4 w6 := (below_drew (Below.refl _ _)).trans (HB5.out.trans (hb.mono hs5)); obtain ⟨⟨u6, hu6⟩, hf6, hS6, hg6⟩ := split_put (Kd.H_below HH4.out hb46) HLT.out HCL.out hr (Nat.le_trans HB4.out.size hs5) (fun k hk => .inr ⟨trivial, Nat.le_trans hs5 hk⟩); rw [HSET.out] at hS6; have HS6 := Aside0.mk hS6; have HB6 := Aside0.mk (below_grown (HB4.out.trans (hb46.mono HB4.out.size)) hg6 HGB.out (Nat.le_trans HB4.out.size hb46.size)); have hk6 := (hb.cell (p := ⟨wr.heap.size, 0, none⟩) (by have := HS4.out; have h9 : W4.drew.heap.size = W4.heap.size := rfl; simp; omega)).trans hk5; clear hr hb hb46 hs5 hS6 hg6))
      go_wp2
      go_roundg gk1
      case measure => omega
      case rel => exact ⟨i + 1, by go_num, ⟨by have := HI.out; omega⟩, HS6, HB6⟩
    · have d1 : decide ((i : Int) < (n : Int)) = false := decide_eq_false (by omega)
      have d1n : decide (i < n) = false := decide_eq_false hlt
      have hi : i = n := by have := HI.out; omega
      have HO3 : Aside0 (Kd.S (Kd.slice 41 k41) 22 wr w.heap.size (fun _ => True) (.slice (some ⟨g', 0, none⟩) n cap) ((List.range ((n : Int)).toNat).map (hisOf n l1))) := ⟨by
        have := Kd.S_lower HO.out HB2.out.size
        rw [hi] at this
        unfold hisTo at this
        simpa using this⟩
      clear hi HO HI hlt
      go_wp2
      go_ret2
      exact ⟨_, rfl, HO3.out, HB2.out.trans (HBW.out.mono HB2.out.size)⟩
theorem fold_Split.calls (a0 : Int) (A1 : Option Addr) (c1 : Nat) (l1 : List S41) (r1 : List (List S41)) (r2 : Int) (w : World) (hr1 : Kd.C k41 w A1 l1.length l1) (hc1 : l1.length ≤ c1) (h : fold_Split.f a0 l1 = some (r1, r2)) :
    Calls Try.prog 20 #[.int .i64 a0, .slice A1 l1.length c1] w fun e w' => ∃ v0_ : Value, e = .returned (.tuple #[v0_, .int .i64 r2]) ∧ Kd.S (Kd.slice 41 k41) 22 w' w.heap.size (fun _ => True) v0_ r1 ∧ Below w.heap.size w w' := by
  unfold fold_Split.f at h
  by_cases hl : l1.length < 5864062014805
  · rw [if_pos hl] at h
    by_cases hb : (decide (a0 < 1) || (decide (a0 > 64) || l1.any negB)) = true
    · rw [if_pos hb] at h
      injection h with h
      injection h with e1 e2
      subst e1 e2
      refine (fold_Split.bad a0 A1 c1 l1 w hr1 hl hb).mono ?_
      rintro e w' ⟨he, hw⟩
      exact ⟨_, he, Kd.S_nil _ _ _ _ _, hw⟩
    · rw [if_neg hb] at h
      injection h with h
      injection h with e1 e2
      subst e1 e2
      simp only [Bool.or_eq_true, decide_eq_true_eq, not_or] at hb
      exact fold_Split.good a0 A1 c1 l1 w hr1 hc1 hl (by omega) (by omega) (by simpa using hb.2.2)
  · rw [if_neg hl] at h
    exact absurd h (by simp)
end

/-! ### modillionref08_Less: function 28 -/
def modillionref08_Less.f (a0_0 : Int) (a0_1 : Int) (a0_2 : Int) (a1_0 : Int) (a1_1 : Int) (a1_2 : Int) : Option (Bool) := if a0_1 = a1_1 then (if a0_0 = a1_0 then (some (decide (a0_2 < a1_2))) else (some (decide (a0_0 < a1_0)))) else (some (decide (a0_1 < a1_1)))
set_option maxHeartbeats 8000000 in
set_option maxRecDepth 100000 in
theorem modillionref08_Less.calls (a0_0 : Int) (a0_1 : Int) (a0_2 : Int) (a1_0 : Int) (a1_1 : Int) (a1_2 : Int) (r : Bool) (w : World) (h : modillionref08_Less.f a0_0 a0_1 a0_2 a1_0 a1_1 a1_2 = some r) :
    Calls Try.prog 28 #[.agg #[.int .i64 a0_0, .int .i64 a0_1, .int .i64 a0_2], .agg #[.int .i64 a1_0, .int .i64 a1_1, .int .i64 a1_2]] w fun e w' => e = .returned (.bool r) ∧ Below w.heap.size w w' := by
  have hu41 := Try.underlying41
  have HB := Aside0.mk (Below.refl w.heap.size w)
  have H : (if a0_1 = a1_1 then (if a0_0 = a1_0 then (some (decide (a0_2 < a1_2))) else (some (decide (a0_0 < a1_0)))) else (some (decide (a0_1 < a1_1)))) = some r := h
  clear h
  by_cases c3 : a0_1 = a1_1
  · rw [if_pos c3] at H
    have c3b0 : (a0_1 == a1_1) = true := beq_iff_eq.mpr c3
    have c3b1 : (a0_1 != a1_1) = false := bne_eq_false_iff_eq.mpr c3
    clear c3
    by_cases c4 : a0_0 = a1_0
    · rw [if_pos c4] at H
      have c4b0 : (a0_0 == a1_0) = true := beq_iff_eq.mpr c4
      have c4b1 : (a0_0 != a1_0) = false := bne_eq_false_iff_eq.mpr c4
      clear c4
      obtain rfl := Option.some.inj H
      go_enter Try.func28, Try.ntmps28
      go_wp2_with (first | ((with_reducible refine gate_dst (N := 2) rfl ?_); refine box_event ?hg (N := 2) ?hd (cs := #[.int .i64 a0_0, .int .i64 a0_1, .int .i64 a0_2]) (t := 41) ?hr ?_; (case hd => rfl); (case hg => rfl); (case hr => first | (go_simp; done) | (go_simp; rfl)); intro gb107 hg w5 hbox hb; have n0_ := Aside0.mk (below_step (by repeat (first | (with_reducible first | exact HB.out | apply below_alloc | apply pw_below_drewN | apply below_drew1) | exact HB.out)) hb); have n1_ := Aside0.mk (hbox); have n2_ := Aside0.mk ((by rw [hg]; exact (below_size (by repeat (first | (with_reducible first | exact HB.out | apply below_alloc | apply pw_below_drewN | apply below_drew1) | exact HB.out))) : w.heap.size ≤ gb107)); have n3_ := Aside0.mk ((by rw [hg]; exact (below_size (by repeat (first | (with_reducible first | exact HB.out | apply below_alloc | apply pw_below_drewN | apply below_drew1) | exact HB.out))) : w.heap.size ≤ gb107)); clear HB; have HB := n0_; have BK107 := n1_; have GW107 := n2_; have GE107 := n3_; clear n0_ n1_ n2_ n3_; clear hb hbox hg) | ((with_reducible refine gate_dst (N := 3) rfl ?_); refine box_event ?hg (N := 3) ?hd (cs := #[.int .i64 a1_0, .int .i64 a1_1, .int .i64 a1_2]) (t := 41) ?hr ?_; (case hd => rfl); (case hg => rfl); (case hr => first | (go_simp; done) | (go_simp; rfl)); intro gb108 hg w6 hbox hb; have n0_ := Aside0.mk (blk_below (g := gb107) (o := .cells #[.int .i64 a0_0, .int .i64 a0_1, .int .i64 a0_2] 41 (0, 0)) (by (with_reducible repeat (first | refine blk_drewN ?_ _ | refine blk_drew ?_ | refine blk_alloc ?_ _)); exact BK107.out) hb); have n1_ := Aside0.mk (below_step (by repeat (first | (with_reducible first | exact HB.out | apply below_alloc | apply pw_below_drewN | apply below_drew1 | refine below_set ?_ GE107.out) | exact HB.out)) hb); have n2_ := Aside0.mk (hbox); have n3_ := Aside0.mk ((by rw [hg]; exact (below_size (by repeat (first | (with_reducible first | exact HB.out | apply below_alloc | apply pw_below_drewN | apply below_drew1 | refine below_set ?_ GE107.out) | exact HB.out))) : w.heap.size ≤ gb108)); have n4_ := Aside0.mk ((by rw [hg]; exact (below_size (by repeat (first | (with_reducible first | exact HB.out | apply below_alloc | apply pw_below_drewN | apply below_drew1 | refine below_set ?_ GE107.out) | exact HB.out))) : w.heap.size ≤ gb108)); have n5_ := Aside0.mk ((by rw [hg]; exact Nat.ne_of_lt (blk_lt (g := gb107) (o := .cells #[.int .i64 a0_0, .int .i64 a0_1, .int .i64 a0_2] 41 (0, 0)) (by (with_reducible repeat (first | refine blk_drewN ?_ _ | refine blk_drew ?_ | refine blk_alloc ?_ _)); exact BK107.out)) : gb107 ≠ gb108)); have n6_ := Aside0.mk ((by rw [hg]; exact Nat.ne_of_gt (blk_lt (g := gb107) (o := .cells #[.int .i64 a0_0, .int .i64 a0_1, .int .i64 a0_2] 41 (0, 0)) (by (with_reducible repeat (first | refine blk_drewN ?_ _ | refine blk_drew ?_ | refine blk_alloc ?_ _)); exact BK107.out)) : gb108 ≠ gb107)); clear BK107; clear HB; have BK107 := n0_; have HB := n1_; have BK108 := n2_; have GW108 := n3_; have GE108 := n4_; have NB107_108 := n5_; have NB108_107 := n6_; clear n0_ n1_ n2_ n3_ n4_ n5_ n6_; clear hb hbox hg; have hnb7 := NB107_108.out; have hnc7 := NB108_107.out; have hcz8_0 : w6.cell? ⟨gb107, 0, none⟩ = some (.int .i64 a0_0) := (blk_cell BK107.out 0).trans rfl; have hcz8_1 : w6.cell? ⟨gb107, 1, none⟩ = some (.int .i64 a0_1) := (blk_cell BK107.out 1).trans rfl; have hcz8_2 : w6.cell? ⟨gb107, 2, none⟩ = some (.int .i64 a0_2) := (blk_cell BK107.out 2).trans rfl; have hfz8_0 := blk_frozen BK107.out 0; have hfz8_1 := blk_frozen BK107.out 1; have hfz8_2 := blk_frozen BK107.out 2; have hcz9_0 : w6.cell? ⟨gb108, 0, none⟩ = some (.int .i64 a1_0) := (blk_cell BK108.out 0).trans rfl; have hcz9_1 : w6.cell? ⟨gb108, 1, none⟩ = some (.int .i64 a1_1) := (blk_cell BK108.out 1).trans rfl; have hcz9_2 : w6.cell? ⟨gb108, 2, none⟩ = some (.int .i64 a1_2) := (blk_cell BK108.out 2).trans rfl; have hfz9_0 := blk_frozen BK108.out 0; have hfz9_1 := blk_frozen BK108.out 1; have hfz9_2 := blk_frozen BK108.out 2))
      go_ret
      exact ⟨by first | rfl | (simp [errW_none, errW_some] <;> rfl) | (simp [*, errW_none, errW_some] <;> rfl), by repeat (first | (with_reducible first | exact HB.out | apply below_alloc | apply pw_below_drewN | apply below_drew1 | refine below_set ?_ GE107.out | refine below_set ?_ GE108.out) | exact HB.out)⟩
    · rw [if_neg c4] at H
      have c4b0 : (a0_0 == a1_0) = false := beq_eq_false_iff_ne.mpr c4
      have c4b1 : (a0_0 != a1_0) = true := bne_iff_ne.mpr c4
      obtain rfl := Option.some.inj H
      go_enter Try.func28, Try.ntmps28
      go_wp2_with (first | ((with_reducible refine gate_dst (N := 2) rfl ?_); refine box_event ?hg (N := 2) ?hd (cs := #[.int .i64 a0_0, .int .i64 a0_1, .int .i64 a0_2]) (t := 41) ?hr ?_; (case hd => rfl); (case hg => rfl); (case hr => first | (go_simp; done) | (go_simp; rfl)); intro gb107 hg w10 hbox hb; have n0_ := Aside0.mk (below_step (by repeat (first | (with_reducible first | exact HB.out | apply below_alloc | apply pw_below_drewN | apply below_drew1) | exact HB.out)) hb); have n1_ := Aside0.mk (hbox); have n2_ := Aside0.mk ((by rw [hg]; exact (below_size (by repeat (first | (with_reducible first | exact HB.out | apply below_alloc | apply pw_below_drewN | apply below_drew1) | exact HB.out))) : w.heap.size ≤ gb107)); have n3_ := Aside0.mk ((by rw [hg]; exact (below_size (by repeat (first | (with_reducible first | exact HB.out | apply below_alloc | apply pw_below_drewN | apply below_drew1) | exact HB.out))) : w.heap.size ≤ gb107)); clear HB; have HB := n0_; have BK107 := n1_; have GW107 := n2_; have GE107 := n3_; clear n0_ n1_ n2_ n3_; clear hb hbox hg) | ((with_reducible refine gate_dst (N := 3) rfl ?_); refine box_event ?hg (N := 3) ?hd (cs := #[.int .i64 a1_0, .int .i64 a1_1, .int .i64 a1_2]) (t := 41) ?hr ?_; (case hd => rfl); (case hg => rfl); (case hr => first | (go_simp; done) | (go_simp; rfl)); intro gb108 hg w11 hbox hb; have n0_ := Aside0.mk (blk_below (g := gb107) (o := .cells #[.int .i64 a0_0, .int .i64 a0_1, .int .i64 a0_2] 41 (0, 0)) (by (with_reducible repeat (first | refine blk_drewN ?_ _ | refine blk_drew ?_ | refine blk_alloc ?_ _)); exact BK107.out) hb); have n1_ := Aside0.mk (below_step (by repeat (first | (with_reducible first | exact HB.out | apply below_alloc | apply pw_below_drewN | apply below_drew1 | refine below_set ?_ GE107.out) | exact HB.out)) hb); have n2_ := Aside0.mk (hbox); have n3_ := Aside0.mk ((by rw [hg]; exact (below_size (by repeat (first | (with_reducible first | exact HB.out | apply below_alloc | apply pw_below_drewN | apply below_drew1 | refine below_set ?_ GE107.out) | exact HB.out))) : w.heap.size ≤ gb108)); have n4_ := Aside0.mk ((by rw [hg]; exact (below_size (by repeat (first | (with_reducible first | exact HB.out | apply below_alloc | apply pw_below_drewN | apply below_drew1 | refine below_set ?_ GE107.out) | exact HB.out))) : w.heap.size ≤ gb108)); have n5_ := Aside0.mk ((by rw [hg]; exact Nat.ne_of_lt (blk_lt (g := gb107) (o := .cells #[.int .i64 a0_0, .int .i64 a0_1, .int .i64 a0_2] 41 (0, 0)) (by (with_reducible repeat (first | refine blk_drewN ?_ _ | refine blk_drew ?_ | refine blk_alloc ?_ _)); exact BK107.out)) : gb107 ≠ gb108)); have n6_ := Aside0.mk ((by rw [hg]; exact Nat.ne_of_gt (blk_lt (g := gb107) (o := .cells #[.int .i64 a0_0, .int .i64 a0_1, .int .i64 a0_2] 41 (0, 0)) (by (with_reducible repeat (first | refine blk_drewN ?_ _ | refine blk_drew ?_ | refine blk_alloc ?_ _)); exact BK107.out)) : gb108 ≠ gb107)); clear BK107; clear HB; have BK107 := n0_; have HB := n1_; have BK108 := n2_; have GW108 := n3_; have GE108 := n4_; have NB107_108 := n5_; have NB108_107 := n6_; clear n0_ n1_ n2_ n3_ n4_ n5_ n6_; clear hb hbox hg; have hnb12 := NB107_108.out; have hnc12 := NB108_107.out; have hcz13_0 : w11.cell? ⟨gb107, 0, none⟩ = some (.int .i64 a0_0) := (blk_cell BK107.out 0).trans rfl; have hcz13_1 : w11.cell? ⟨gb107, 1, none⟩ = some (.int .i64 a0_1) := (blk_cell BK107.out 1).trans rfl; have hcz13_2 : w11.cell? ⟨gb107, 2, none⟩ = some (.int .i64 a0_2) := (blk_cell BK107.out 2).trans rfl; have hfz13_0 := blk_frozen BK107.out 0; have hfz13_1 := blk_frozen BK107.out 1; have hfz13_2 := blk_frozen BK107.out 2; have hcz14_0 : w11.cell? ⟨gb108, 0, none⟩ = some (.int .i64 a1_0) := (blk_cell BK108.out 0).trans rfl; have hcz14_1 : w11.cell? ⟨gb108, 1, none⟩ = some (.int .i64 a1_1) := (blk_cell BK108.out 1).trans rfl; have hcz14_2 : w11.cell? ⟨gb108, 2, none⟩ = some (.int .i64 a1_2) := (blk_cell BK108.out 2).trans rfl; have hfz14_0 := blk_frozen BK108.out 0; have hfz14_1 := blk_frozen BK108.out 1; have hfz14_2 := blk_frozen BK108.out 2))
      go_ret
      exact ⟨by first | rfl | (simp [errW_none, errW_some] <;> rfl) | (simp [*, errW_none, errW_some] <;> rfl), by repeat (first | (with_reducible first | exact HB.out | apply below_alloc | apply pw_below_drewN | apply below_drew1 | refine below_set ?_ GE107.out | refine below_set ?_ GE108.out) | exact HB.out)⟩
  · rw [if_neg c3] at H
    have c3b0 : (a0_1 == a1_1) = false := beq_eq_false_iff_ne.mpr c3
    have c3b1 : (a0_1 != a1_1) = true := bne_iff_ne.mpr c3
    obtain rfl := Option.some.inj H
    go_enter Try.func28, Try.ntmps28
    go_wp2_with (first | ((with_reducible refine gate_dst (N := 2) rfl ?_); refine box_event ?hg (N := 2) ?hd (cs := #[.int .i64 a0_0, .int .i64 a0_1, .int .i64 a0_2]) (t := 41) ?hr ?_; (case hd => rfl); (case hg => rfl); (case hr => first | (go_simp; done) | (go_simp; rfl)); intro gb107 hg w15 hbox hb; have n0_ := Aside0.mk (below_step (by repeat (first | (with_reducible first | exact HB.out | apply below_alloc | apply pw_below_drewN | apply below_drew1) | exact HB.out)) hb); have n1_ := Aside0.mk (hbox); have n2_ := Aside0.mk ((by rw [hg]; exact (below_size (by repeat (first | (with_reducible first | exact HB.out | apply below_alloc | apply pw_below_drewN | apply below_drew1) | exact HB.out))) : w.heap.size ≤ gb107)); have n3_ := Aside0.mk ((by rw [hg]; exact (below_size (by repeat (first | (with_reducible first | exact HB.out | apply below_alloc | apply pw_below_drewN | apply below_drew1) | exact HB.out))) : w.heap.size ≤ gb107)); clear HB; have HB := n0_; have BK107 := n1_; have GW107 := n2_; have GE107 := n3_; clear n0_ n1_ n2_ n3_; clear hb hbox hg) | ((with_reducible refine gate_dst (N := 3) rfl ?_); refine box_event ?hg (N := 3) ?hd (cs := #[.int .i64 a1_0, .int .i64 a1_1, .int .i64 a1_2]) (t := 41) ?hr ?_; (case hd => rfl); (case hg => rfl); (case hr => first | (go_simp; done) | (go_simp; rfl)); intro gb108 hg w16 hbox hb; have n0_ := Aside0.mk (blk_below (g := gb107) (o := .cells #[.int .i64 a0_0, .int .i64 a0_1, .int .i64 a0_2] 41 (0, 0)) (by (with_reducible repeat (first | refine blk_drewN ?_ _ | refine blk_drew ?_ | refine blk_alloc ?_ _)); exact BK107.out) hb); have n1_ := Aside0.mk (below_step (by repeat (first | (with_reducible first | exact HB.out | apply below_alloc | apply pw_below_drewN | apply below_drew1 | refine below_set ?_ GE107.out) | exact HB.out)) hb); have n2_ := Aside0.mk (hbox); have n3_ := Aside0.mk ((by rw [hg]; exact (below_size (by repeat (first | (with_reducible first | exact HB.out | apply below_alloc | apply pw_below_drewN | apply below_drew1 | refine below_set ?_ GE107.out) | exact HB.out))) : w.heap.size ≤ gb108)); have n4_ := Aside0.mk ((by rw [hg]; exact (below_size (by repeat (first | (with_reducible first | exact HB.out | apply below_alloc | apply pw_below_drewN | apply below_drew1 | refine below_set ?_ GE107.out) | exact HB.out))) : w.heap.size ≤ gb108)); have n5_ := Aside0.mk ((by rw [hg]; exact Nat.ne_of_lt (blk_lt (g := gb107) (o := .cells #[.int .i64 a0_0, .int .i64 a0_1, .int .i64 a0_2] 41 (0, 0)) (by (with_reducible repeat (first | refine blk_drewN ?_ _ | refine blk_drew ?_ | refine blk_alloc ?_ _)); exact BK107.out)) : gb107 ≠ gb108)); have n6_ := Aside0.mk ((by rw [hg]; exact Nat.ne_of_gt (blk_lt (g := gb107) (o := .cells #[.int .i64 a0_0, .int .i64 a0_1, .int .i64 a0_2] 41 (0, 0)) (by (with_reducible repeat (first | refine blk_drewN ?_ _ | refine blk_drew ?_ | refine blk_alloc ?_ _)); exact BK107.out)) : gb108 ≠ gb107)); clear BK107; clear HB; have BK107 := n0_; have HB := n1_; have BK108 := n2_; have GW108 := n3_; have GE108 := n4_; have NB107_108 := n5_; have NB108_107 := n6_; clear n0_ n1_ n2_ n3_ n4_ n5_ n6_; clear hb hbox hg; have hnb17 := NB107_108.out; have hnc17 := NB108_107.out; have hcz18_0 : w16.cell? ⟨gb107, 0, none⟩ = some (.int .i64 a0_0) := (blk_cell BK107.out 0).trans rfl; have hcz18_1 : w16.cell? ⟨gb107, 1, none⟩ = some (.int .i64 a0_1) := (blk_cell BK107.out 1).trans rfl; have hcz18_2 : w16.cell? ⟨gb107, 2, none⟩ = some (.int .i64 a0_2) := (blk_cell BK107.out 2).trans rfl; have hfz18_0 := blk_frozen BK107.out 0; have hfz18_1 := blk_frozen BK107.out 1; have hfz18_2 := blk_frozen BK107.out 2; have hcz19_0 : w16.cell? ⟨gb108, 0, none⟩ = some (.int .i64 a1_0) := (blk_cell BK108.out 0).trans rfl; have hcz19_1 : w16.cell? ⟨gb108, 1, none⟩ = some (.int .i64 a1_1) := (blk_cell BK108.out 1).trans rfl; have hcz19_2 : w16.cell? ⟨gb108, 2, none⟩ = some (.int .i64 a1_2) := (blk_cell BK108.out 2).trans rfl; have hfz19_0 := blk_frozen BK108.out 0; have hfz19_1 := blk_frozen BK108.out 1; have hfz19_2 := blk_frozen BK108.out 2))
    go_ret
    exact ⟨by first | rfl | (simp [errW_none, errW_some] <;> rfl) | (simp [*, errW_none, errW_some] <;> rfl), by repeat (first | (with_reducible first | exact HB.out | apply below_alloc | apply pw_below_drewN | apply below_drew1 | refine below_set ?_ GE107.out | refine below_set ?_ GE108.out) | exact HB.out)⟩

/-! ### modillionref08_Sort: function 13 (given) -/
/-- Where a message is put: ahead of the first that is behind it. -/
def posMsg (x : S41) : List S41 → Nat
  | [] => 0
  | y :: l => if ltMsg x y = true then 0 else posMsg x l + 1
def insMsg (x : S41) (o : List S41) : List S41 := o.take (posMsg x o) ++ [x] ++ o.drop (posMsg x o)
def insAll : List S41 → List S41 → List S41
  | o, [] => o
  | o, x :: l => insAll (insMsg x o) l
def modillionref08_Sort.f (l0 : List S41) : Option (List S41) := if l0.length < 5864062014805 then some (insAll [] l0) else none
theorem posMsg_le (x : S41) : ∀ o, posMsg x o ≤ o.length
  | [] => Nat.le_refl _
  | y :: l => by
    unfold posMsg
    split
    · omega
    · have := posMsg_le x l; simp; omega
theorem insMsg_len (x : S41) (o : List S41) : (insMsg x o).length = o.length + 1 := by
  have := posMsg_le x o
  unfold insMsg
  simp; omega
theorem refLess_f (x y : S41) : modillionref08_Less.f x.f0 x.f1 x.f2 y.f0 y.f1 y.f2 = some (ltMsg x y) := by
  have h1 := ltMsg_iff x y
  unfold modillionref08_Less.f
  cases hb : ltMsg x y with
  | true =>
    have h2 := h1.1 hb
    split
    · split
      · rw [decide_eq_true (by omega)]
      · rw [decide_eq_true (by omega)]
    · rw [decide_eq_true (by omega)]
  | false =>
    have h2 := mt h1.2 (by rw [hb]; decide)
    split
    · split
      · rw [decide_eq_false (by omega)]
      · rw [decide_eq_false (by omega)]
    · rw [decide_eq_false (by omega)]
theorem pos_step (x y : S41) (o : List S41) (j : Nat) (h : o[j]? = some y) : posMsg x (o.drop j) = if ltMsg x y = true then 0 else posMsg x (o.drop (j + 1)) + 1 := by
  have hj := (List.getElem?_eq_some_iff.1 h).1
  rw [List.drop_eq_getElem_cons hj, (List.getElem?_eq_some_iff.1 h).2]
  rfl
section
open Go.Sort Go.Shelf Go.Proofs.Ytgdkemgilmfkfaa.Bridge
theorem msg_at {W : World} {A : Option Addr} {l : List S41} {x : S41} {i : Nat} (h : Kd.C k41 W A l.length l) (hi : l[i]? = some x) : ∃ ad, A = some ad ∧ W.cell? (ad.add (i * 3)) = some (.int .i64 x.f0) ∧ W.cell? ⟨(ad.add (i * 3)).block, (ad.add (i * 3)).off + 1, none⟩ = some (.int .i64 x.f1) ∧ W.cell? ⟨(ad.add (i * 3)).block, (ad.add (i * 3)).off + 2, none⟩ = some (.int .i64 x.f2) := by
  have hl := (List.getElem?_eq_some_iff.1 hi).1
  obtain ⟨ad, e, h0, h1, h2⟩ := at_T41 h (i : Int) (by omega) (by omega)
  rw [rd_msg l i hl, (List.getElem?_eq_some_iff.1 hi).2, Int.toNat_natCast] at h0 h1 h2
  exact ⟨ad, e, h0, h1, h2⟩
theorem R_empty {w : World} {base b : Nat} (h : w.heap[b]? = some (.cells #[] 41 (0, 0))) (hb : base ≤ b) : Kd.R k41 41 w base (fun _ => True) (.slice (some ⟨b, 0, none⟩) 0 0) [] :=
  ⟨fun _ _ => trivial, [], ⟨rfl, .inr ⟨b, 0, #[], rfl, hb, h, Nat.le_refl _, by unfold maxLen; omega, rfl, rfl⟩⟩, (Kd.R_nil k41 41 w base (fun _ => True)).2.elim (fun i hi => by have := hi.1.1; cases i with | nil => exact hi.2 | cons _ _ => simp at this)⟩
theorem C_one {w : World} {b : Nat} {x : S41} (h : w.heap[b]? = some (.cells #[.int .i64 x.f0, .int .i64 x.f1, .int .i64 x.f2] 41 (0, 0))) : Kd.C k41 w (some ⟨b, 0, none⟩) 1 [x] := by
  refine ⟨rfl, by omega, fun _ => ⟨_, rfl, fun j p hj => ?_⟩⟩
  have hj0 : j = 0 := by have := (List.getElem?_eq_some_iff.1 hj).1; simp at this; exact this
  subst hj0
  obtain rfl : x = p := by simpa using hj
  refine ⟨_, rfl, k41_mk _ x, fun i u hu => ?_⟩
  rw [add_plain]
  rcases i with _ | _ | _ | i
  · obtain rfl := Option.some.inj hu; simp [World.cell?, h]
  · obtain rfl := Option.some.inj hu; simp [World.cell?, h]
  · obtain rfl := Option.some.inj hu; simp [World.cell?, h]
  · cases hu
set_option maxHeartbeats 16000000 in
set_option maxRecDepth 100000 in
theorem modillionref08_Sort.calls (A0 : Option Addr) (c0 : Nat) (l0 : List S41) (r : List S41) (w : World) (hr0 : Kd.C k41 w A0 l0.length l0) (hc0 : l0.length ≤ c0) (h : modillionref08_Sort.f l0 = some r) :
    Calls Try.prog 13 #[.slice A0 l0.length c0] w fun e w' => ∃ v0_ : Value, e = .returned (v0_) ∧ Kd.R k41 41 w' w.heap.size (fun _ => True) v0_ r ∧ Below w.heap.size w w' := by
  unfold modillionref08_Sort.f at h
  by_cases hl : l0.length < 5864062014805
  · rw [if_pos hl] at h
    have HQ0 := Aside0.mk (Option.some.inj h)
    have HR := Aside0.mk hr0
    have HC := Aside0.mk hc0
    have HL := Aside0.mk hl
    have hu2 := Try.underlying41
    clear hr0 hc0 hl h
    go_enter Try.func13, Try.ntmps13
    go_wp2
    go_loopg [3, 4] (l0.length) (fun kq v3 v4 w' => ∃ (i : Nat) (o : List S41), v4 = .int .i64 (i : Int) ∧ Aside0 (i + kq = l0.length) ∧ Aside0 (o.length = i) ∧ Aside0 (insAll o (l0.drop i) = r) ∧ Aside0 (Kd.R k41 41 w' w.heap.size (fun _ => True) v3 o) ∧ Aside0 (Below w.heap.size w w'))
    case atStart => exact ⟨0, [], rfl, ⟨by omega⟩, ⟨rfl⟩, HQ0, ⟨R_empty (Go.heap_alloc_new w _) (Nat.le_refl _)⟩, ⟨below_alloc (Below.refl _ _) _⟩⟩
    case round =>
      obtain ⟨i, o, rfl, HI, HOL, HQ, HO, HB⟩ := hrel
      by_cases hlt : i < l0.length
      · have d1 : decide ((i : Int) < (l0.length : Int)) = true := decide_eq_true (by omega)
        have d1n : decide (i < l0.length) = true := decide_eq_true hlt
        have p1 : 0 ≤ (i : Int) := by omega
        have q1 : (i : Int) < (l0.length : Int) := by omega
        have hw1 : wrap64 ((i : Int) + 1) = (i : Int) + 1 := by have h1 := HL.out; unfold wrap64; omega
        obtain ⟨gk1, rfl⟩ : ∃ m, gk = m + 1 := ⟨gk - 1, by have := HI.out; omega⟩
        obtain ⟨x, hx⟩ : ∃ x, l0[i]? = some x := ⟨_, List.getElem?_eq_getElem hlt⟩
        have HX := Aside0.mk hx
        have HQ2 : Aside0 (insAll (insMsg x o) (l0.drop (i + 1)) = r) := ⟨by have := HQ.out; rw [List.drop_eq_getElem_cons hlt, (List.getElem?_eq_some_iff.1 hx).2] at this; exact this⟩
        have HLT := Aside0.mk hlt
        obtain ⟨A3, c3, e3⟩ := Kd.R_slice HO.out
        subst e3
        have hcx : ∀ W : World, ∃ m, True := fun _ => ⟨0, trivial⟩
        have HLS : ∀ (W : World) (y : S41), Calls Try.prog 28 #[.agg #[.int .i64 x.f0, .int .i64 x.f1, .int .i64 x.f2], .agg #[.int .i64 y.f0, .int .i64 y.f1, .int .i64 y.f2]] W fun e w' => e = .returned (.bool (ltMsg x y)) ∧ Below W.heap.size W w' := fun W y => modillionref08_Less.calls x.f0 x.f1 x.f2 y.f0 y.f1 y.f2 (ltMsg x y) W (refLess_f x y)
        clear hx hcx hlt HQ
        go_wp2
        go_loopg [5] (o.length) (fun kq v5 w' => ∃ (j : Nat), v5 = .int .i64 (j : Int) ∧ Aside0 (j + kq = o.length) ∧ Aside0 (posMsg x o = j + posMsg x (o.drop j)) ∧ Aside0 (Kd.R k41 41 w' w.heap.size (fun _ => True) (.slice A3 o.length c3) o) ∧ Aside0 (Below w.heap.size w w'))
        case atStart => exact ⟨0, rfl, ⟨by omega⟩, ⟨by simp⟩, HO, HB⟩
        case round =>
          clear HO HB
          obtain ⟨j, rfl, HJ, HP, HO, HB⟩ := hrel
          by_cases hjl : j < o.length
          · have e1 : decide ((j : Int) < (o.length : Int)) = true := decide_eq_true (by omega)
            have e1n : decide (j < o.length) = true := decide_eq_true hjl
            have t1 : 0 ≤ (j : Int) := by omega
            have t2 : (j : Int) < (o.length : Int) := by omega
            obtain ⟨y, hy⟩ : ∃ y, o[j]? = some y := ⟨_, List.getElem?_eq_getElem hjl⟩
            obtain ⟨ax, ex, x0, x1, x2⟩ := msg_at (Kd.C_below HR.out HB.out) HX.out
            obtain ⟨ay, ey, y0, y1, y2⟩ := msg_at (Kd.R_reads' HO.out).2.2 hy
            subst ex ey
            have HP2 := Aside0.mk (HP.out.trans (congrArg (j + ·) (pos_step x y o j hy)))
            obtain ⟨gk2, rfl⟩ : ∃ m, gk = m + 1 := ⟨gk - 1, by have := HJ.out; omega⟩
            have hw2 : wrap64 ((j : Int) + 1) = (j : Int) + 1 := by have h1 := HL.out; have h2 := HLT.out; have h3 := HOL.out; unfold wrap64; omega
            have b0 := World.block_lt_of_cell? _ _ x0
            have b1 := World.block_lt_of_cell? _ _ x1
            have b2 := World.block_lt_of_cell? _ _ x2
            have b3 := World.block_lt_of_cell? _ _ y0
            have b4 := World.block_lt_of_cell? _ _ y1
            have b5 := World.block_lt_of_cell? _ _ y2
            clear hy hjl HP
            cases hb : ltMsg x y with
            | true =>
              rw [hb] at HP2
              have hcall := fun W => HLS W y
              rw [hb] at hcall
              go_wp2
              go_region_held3 (fun w' => w'.cell? (ax.add (i * 3)) = some (.int .i64 x.f0) ∧ w'.cell? ⟨(ax.add (i * 3)).block, (ax.add (i * 3)).off + 1, none⟩ = some (.int .i64 x.f1) ∧ w'.cell? ⟨(ax.add (i * 3)).block, (ax.add (i * 3)).off + 2, none⟩ = some (.int .i64 x.f2) ∧ w'.cell? (ay.add (j * 3)) = some (.int .i64 y.f0) ∧ w'.cell? ⟨(ay.add (j * 3)).block, (ay.add (j * 3)).off + 1, none⟩ = some (.int .i64 y.f1) ∧ w'.cell? ⟨(ay.add (j * 3)).block, (ay.add (j * 3)).off + 2, none⟩ = some (.int .i64 y.f2)) (first | exact ⟨x0, x1, x2, y0, y1, y2⟩ | exact ⟨z0, z1, z2, z3, z4, z5⟩ | go_keep)
                (first
                 | (go_at_call 28; refine (hcall _).mono ?_; rintro e w5 ⟨rfl, hb5⟩; have z0 := (hb5.cell (p := (ax.add (i * 3))) b0).trans x0; have z1 := (hb5.cell (p := ⟨(ax.add (i * 3)).block, (ax.add (i * 3)).off + 1, none⟩) b1).trans x1; have z2 := (hb5.cell (p := ⟨(ax.add (i * 3)).block, (ax.add (i * 3)).off + 2, none⟩) b2).trans x2; have z3 := (hb5.cell (p := (ay.add (j * 3))) b3).trans y0; have z4 := (hb5.cell (p := ⟨(ay.add (j * 3)).block, (ay.add (j * 3)).off + 1, none⟩) b4).trans y1; have z5 := (hb5.cell (p := ⟨(ay.add (j * 3)).block, (ay.add (j * 3)).off + 2, none⟩) b5).trans y2; have HB5 := Aside0.mk (HB.out.trans (((below_drew (Below.refl _ _)).trans hb5).mono HB.out.size)); have HO5 := Aside0.mk (Kd.R_below (Kd.R_drew HO.out) hb5); clear hb5))
              have HPJ : Aside0 (posMsg x o = j) := ⟨by have := HP2.out; simpa using this⟩
              clear HO HB x0 x1 x2 y0 y1 y2 z3 z4 z5 HP2 hcall b0 b1 b2 b3 b4 b5 hb
              obtain ⟨x0, x1, x2⟩ := And.intro z0 (And.intro z1 z2)
              have HO := HO5
              have HB := HB5
              clear z0 z1 z2 HO5 HB5
              have b0 := World.block_lt_of_cell? _ _ x0
              have b1 := World.block_lt_of_cell? _ _ x1
              have b2 := World.block_lt_of_cell? _ _ x2
              generalize w5 = wz at *
              obtain ⟨ti, hti, _, hsz, _⟩ := info_parts info41
              have hoc : o.length ≤ c3 := (Kd.R_reads' HO.out).2.1
              have hjo : j ≤ o.length := by have := HJ.out; omega
              have hcut := cut_to (P := Try.prog) 22 41 .i64 Try.underlying22 hti (some ay) o.length c3 (j : Int) (by omega) (by omega) hoc
              have hcuf := cut_from (P := Try.prog) 22 41 .i64 Try.underlying22 hti 3 hsz (some ay) o.length c3 (j : Int) (by omega) (by omega)
              rw [Int.toNat_natCast] at hcut hcuf
              have hdr := Kd.C_drop (Kd.R_reads' HO.out).2.2 hjo hoc
              have htk := Kd.C_take (Kd.R_reads' HO.out).2.2 hjo
              rw [List.length_take, Nat.min_eq_left hjo] at htk
              rw [List.length_drop] at hdr
              change Kd.C k41 wz (if c3 = j then (some ay) else ((some ay) : Option Addr).map (·.add (j * 3))) (o.length - j) (o.drop j) at hdr
              obtain ⟨AD, hAD⟩ : ∃ AD, (if c3 = j then (some ay) else ((some ay) : Option Addr).map (·.add (j * 3))) = AD := ⟨_, rfl⟩
              rw [hAD] at hcuf hdr
              have HTK := Aside0.mk htk
              have HDR := Aside0.mk hdr
              have HBD : Aside0 (o.length + 1 < 5864062014805 ∧ j ≤ o.length) := ⟨⟨by have h1 := HL.out; have h2 := HLT.out; have h3 := HOL.out; omega, hjo⟩⟩
              clear hdr htk hAD hti hsz hoc hjo
              go_wp2
              go_region_held3 (fun w' => w'.cell? (ax.add (i * 3)) = some (.int .i64 x.f0) ∧ w'.cell? ⟨(ax.add (i * 3)).block, (ax.add (i * 3)).off + 1, none⟩ = some (.int .i64 x.f1) ∧ w'.cell? ⟨(ax.add (i * 3)).block, (ax.add (i * 3)).off + 2, none⟩ = some (.int .i64 x.f2)) (first | exact ⟨zc70, zc71, zc72⟩ | exact ⟨zc60, zc61, zc62⟩ | exact ⟨zc40, zc41, zc42⟩ | go_keep)
                (first
                 | (refine Kd.R_append_rows_step k41 (w0 := wz) wz.heap.size (by rfl) (.tmp 31) (.tmp 34) 22 41 (.agg #[(.int .i64 0), (.int .i64 0), (.int .i64 0)]) 24 (by rfl) Try.underlying22 info41 rfl (by decide) (by omega) (.slice (some ⟨wz.heap.size, 0, none⟩) 0 0) [] (o.take j) (some ay) j c3 (fun _ => True) (fun _ => False) (by rfl) (by rfl) (R_empty (Go.heap_alloc_new wz.drew _) (Nat.le_refl _)) (Kd.C_below HTK.out (by repeat (first | exact Below.refl _ _ | apply below_alloc | apply pw_below_drewN | apply below_drew1 | apply below_drew))) (fun _ _ h => h) (fun _ h => h.elim) (fun _ _ => trivial) (by repeat (first | exact Below.refl _ _ | apply below_alloc | apply pw_below_drewN | apply below_drew1 | apply below_drew)) (by simp <;> omega) (by have := HBD.out; simp; omega) ?_; intro v35 w4 hr4 hb4 hg4 _; (simp only [List.nil_append] at hr4); have HR4 := Aside0.mk hr4; have HB4 := Aside0.mk hb4; have zc40 := (hb4.cell (p := (ax.add (i * 3))) b0).trans x0; have zc41 := (hb4.cell (p := ⟨(ax.add (i * 3)).block, (ax.add (i * 3)).off + 1, none⟩) b1).trans x1; have zc42 := (hb4.cell (p := ⟨(ax.add (i * 3)).block, (ax.add (i * 3)).off + 2, none⟩) b2).trans x2; clear hr4 hb4 hg4)
                 | (refine Kd.R_append_rows_step k41 (w0 := wz) wz.heap.size (by rfl) (.tmp 31) (.tmp 34) 22 41 (.agg #[(.int .i64 0), (.int .i64 0), (.int .i64 0)]) 24 (by rfl) Try.underlying22 info41 rfl (by decide) (by omega) (.slice (some ⟨wz.heap.size, 0, none⟩) 0 0) [] (o.take j) (some ay) j c3 (fun _ => True) (fun _ => False) (by rfl) (by rfl) (Kd.R_drew (R_empty (Go.heap_alloc2_old wz (.cells #[] 41) (.cells #[.int .i64 x.f0, .int .i64 x.f1, .int .i64 x.f2] 41)) (Nat.le_refl _))) (Kd.C_below HTK.out (by repeat (first | exact Below.refl _ _ | apply below_alloc | apply pw_below_drewN | apply below_drew1 | apply below_drew))) (fun _ _ h => h) (fun _ h => h.elim) (fun _ _ => trivial) (by repeat (first | exact Below.refl _ _ | apply below_alloc | apply pw_below_drewN | apply below_drew1 | apply below_drew)) (by simp <;> omega) (by have := HBD.out; simp; omega) ?_; intro v35 w4 hr4 hb4 hg4 _; (simp only [List.nil_append] at hr4); have HR4 := Aside0.mk hr4; have HB4 := Aside0.mk hb4; have zc40 := (hb4.cell (p := (ax.add (i * 3))) b0).trans x0; have zc41 := (hb4.cell (p := ⟨(ax.add (i * 3)).block, (ax.add (i * 3)).off + 1, none⟩) b1).trans x1; have zc42 := (hb4.cell (p := ⟨(ax.add (i * 3)).block, (ax.add (i * 3)).off + 2, none⟩) b2).trans x2; have hX := (hg4.block (wz.heap.size + 1) (by simp <;> omega) (by simp [Value.ownBlock])).trans (show _ = some (Obj.cells #[.int .i64 x.f0, .int .i64 x.f1, .int .i64 x.f2] 41 (0, 0)) from (Go.heap_alloc2_new wz (.cells #[] 41) (.cells #[.int .i64 x.f0, .int .i64 x.f1, .int .i64 x.f2] 41))); clear hr4 hb4 hg4)
                 | (refine Kd.R_append_rows_step k41 (w0 := wz) wz.heap.size (by rfl) (.tmp 31) (.tmp 34) 22 41 (.agg #[(.int .i64 0), (.int .i64 0), (.int .i64 0)]) 24 (by rfl) Try.underlying22 info41 rfl (by decide) (by omega) (.slice (some ⟨wz.heap.size + 1, 0, none⟩) 0 0) [] (o.take j) (some ay) j c3 (fun _ => True) (fun _ => False) (by rfl) (by rfl) (Kd.R_drew (R_empty (Go.heap_alloc2_new wz (.cells #[.int .i64 x.f0, .int .i64 x.f1, .int .i64 x.f2] 41) (.cells #[] 41)) (by omega))) (Kd.C_below HTK.out (by repeat (first | exact Below.refl _ _ | apply below_alloc | apply pw_below_drewN | apply below_drew1 | apply below_drew))) (fun _ _ h => h) (fun _ h => h.elim) (fun _ _ => trivial) (by repeat (first | exact Below.refl _ _ | apply below_alloc | apply pw_below_drewN | apply below_drew1 | apply below_drew)) (by simp <;> omega) (by have := HBD.out; simp; omega) ?_; intro v35 w4 hr4 hb4 hg4 _; (simp only [List.nil_append] at hr4); have HR4 := Aside0.mk hr4; have HB4 := Aside0.mk hb4; have zc40 := (hb4.cell (p := (ax.add (i * 3))) b0).trans x0; have zc41 := (hb4.cell (p := ⟨(ax.add (i * 3)).block, (ax.add (i * 3)).off + 1, none⟩) b1).trans x1; have zc42 := (hb4.cell (p := ⟨(ax.add (i * 3)).block, (ax.add (i * 3)).off + 2, none⟩) b2).trans x2; have hX := (hg4.block (wz.heap.size) (by simp <;> omega) (by simp [Value.ownBlock])).trans (show _ = some (Obj.cells #[.int .i64 x.f0, .int .i64 x.f1, .int .i64 x.f2] 41 (0, 0)) from (Go.heap_alloc2_old wz (.cells #[.int .i64 x.f0, .int .i64 x.f1, .int .i64 x.f2] 41) (.cells #[] 41))); clear hr4 hb4 hg4)
                 | (refine Kd.R_append_step k41 (w0 := wz) wz.heap.size (by rfl) (.tmp 35) (.tmp 40) 22 41 (.agg #[(.int .i64 0), (.int .i64 0), (.int .i64 0)]) 24 (by rfl) Try.underlying22 info41 rfl (by decide) (by omega) v35 (o.take j) x [.int .i64 x.f0, .int .i64 x.f1, .int .i64 x.f2] (fun _ => True) (fun _ => False) (by rfl) (by rfl) (k41_mkM _ _ _ x) (fun _ h => h.elim) (fun _ _ => trivial) HR4.out HB4.out HB4.out.size (by have := HBD.out; rw [List.length_take]; omega) ?_; intro v41 w6 hr6 hb6 _ _; have HR6 := Aside0.mk hr6; have HB6 := Aside0.mk hb6; have zc60 := (hb6.cell (p := (ax.add (i * 3))) b0).trans x0; have zc61 := (hb6.cell (p := ⟨(ax.add (i * 3)).block, (ax.add (i * 3)).off + 1, none⟩) b1).trans x1; have zc62 := (hb6.cell (p := ⟨(ax.add (i * 3)).block, (ax.add (i * 3)).off + 2, none⟩) b2).trans x2; clear hr6 hb6 HR4)
                 | (refine Kd.R_append_rows_step k41 (w0 := wz) wz.heap.size (by rfl) (.tmp 35) (.tmp 40) 22 41 (.agg #[(.int .i64 0), (.int .i64 0), (.int .i64 0)]) 24 (by rfl) Try.underlying22 info41 rfl (by decide) (by omega) v35 (o.take j) [x] _ 1 1 (fun _ => True) (fun _ => False) (by rfl) (by rfl) HR4.out (C_one hX) (fun _ _ h => h) (fun _ h => h.elim) (fun _ _ => trivial) HB4.out HB4.out.size (by have := HBD.out; rw [List.length_take]; omega) ?_; intro v41 w6 hr6 hb6 _ _; have HR6 := Aside0.mk hr6; have HB6 := Aside0.mk hb6; have zc60 := (hb6.cell (p := (ax.add (i * 3))) b0).trans x0; have zc61 := (hb6.cell (p := ⟨(ax.add (i * 3)).block, (ax.add (i * 3)).off + 1, none⟩) b1).trans x1; have zc62 := (hb6.cell (p := ⟨(ax.add (i * 3)).block, (ax.add (i * 3)).off + 2, none⟩) b2).trans x2; clear hr6 hb6 HR4)
                 | (refine Kd.R_append_rows_step k41 (w0 := wz) wz.heap.size (by rfl) (.tmp 41) (.tmp 44) 22 41 (.agg #[(.int .i64 0), (.int .i64 0), (.int .i64 0)]) 24 (by rfl) Try.underlying22 info41 rfl (by decide) (by omega) v41 (o.take j ++ [x]) (o.drop j) AD (o.length - j) (c3 - j) (fun _ => True) (fun _ => False) (by rfl) (by rfl) HR6.out (Kd.C_below HDR.out HB6.out) (fun _ _ h => h) (fun _ h => h.elim) (fun _ _ => trivial) HB6.out HB6.out.size (by have := HBD.out; rw [List.length_append, List.length_take]; simp; omega) ?_; intro v45 w7 hr7 hb7 _ _; have HR7 := Aside0.mk hr7; have HB7 := Aside0.mk hb7; have zc70 := (hb7.cell (p := (ax.add (i * 3))) b0).trans x0; have zc71 := (hb7.cell (p := ⟨(ax.add (i * 3)).block, (ax.add (i * 3)).off + 1, none⟩) b1).trans x1; have zc72 := (hb7.cell (p := ⟨(ax.add (i * 3)).block, (ax.add (i * 3)).off + 2, none⟩) b2).trans x2; clear hr7 hb7 HR6))
              all_goals (go_wp2; go_roundg gk1; (case measure => omega); (case rel => exact ⟨i + 1, insMsg x o, by go_num, ⟨by have := HI.out; omega⟩, ⟨by rw [insMsg_len, HOL.out]⟩, HQ2, ⟨by have h7 := Kd.R_lower HR7.out HB.out.size; unfold insMsg; rw [HPJ.out]; exact h7⟩, ⟨HB.out.trans (HB7.out.mono HB.out.size)⟩⟩))
            | false =>
              rw [hb] at HP2
              have hcall := fun W => HLS W y
              rw [hb] at hcall
              go_wp2
              go_region_held3 (fun w' => w'.cell? (ax.add (i * 3)) = some (.int .i64 x.f0) ∧ w'.cell? ⟨(ax.add (i * 3)).block, (ax.add (i * 3)).off + 1, none⟩ = some (.int .i64 x.f1) ∧ w'.cell? ⟨(ax.add (i * 3)).block, (ax.add (i * 3)).off + 2, none⟩ = some (.int .i64 x.f2) ∧ w'.cell? (ay.add (j * 3)) = some (.int .i64 y.f0) ∧ w'.cell? ⟨(ay.add (j * 3)).block, (ay.add (j * 3)).off + 1, none⟩ = some (.int .i64 y.f1) ∧ w'.cell? ⟨(ay.add (j * 3)).block, (ay.add (j * 3)).off + 2, none⟩ = some (.int .i64 y.f2)) (first | exact ⟨x0, x1, x2, y0, y1, y2⟩ | exact ⟨z0, z1, z2, z3, z4, z5⟩ | go_keep)
                (first
                 | (go_at_call 28; refine (hcall _).mono ?_; rintro e w5 ⟨rfl, hb5⟩; have z0 := (hb5.cell (p := (ax.add (i * 3))) b0).trans x0; have z1 := (hb5.cell (p := ⟨(ax.add (i * 3)).block, (ax.add (i * 3)).off + 1, none⟩) b1).trans x1; have z2 := (hb5.cell (p := ⟨(ax.add (i * 3)).block, (ax.add (i * 3)).off + 2, none⟩) b2).trans x2; have z3 := (hb5.cell (p := (ay.add (j * 3))) b3).trans y0; have z4 := (hb5.cell (p := ⟨(ay.add (j * 3)).block, (ay.add (j * 3)).off + 1, none⟩) b4).trans y1; have z5 := (hb5.cell (p := ⟨(ay.add (j * 3)).block, (ay.add (j * 3)).off + 2, none⟩) b5).trans y2; have HB5 := Aside0.mk (HB.out.trans (((below_drew (Below.refl _ _)).trans hb5).mono HB.out.size)); have HO5 := Aside0.mk (Kd.R_below (Kd.R_drew HO.out) hb5); clear hb5))
              go_wp2
              go_roundg gk2
              case measure => omega
              case rel => exact ⟨j + 1, by go_num, ⟨by have := HJ.out; omega⟩, ⟨by have := HP2.out; simp only [Bool.false_eq_true, if_false] at this; omega⟩, HO5, HB5⟩
          · have e1 : decide ((j : Int) < (o.length : Int)) = false := decide_eq_false (by omega)
            have e1n : decide (j < o.length) = false := decide_eq_false hjl
            have HPJ : Aside0 (posMsg x o = j) := ⟨by have := HP.out; rw [List.drop_of_length_le (by omega)] at this; exact this⟩
            obtain ⟨ax, ex, x0, x1, x2⟩ := msg_at (Kd.C_below HR.out HB.out) HX.out
            subst ex
            have hdo : ∀ n, Kd.R k41 41 (wr.drewN n) w.heap.size (fun _ => True) (.slice A3 o.length c3) o := fun n => Kd.R_drewN HO.out n
            have hdb : ∀ n, Below w.heap.size w (wr.drewN n) := fun n => pw_below_drewN HB.out n
            have hd0 : ∀ n, (wr.drewN n).cell? (ax.add (i * 3)) = some (.int .i64 x.f0) := fun n => by simpa using x0
            have hd1 : ∀ n, (wr.drewN n).cell? ⟨(ax.add (i * 3)).block, (ax.add (i * 3)).off + 1, none⟩ = some (.int .i64 x.f1) := fun n => by simpa using x1
            have hd2 : ∀ n, (wr.drewN n).cell? ⟨(ax.add (i * 3)).block, (ax.add (i * 3)).off + 2, none⟩ = some (.int .i64 x.f2) := fun n => by simpa using x2
            have HDO := Aside0.mk hdo
            have HDB := Aside0.mk hdb
            have HD0 := Aside0.mk hd0
            have HD1 := Aside0.mk hd1
            have HD2 := Aside0.mk hd2
            clear HO HB x0 x1 x2 HP hjl hdo hdb hd0 hd1 hd2
            go_wp2
            go_quiet (fail)
            have HO := Aside0.mk (HDO.out nq)
            have HB := Aside0.mk (HDB.out nq)
            have x0 := HD0.out nq
            have x1 := HD1.out nq
            have x2 := HD2.out nq
            have b0 := World.block_lt_of_cell? _ _ x0
            have b1 := World.block_lt_of_cell? _ _ x1
            have b2 := World.block_lt_of_cell? _ _ x2
            clear HDO HDB HD0 HD1 HD2
            generalize wr.drewN nq = wz at *
            obtain ⟨ti, hti, _, hsz, _⟩ := info_parts info41
            have hoc : o.length ≤ c3 := (Kd.R_reads' HO.out).2.1
            have hjo : j ≤ o.length := by have := HJ.out; omega
            have hcut := cut_to (P := Try.prog) 22 41 .i64 Try.underlying22 hti A3 o.length c3 (j : Int) (by omega) (by omega) hoc
            have hcuf := cut_from (P := Try.prog) 22 41 .i64 Try.underlying22 hti 3 hsz A3 o.length c3 (j : Int) (by omega) (by omega)
            rw [Int.toNat_natCast] at hcut hcuf
            have hdr := Kd.C_drop (Kd.R_reads' HO.out).2.2 hjo hoc
            have htk := Kd.C_take (Kd.R_reads' HO.out).2.2 hjo
            rw [List.length_take, Nat.min_eq_left hjo] at htk
            rw [List.length_drop] at hdr
            change Kd.C k41 wz (if c3 = j then A3 else A3.map (·.add (j * 3))) (o.length - j) (o.drop j) at hdr
            obtain ⟨AD, hAD⟩ : ∃ AD, (if c3 = j then A3 else A3.map (·.add (j * 3))) = AD := ⟨_, rfl⟩
            rw [hAD] at hcuf hdr
            have HTK := Aside0.mk htk
            have HDR := Aside0.mk hdr
            have HBD : Aside0 (o.length + 1 < 5864062014805 ∧ j ≤ o.length) := ⟨⟨by have h1 := HL.out; have h2 := HLT.out; have h3 := HOL.out; omega, hjo⟩⟩
            clear hdr htk hAD hti hsz hoc hjo
            go_wp2
            go_region_held3 (fun w' => w'.cell? (ax.add (i * 3)) = some (.int .i64 x.f0) ∧ w'.cell? ⟨(ax.add (i * 3)).block, (ax.add (i * 3)).off + 1, none⟩ = some (.int .i64 x.f1) ∧ w'.cell? ⟨(ax.add (i * 3)).block, (ax.add (i * 3)).off + 2, none⟩ = some (.int .i64 x.f2)) (first | exact ⟨zc70, zc71, zc72⟩ | exact ⟨zc60, zc61, zc62⟩ | exact ⟨zc40, zc41, zc42⟩ | go_keep)
              (first
               | (refine Kd.R_append_rows_step k41 (w0 := wz) wz.heap.size (by rfl) (.tmp 31) (.tmp 34) 22 41 (.agg #[(.int .i64 0), (.int .i64 0), (.int .i64 0)]) 24 (by rfl) Try.underlying22 info41 rfl (by decide) (by omega) (.slice (some ⟨wz.heap.size, 0, none⟩) 0 0) [] (o.take j) A3 j c3 (fun _ => True) (fun _ => False) (by rfl) (by rfl) (R_empty (Go.heap_alloc_new wz.drew _) (Nat.le_refl _)) (Kd.C_below HTK.out (by repeat (first | exact Below.refl _ _ | apply below_alloc | apply pw_below_drewN | apply below_drew1 | apply below_drew))) (fun _ _ h => h) (fun _ h => h.elim) (fun _ _ => trivial) (by repeat (first | exact Below.refl _ _ | apply below_alloc | apply pw_below_drewN | apply below_drew1 | apply below_drew)) (by simp <;> omega) (by have := HBD.out; simp; omega) ?_; intro v35 w4 hr4 hb4 hg4 _; (simp only [List.nil_append] at hr4); have HR4 := Aside0.mk hr4; have HB4 := Aside0.mk hb4; have zc40 := (hb4.cell (p := (ax.add (i * 3))) b0).trans x0; have zc41 := (hb4.cell (p := ⟨(ax.add (i * 3)).block, (ax.add (i * 3)).off + 1, none⟩) b1).trans x1; have zc42 := (hb4.cell (p := ⟨(ax.add (i * 3)).block, (ax.add (i * 3)).off + 2, none⟩) b2).trans x2; clear hr4 hb4 hg4)
               | (refine Kd.R_append_rows_step k41 (w0 := wz) wz.heap.size (by rfl) (.tmp 31) (.tmp 34) 22 41 (.agg #[(.int .i64 0), (.int .i64 0), (.int .i64 0)]) 24 (by rfl) Try.underlying22 info41 rfl (by decide) (by omega) (.slice (some ⟨wz.heap.size, 0, none⟩) 0 0) [] (o.take j) A3 j c3 (fun _ => True) (fun _ => False) (by rfl) (by rfl) (Kd.R_drew (R_empty (Go.heap_alloc2_old wz (.cells #[] 41) (.cells #[.int .i64 x.f0, .int .i64 x.f1, .int .i64 x.f2] 41)) (Nat.le_refl _))) (Kd.C_below HTK.out (by repeat (first | exact Below.refl _ _ | apply below_alloc | apply pw_below_drewN | apply below_drew1 | apply below_drew))) (fun _ _ h => h) (fun _ h => h.elim) (fun _ _ => trivial) (by repeat (first | exact Below.refl _ _ | apply below_alloc | apply pw_below_drewN | apply below_drew1 | apply below_drew)) (by simp <;> omega) (by have := HBD.out; simp; omega) ?_; intro v35 w4 hr4 hb4 hg4 _; (simp only [List.nil_append] at hr4); have HR4 := Aside0.mk hr4; have HB4 := Aside0.mk hb4; have zc40 := (hb4.cell (p := (ax.add (i * 3))) b0).trans x0; have zc41 := (hb4.cell (p := ⟨(ax.add (i * 3)).block, (ax.add (i * 3)).off + 1, none⟩) b1).trans x1; have zc42 := (hb4.cell (p := ⟨(ax.add (i * 3)).block, (ax.add (i * 3)).off + 2, none⟩) b2).trans x2; have hX := (hg4.block (wz.heap.size + 1) (by simp <;> omega) (by simp [Value.ownBlock])).trans (show _ = some (Obj.cells #[.int .i64 x.f0, .int .i64 x.f1, .int .i64 x.f2] 41 (0, 0)) from (Go.heap_alloc2_new wz (.cells #[] 41) (.cells #[.int .i64 x.f0, .int .i64 x.f1, .int .i64 x.f2] 41))); clear hr4 hb4 hg4)
               | (refine Kd.R_append_rows_step k41 (w0 := wz) wz.heap.size (by rfl) (.tmp 31) (.tmp 34) 22 41 (.agg #[(.int .i64 0), (.int .i64 0), (.int .i64 0)]) 24 (by rfl) Try.underlying22 info41 rfl (by decide) (by omega) (.slice (some ⟨wz.heap.size + 1, 0, none⟩) 0 0) [] (o.take j) A3 j c3 (fun _ => True) (fun _ => False) (by rfl) (by rfl) (Kd.R_drew (R_empty (Go.heap_alloc2_new wz (.cells #[.int .i64 x.f0, .int .i64 x.f1, .int .i64 x.f2] 41) (.cells #[] 41)) (by omega))) (Kd.C_below HTK.out (by repeat (first | exact Below.refl _ _ | apply below_alloc | apply pw_below_drewN | apply below_drew1 | apply below_drew))) (fun _ _ h => h) (fun _ h => h.elim) (fun _ _ => trivial) (by repeat (first | exact Below.refl _ _ | apply below_alloc | apply pw_below_drewN | apply below_drew1 | apply below_drew)) (by simp <;> omega) (by have := HBD.out; simp; omega) ?_; intro v35 w4 hr4 hb4 hg4 _; (simp only [List.nil_append] at hr4); have HR4 := Aside0.mk hr4; have HB4 := Aside0.mk hb4; have zc40 := (hb4.cell (p := (ax.add (i * 3))) b0).trans x0; have zc41 := (hb4.cell (p := ⟨(ax.add (i * 3)).block, (ax.add (i * 3)).off + 1, none⟩) b1).trans x1; have zc42 := (hb4.cell (p := ⟨(ax.add (i * 3)).block, (ax.add (i * 3)).off + 2, none⟩) b2).trans x2; have hX := (hg4.block (wz.heap.size) (by simp <;> omega) (by simp [Value.ownBlock])).trans (show _ = some (Obj.cells #[.int .i64 x.f0, .int .i64 x.f1, .int .i64 x.f2] 41 (0, 0)) from (Go.heap_alloc2_old wz (.cells #[.int .i64 x.f0, .int .i64 x.f1, .int .i64 x.f2] 41) (.cells #[] 41))); clear hr4 hb4 hg4)
               | (refine Kd.R_append_step k41 (w0 := wz) wz.heap.size (by rfl) (.tmp 35) (.tmp 40) 22 41 (.agg #[(.int .i64 0), (.int .i64 0), (.int .i64 0)]) 24 (by rfl) Try.underlying22 info41 rfl (by decide) (by omega) v35 (o.take j) x [.int .i64 x.f0, .int .i64 x.f1, .int .i64 x.f2] (fun _ => True) (fun _ => False) (by rfl) (by rfl) (k41_mkM _ _ _ x) (fun _ h => h.elim) (fun _ _ => trivial) HR4.out HB4.out HB4.out.size (by have := HBD.out; rw [List.length_take]; omega) ?_; intro v41 w6 hr6 hb6 _ _; have HR6 := Aside0.mk hr6; have HB6 := Aside0.mk hb6; have zc60 := (hb6.cell (p := (ax.add (i * 3))) b0).trans x0; have zc61 := (hb6.cell (p := ⟨(ax.add (i * 3)).block, (ax.add (i * 3)).off + 1, none⟩) b1).trans x1; have zc62 := (hb6.cell (p := ⟨(ax.add (i * 3)).block, (ax.add (i * 3)).off + 2, none⟩) b2).trans x2; clear hr6 hb6 HR4)
               | (refine Kd.R_append_rows_step k41 (w0 := wz) wz.heap.size (by rfl) (.tmp 35) (.tmp 40) 22 41 (.agg #[(.int .i64 0), (.int .i64 0), (.int .i64 0)]) 24 (by rfl) Try.underlying22 info41 rfl (by decide) (by omega) v35 (o.take j) [x] _ 1 1 (fun _ => True) (fun _ => False) (by rfl) (by rfl) HR4.out (C_one hX) (fun _ _ h => h) (fun _ h => h.elim) (fun _ _ => trivial) HB4.out HB4.out.size (by have := HBD.out; rw [List.length_take]; omega) ?_; intro v41 w6 hr6 hb6 _ _; have HR6 := Aside0.mk hr6; have HB6 := Aside0.mk hb6; have zc60 := (hb6.cell (p := (ax.add (i * 3))) b0).trans x0; have zc61 := (hb6.cell (p := ⟨(ax.add (i * 3)).block, (ax.add (i * 3)).off + 1, none⟩) b1).trans x1; have zc62 := (hb6.cell (p := ⟨(ax.add (i * 3)).block, (ax.add (i * 3)).off + 2, none⟩) b2).trans x2; clear hr6 hb6 HR4)
               | (refine Kd.R_append_rows_step k41 (w0 := wz) wz.heap.size (by rfl) (.tmp 41) (.tmp 44) 22 41 (.agg #[(.int .i64 0), (.int .i64 0), (.int .i64 0)]) 24 (by rfl) Try.underlying22 info41 rfl (by decide) (by omega) v41 (o.take j ++ [x]) (o.drop j) AD (o.length - j) (c3 - j) (fun _ => True) (fun _ => False) (by rfl) (by rfl) HR6.out (Kd.C_below HDR.out HB6.out) (fun _ _ h => h) (fun _ h => h.elim) (fun _ _ => trivial) HB6.out HB6.out.size (by have := HBD.out; rw [List.length_append, List.length_take]; simp; omega) ?_; intro v45 w7 hr7 hb7 _ _; have HR7 := Aside0.mk hr7; have HB7 := Aside0.mk hb7; have zc70 := (hb7.cell (p := (ax.add (i * 3))) b0).trans x0; have zc71 := (hb7.cell (p := ⟨(ax.add (i * 3)).block, (ax.add (i * 3)).off + 1, none⟩) b1).trans x1; have zc72 := (hb7.cell (p := ⟨(ax.add (i * 3)).block, (ax.add (i * 3)).off + 2, none⟩) b2).trans x2; clear hr7 hb7 HR6))
            all_goals (go_wp2; go_roundg gk1; (case measure => omega); (case rel => exact ⟨i + 1, insMsg x o, by go_num, ⟨by have := HI.out; omega⟩, ⟨by rw [insMsg_len, HOL.out]⟩, HQ2, ⟨by have h7 := Kd.R_lower HR7.out HB.out.size; unfold insMsg; rw [HPJ.out]; exact h7⟩, ⟨HB.out.trans (HB7.out.mono HB.out.size)⟩⟩))
      · have d1 : decide ((i : Int) < (l0.length : Int)) = false := decide_eq_false (by omega)
        have d1n : decide (i < l0.length) = false := decide_eq_false (by omega)
        have HO3 : Aside0 (Kd.R k41 41 wr w.heap.size (fun _ => True) u3 r) := ⟨by
          have h2 := HQ.out
          rw [List.drop_of_length_le (by omega)] at h2
          unfold insAll at h2
          rw [← h2]; exact HO.out⟩
        clear HO HI hlt HQ HQ0
        go_wp2
        go_ret
        exact ⟨_, rfl, HO3.out, HB.out⟩
  · rw [if_neg hl] at h
    exact absurd h (by simp)
end

/-! ### slices_Index_string_string: function 58 -/
def slices_Index_string_string.l0 : Nat → List ByteArray → ByteArray → Int → Int → Option (Int)
  | 0, _, _, _, _ => none
  | k + 1, x0, x1, x7, x8 => if x8 < x7 then (if 0 ≤ x8 then (if x8 < (x0.length : Int) then (if x1.toList = (rdOf ByteArray.empty x0 x8).toList then (some x8) else (slices_Index_string_string.l0 k x0 x1 x7 (wrap64 (x8 + 1)))) else (none)) else (none)) else (some (-1))
def slices_Index_string_string.f (k : Nat) (l0 : List ByteArray) (a1 : ByteArray) : Option (Int) := slices_Index_string_string.l0 k l0 a1 (l0.length : Int) 0
theorem slices_Index_string_string.mono_l : ∀ k, (∀ y0 y1 y2 y3, LeO (slices_Index_string_string.l0 k y0 y1 y2 y3) (slices_Index_string_string.l0 (k + 1) y0 y1 y2 y3))
  | 0 => fun _ _ _ _ r h => by simp [slices_Index_string_string.l0] at h
  | k + 1 => by
    have ih0 := slices_Index_string_string.mono_l k
    · intro y0 y1 y2 y3
      unfold slices_Index_string_string.l0
      repeat' first
      | (with_reducible exact ih0 _ _ _ _)
      | (with_reducible exact LeO.refl _)
      | (with_reducible exact LeO.none _)
      | (with_reducible refine LeO.ite ?_ ?_)
      | (with_reducible refine LeO.bind ?_ (fun _ => ?_))
      | exact ih0 _ _ _ _
      | exact LeO.none _
      | refine LeO.ite ?_ ?_
      | refine LeO.bind ?_ (fun _ => ?_)
theorem slices_Index_string_string.mono : ∀ a0 a1 k, LeO (slices_Index_string_string.f k a0 a1) (slices_Index_string_string.f (k + 1) a0 a1) := by
  intro a0 a1 k
  have ih0 := slices_Index_string_string.mono_l k
  unfold slices_Index_string_string.f
  repeat' first
      | (with_reducible exact ih0 _ _ _ _)
      | (with_reducible exact LeO.refl _)
      | (with_reducible exact LeO.none _)
      | (with_reducible refine LeO.ite ?_ ?_)
      | (with_reducible refine LeO.bind ?_ (fun _ => ?_))
      | exact ih0 _ _ _ _
      | exact LeO.none _
      | refine LeO.ite ?_ ?_
      | refine LeO.bind ?_ (fun _ => ?_)
set_option maxHeartbeats 8000000 in
set_option maxRecDepth 100000 in
theorem slices_Index_string_string.calls (k : Nat) (A0 : Option Addr) (c0 : Nat) (l0 : List ByteArray) (a1 : ByteArray) (r : Int) (w : World) (hr0 : Kd.C Kd.string w A0 l0.length l0) (hc0 : l0.length ≤ c0) (h : slices_Index_string_string.f k l0 a1 = some r) :
    Calls Try.prog 58 #[.slice A0 l0.length c0, .string a1] w fun e w' => e = .returned (.int .i64 r) ∧ Drawn0 w w' := by
  have HR0 := Aside0.mk hr0
  have HC0 := Aside0.mk hc0
  clear hr0 hc0
  have H : (slices_Index_string_string.l0 k l0 a1 (l0.length : Int) 0) = some r := h
  clear h
  have H' := Aside0.mk H
  clear H
  go_enter Try.func58, Try.ntmps58
  go_wp2
  go_loopg [8] k (fun kq v8 w' => ∃ (x8_1 : Int), v8 = .int .i64 x8_1 ∧ Aside0 (slices_Index_string_string.l0 kq l0 a1 (l0.length : Int) x8_1 = some r) ∧ Aside0 (kq ≤ k) ∧ Drawn0 w w')
  case atStart => exact ⟨(0), (by first | rfl | (simp; done) | (simp [*]; done)), H', ⟨Nat.le_refl _⟩, by repeat (first | exact Drawn0.refl _ | apply Drawn0.step)⟩
  case round =>
    clear H'
    try clear p2
    obtain ⟨x8_1, rfl, HA, HK1, ⟨m1, rfl⟩⟩ := hrel
    cases gk with
    | zero => exact absurd HA.out (by simp [slices_Index_string_string.l0])
    | succ k1 =>
      have H := HA.out
      clear HA
      simp only [slices_Index_string_string.l0] at H
      by_cases c3 : x8_1 < (l0.length : Int)
      · rw [if_pos c3] at H
        have c3b0 : decide (x8_1 < (l0.length : Int)) = true := decide_eq_true c3
        clear c3
        by_cases c4 : 0 ≤ x8_1
        · rw [if_pos c4] at H
          have c4b0 : decide (0 ≤ x8_1) = true := decide_eq_true c4
          clear c4
          by_cases c5 : x8_1 < (l0.length : Int)
          · rw [if_pos c5] at H
            have c5b0 : decide (x8_1 < (l0.length : Int)) = true := decide_eq_true c5
            clear c5
            by_cases c6 : a1.toList = (rdOf ByteArray.empty l0 x8_1).toList
            · rw [if_pos c6] at H
              have c6b0 : (a1.toList == (rdOf ByteArray.empty l0 x8_1).toList) = true := beq_iff_eq.mpr c6
              have c6b1 : (a1.toList != (rdOf ByteArray.empty l0 x8_1).toList) = false := bne_eq_false_iff_eq.mpr c6
              clear c6
              obtain rfl := Option.some.inj H
              have p109 : 0 ≤ (x8_1 : Int) := of_decide_eq_true (by first | (with_reducible assumption) | assumption)
              have q109 : x8_1 < (l0.length : Int) := of_decide_eq_true (by first | (with_reducible assumption) | assumption)
              obtain ⟨ad109, e109, hx109_0⟩ := Kd.at_string HR0.out x8_1 p109 q109
              cases e109
              replace p109 := eq_true p109
              replace q109 := eq_true q109
              go_wp2
              go_ret
              exact ⟨by first | rfl | (simp; done) | (simp [*]; done), by repeat (first | exact Drawn0.refl _ | apply Drawn0.step)⟩
            · rw [if_neg c6] at H
              have c6b0 : (a1.toList == (rdOf ByteArray.empty l0 x8_1).toList) = false := beq_eq_false_iff_ne.mpr c6
              have c6b1 : (a1.toList != (rdOf ByteArray.empty l0 x8_1).toList) = true := bne_iff_ne.mpr c6
              have H' := Aside0.mk H
              clear H
              have p109 : 0 ≤ (x8_1 : Int) := of_decide_eq_true (by first | (with_reducible assumption) | assumption)
              have q109 : x8_1 < (l0.length : Int) := of_decide_eq_true (by first | (with_reducible assumption) | assumption)
              obtain ⟨ad109, e109, hx109_0⟩ := Kd.at_string HR0.out x8_1 p109 q109
              cases e109
              replace p109 := eq_true p109
              replace q109 := eq_true q109
              go_wp2
              go_roundg k1
              case measure => have := HK1.out; omega
              case rel => exact ⟨(wrap64 (x8_1 + 1)), (by first | rfl | (simp; done) | (simp [*]; done)), H', ⟨by have := HK1.out; omega⟩, by repeat (first | exact Drawn0.refl _ | apply Drawn0.step)⟩
          · rw [if_neg c5] at H
            exact absurd H (by simp)
        · rw [if_neg c4] at H
          exact absurd H (by simp)
      · rw [if_neg c3] at H
        have c3b0 : decide (x8_1 < (l0.length : Int)) = false := decide_eq_false c3
        clear c3
        obtain rfl := Option.some.inj H
        go_wp2
        go_ret
        exact ⟨by first | rfl | (simp; done) | (simp [*]; done), by repeat (first | exact Drawn0.refl _ | apply Drawn0.step)⟩

end Go.Proofs.Ytgdkemgilmfkfaa.P
