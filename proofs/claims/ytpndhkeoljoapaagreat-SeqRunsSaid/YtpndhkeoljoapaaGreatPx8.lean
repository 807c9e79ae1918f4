/- What these Go functions compute, as Lean functions, and that they do. No condition. -/
import Derived.Test.YtpndhkeoljoapaaGreatPx0
import Derived.Test.YtpndhkeoljoapaaGreatPx4
import Derived.Test.YtpndhkeoljoapaaGreatPx7
namespace Go.Proofs.YtpndhkeoljoapaaGreat.P
open Go.RowKit Go.Proofs.YtpndhkeoljoapaaGreatW.PrintWords Go.Proofs.YtpndhkeoljoapaaGreatW.PrintLast Go.Proofs.YtpndhkeoljoapaaGreatW.PrintMore
attribute [local go_sem] max2_int min2_int max_two min_two max_three min_three max_four min_four   -- for this text's walks alone
set_option linter.unusedVariables false
set_option linter.unusedSimpArgs false
set_option linter.unnecessarySimpa false

/-! ### modillionref08_Sort: function 32 (given) -/
/-- Where a message is put: ahead of the first that is behind it. -/
def posMsg (x : S61) : List S61 → Nat
  | [] => 0
  | y :: l => if ltMsg x y = true then 0 else posMsg x l + 1
def insMsg (x : S61) (o : List S61) : List S61 := o.take (posMsg x o) ++ [x] ++ o.drop (posMsg x o)
def insAll : List S61 → List S61 → List S61
  | o, [] => o
  | o, x :: l => insAll (insMsg x o) l
def modillionref08_Sort.f (l0 : List S61) : Option (List S61) := if l0.length < 5864062014805 then some (insAll [] l0) else none
theorem posMsg_le (x : S61) : ∀ o, posMsg x o ≤ o.length
  | [] => Nat.le_refl _
  | y :: l => by
    unfold posMsg
    split
    · omega
    · have := posMsg_le x l; simp; omega
theorem insMsg_len (x : S61) (o : List S61) : (insMsg x o).length = o.length + 1 := by
  have := posMsg_le x o
  unfold insMsg
  simp; omega
theorem refLess_f (x y : S61) : modillionref08_Less.f x.f0 x.f1 x.f2 y.f0 y.f1 y.f2 = some (ltMsg x y) := by
  have h1 := ltMsg_iff x y
  unfold modillionref08_Less.f
  cases hb : ltMsg x y with
  | true =>
    have h2 := h1.1 hb
    split
    · split
      · rw [decide_eq_true (by omega)]
      · rw [decide_eq_true (by omega)]
    · rw [decide_eq_true (by omega)]
  | false =>
    have h2 := mt h1.2 (by rw [hb]; decide)
    split
    · split
      · rw [decide_eq_false (by omega)]
      · rw [decide_eq_false (by omega)]
    · rw [decide_eq_false (by omega)]
theorem pos_step (x y : S61) (o : List S61) (j : Nat) (h : o[j]? = some y) : posMsg x (o.drop j) = if ltMsg x y = true then 0 else posMsg x (o.drop (j + 1)) + 1 := by
  have hj := (List.getElem?_eq_some_iff.1 h).1
  rw [List.drop_eq_getElem_cons hj, (List.getElem?_eq_some_iff.1 h).2]
  rfl
section
open Go.Sort Go.Shelf Go.Proofs.YtpndhkeoljoapaaGreat.Bridge
theorem msg_at {W : World} {A : Option Addr} {l : List S61} {x : S61} {i : Nat} (h : Kd.C k61 W A l.length l) (hi : l[i]? = some x) : ∃ ad, A = some ad ∧ W.cell? (ad.add (i * 3)) = some (.int .i64 x.f0) ∧ W.cell? ⟨(ad.add (i * 3)).block, (ad.add (i * 3)).off + 1, none⟩ = some (.int .i64 x.f1) ∧ W.cell? ⟨(ad.add (i * 3)).block, (ad.add (i * 3)).off + 2, none⟩ = some (.int .i64 x.f2) := by
  have hl := (List.getElem?_eq_some_iff.1 hi).1
  obtain ⟨ad, e, h0, h1, h2⟩ := at_T61 h (i : Int) (by omega) (by omega)
  rw [rd_msg l i hl, (List.getElem?_eq_some_iff.1 hi).2, Int.toNat_natCast] at h0 h1 h2
  exact ⟨ad, e, h0, h1, h2⟩
theorem R_empty {w : World} {base b : Nat} (h : w.heap[b]? = some (.cells #[] 61 (0, 0))) (hb : base ≤ b) : Kd.R k61 61 w base (fun _ => True) (.slice (some ⟨b, 0, none⟩) 0 0) [] :=
  ⟨fun _ _ => trivial, [], ⟨rfl, .inr ⟨b, 0, #[], rfl, hb, h, Nat.le_refl _, by unfold maxLen; omega, rfl, rfl⟩⟩, (Kd.R_nil k61 61 w base (fun _ => True)).2.elim (fun i hi => by have := hi.1.1; cases i with | nil => exact hi.2 | cons _ _ => simp at this)⟩
theorem C_one {w : World} {b : Nat} {x : S61} (h : w.heap[b]? = some (.cells #[.int .i64 x.f0, .int .i64 x.f1, .int .i64 x.f2] 61 (0, 0))) : Kd.C k61 w (some ⟨b, 0, none⟩) 1 [x] := by
  refine ⟨rfl, by omega, fun _ => ⟨_, rfl, fun j p hj => ?_⟩⟩
  have hj0 : j = 0 := by have := (List.getElem?_eq_some_iff.1 hj).1; simp at this; exact this
  subst hj0
  obtain rfl : x = p := by simpa using hj
  refine ⟨_, rfl, k61_mk _ x, fun i u hu => ?_⟩
  rw [add_plain]
  rcases i with _ | _ | _ | i
  · obtain rfl := Option.some.inj hu; simp [World.cell?, h]
  · obtain rfl := Option.some.inj hu; simp [World.cell?, h]
  · obtain rfl := Option.some.inj hu; simp [World.cell?, h]
  · cases hu
set_option maxHeartbeats 16000000 in
set_option maxRecDepth 100000 in
theorem modillionref08_Sort.calls (A0 : Option Addr) (c0 : Nat) (l0 : List S61) (r : List S61) (w : World) (hr0 : Kd.C k61 w A0 l0.length l0) (hc0 : l0.length ≤ c0) (h : modillionref08_Sort.f l0 = some r) :
    Calls Tryz.prog 32 #[.slice A0 l0.length c0] w fun e w' => ∃ v0_ : Value, e = .returned (v0_) ∧ Kd.R k61 61 w' w.heap.size (fun _ => True) v0_ r ∧ Below w.heap.size w w' := by
  unfold modillionref08_Sort.f at h
  by_cases hl : l0.length < 5864062014805
  · rw [if_pos hl] at h
    have HQ0 := Aside0.mk (Option.some.inj h)
    have HR := Aside0.mk hr0
    have HC := Aside0.mk hc0
    have HL := Aside0.mk hl
    have hu2 := Tryz.underlying61
    clear hr0 hc0 hl h
    go_enter Tryz.func32, Tryz.ntmps32
    go_wp2
    go_loopg [3, 4] (l0.length) (fun kq v3 v4 w' => ∃ (i : Nat) (o : List S61), v4 = .int .i64 (i : Int) ∧ Aside0 (i + kq = l0.length) ∧ Aside0 (o.length = i) ∧ Aside0 (insAll o (l0.drop i) = r) ∧ Aside0 (Kd.R k61 61 w' w.heap.size (fun _ => True) v3 o) ∧ Aside0 (Below w.heap.size w w'))
    case atStart => exact ⟨0, [], rfl, ⟨by omega⟩, ⟨rfl⟩, HQ0, ⟨R_empty (Go.heap_alloc_new w _) (Nat.le_refl _)⟩, ⟨below_alloc (Below.refl _ _) _⟩⟩
    case round =>
      obtain ⟨i, o, rfl, HI, HOL, HQ, HO, HB⟩ := hrel
      by_cases hlt : i < l0.length
      · have d1 : decide ((i : Int) < (l0.length : Int)) = true := decide_eq_true (by omega)
        have d1n : decide (i < l0.length) = true := decide_eq_true hlt
        have p1 : 0 ≤ (i : Int) := by omega
        have q1 : (i : Int) < (l0.length : Int) := by omega
        have hw1 : wrap64 ((i : Int) + 1) = (i : Int) + 1 := by have h1 := HL.out; unfold wrap64; omega
        obtain ⟨gk1, rfl⟩ : ∃ m, gk = m + 1 := ⟨gk - 1, by have := HI.out; omega⟩
        obtain ⟨x, hx⟩ : ∃ x, l0[i]? = some x := ⟨_, List.getElem?_eq_getElem hlt⟩
        have HX := Aside0.mk hx
        have HQ2 : Aside0 (insAll (insMsg x o) (l0.drop (i + 1)) = r) := ⟨by have := HQ.out; rw [List.drop_eq_getElem_cons hlt, (List.getElem?_eq_some_iff.1 hx).2] at this; exact this⟩
        have HLT := Aside0.mk hlt
        obtain ⟨A3, c3, e3⟩ := Kd.R_slice HO.out
        subst e3
        have hcx : ∀ W : World, ∃ m, True := fun _ => ⟨0, trivial⟩
        have HLS : ∀ (W : World) (y : S61), Calls Tryz.prog 55 #[.agg #[.int .i64 x.f0, .int .i64 x.f1, .int .i64 x.f2], .agg #[.int .i64 y.f0, .int .i64 y.f1, .int .i64 y.f2]] W fun e w' => e = .returned (.bool (ltMsg x y)) ∧ Below W.heap.size W w' := fun W y => modillionref08_Less.calls x.f0 x.f1 x.f2 y.f0 y.f1 y.f2 (ltMsg x y) W (refLess_f x y)
        clear hx hcx hlt HQ
        go_wp2
        go_loopg [5] (o.length) (fun kq v5 w' => ∃ (j : Nat), v5 = .int .i64 (j : Int) ∧ Aside0 (j + kq = o.length) ∧ Aside0 (posMsg x o = j + posMsg x (o.drop j)) ∧ Aside0 (Kd.R k61 61 w' w.heap.size (fun _ => True) (.slice A3 o.length c3) o) ∧ Aside0 (Below w.heap.size w w'))
        case atStart => exact ⟨0, rfl, ⟨by omega⟩, ⟨by simp⟩, HO, HB⟩
        case round =>
          clear HO HB
          obtain ⟨j, rfl, HJ, HP, HO, HB⟩ := hrel
          by_cases hjl : j < o.length
          · have e1 : decide ((j : Int) < (o.length : Int)) = true := decide_eq_true (by omega)
            have e1n : decide (j < o.length) = true := decide_eq_true hjl
            have t1 : 0 ≤ (j : Int) := by omega
            have t2 : (j : Int) < (o.length : Int) := by omega
            obtain ⟨y, hy⟩ : ∃ y, o[j]? = some y := ⟨_, List.getElem?_eq_getElem hjl⟩
            obtain ⟨ax, ex, x0, x1, x2⟩ := msg_at (Kd.C_below HR.out HB.out) HX.out
            obtain ⟨ay, ey, y0, y1, y2⟩ := msg_at (Kd.R_reads' HO.out).2.2 hy
            subst ex ey
            have HP2 := Aside0.mk (HP.out.trans (congrArg (j + ·) (pos_step x y o j hy)))
            obtain ⟨gk2, rfl⟩ : ∃ m, gk = m + 1 := ⟨gk - 1, by have := HJ.out; omega⟩
            have hw2 : wrap64 ((j : Int) + 1) = (j : Int) + 1 := by have h1 := HL.out; have h2 := HLT.out; have h3 := HOL.out; unfold wrap64; omega
            have b0 := World.block_lt_of_cell? _ _ x0
            have b1 := World.block_lt_of_cell? _ _ x1
            have b2 := World.block_lt_of_cell? _ _ x2
            have b3 := World.block_lt_of_cell? _ _ y0
            have b4 := World.block_lt_of_cell? _ _ y1
            have b5 := World.block_lt_of_cell? _ _ y2
            clear hy hjl HP
            cases hb : ltMsg x y with
            | true =>
              rw [hb] at HP2
              have hcall := fun W => HLS W y
              rw [hb] at hcall
              go_wp2
              go_region_held3 (fun w' => w'.cell? (ax.add (i * 3)) = some (.int .i64 x.f0) ∧ w'.cell? ⟨(ax.add (i * 3)).block, (ax.add (i * 3)).off + 1, none⟩ = some (.int .i64 x.f1) ∧ w'.cell? ⟨(ax.add (i * 3)).block, (ax.add (i * 3)).off + 2, none⟩ = some (.int .i64 x.f2) ∧ w'.cell? (ay.add (j * 3)) = some (.int .i64 y.f0) ∧ w'.cell? ⟨(ay.add (j * 3)).block, (ay.add (j * 3)).off + 1, none⟩ = some (.int .i64 y.f1) ∧ w'.cell? ⟨(ay.add (j * 3)).block, (ay.add (j * 3)).off + 2, none⟩ = some (.int .i64 y.f2)) (first | exact ⟨x0, x1, x2, y0, y1, y2⟩ | exact ⟨z0, z1, z2, z3, z4, z5⟩ | go_keep)
                (first
                 | (go_at_call 55; refine (hcall _).mono ?_; rintro e w5 ⟨rfl, hb5⟩; have z0 := (hb5.cell (p := (ax.add (i * 3))) b0).trans x0; have z1 := (hb5.cell (p := ⟨(ax.add (i * 3)).block, (ax.add (i * 3)).off + 1, none⟩) b1).trans x1; have z2 := (hb5.cell (p := ⟨(ax.add (i * 3)).block, (ax.add (i * 3)).off + 2, none⟩) b2).trans x2; have z3 := (hb5.cell (p := (ay.add (j * 3))) b3).trans y0; have z4 := (hb5.cell (p := ⟨(ay.add (j * 3)).block, (ay.add (j * 3)).off + 1, none⟩) b4).trans y1; have z5 := (hb5.cell (p := ⟨(ay.add (j * 3)).block, (ay.add (j * 3)).off + 2, none⟩) b5).trans y2; have HB5 := Aside0.mk (HB.out.trans (((below_drew (Below.refl _ _)).trans hb5).mono HB.out.size)); have HO5 := Aside0.mk (Kd.R_below (Kd.R_drew HO.out) hb5); clear hb5))
              have HPJ : Aside0 (posMsg x o = j) := ⟨by have := HP2.out; simpa using this⟩
              clear HO HB x0 x1 x2 y0 y1 y2 z3 z4 z5 HP2 hcall b0 b1 b2 b3 b4 b5 hb
              obtain ⟨x0, x1, x2⟩ := And.intro z0 (And.intro z1 z2)
              have HO := HO5
              have HB := HB5
              clear z0 z1 z2 HO5 HB5
              have b0 := World.block_lt_of_cell? _ _ x0
              have b1 := World.block_lt_of_cell? _ _ x1
              have b2 := World.block_lt_of_cell? _ _ x2
              generalize w5 = wz at *
              obtain ⟨ti, hti, _, hsz, _⟩ := info_parts info61
              have hoc : o.length ≤ c3 := (Kd.R_reads' HO.out).2.1
              have hjo : j ≤ o.length := by have := HJ.out; omega
              have hcut := cut_to (P := Tryz.prog) 29 61 .i64 Tryz.underlying29 hti (some ay) o.length c3 (j : Int) (by omega) (by omega) hoc
              have hcuf := cut_from (P := Tryz.prog) 29 61 .i64 Tryz.underlying29 hti 3 hsz (some ay) o.length c3 (j : Int) (by omega) (by omega)
              rw [Int.toNat_natCast] at hcut hcuf
              have hdr := Kd.C_drop (Kd.R_reads' HO.out).2.2 hjo hoc
              have htk := Kd.C_take (Kd.R_reads' HO.out).2.2 hjo
              rw [List.length_take, Nat.min_eq_left hjo] at htk
              rw [List.length_drop] at hdr
              change Kd.C k61 wz (if c3 = j then (some ay) else ((some ay) : Option Addr).map (·.add (j * 3))) (o.length - j) (o.drop j) at hdr
              obtain ⟨AD, hAD⟩ : ∃ AD, (if c3 = j then (some ay) else ((some ay) : Option Addr).map (·.add (j * 3))) = AD := ⟨_, rfl⟩
              rw [hAD] at hcuf hdr
              have HTK := Aside0.mk htk
              have HDR := Aside0.mk hdr
              have HBD : Aside0 (o.length + 1 < 5864062014805 ∧ j ≤ o.length) := ⟨⟨by have h1 := HL.out; have h2 := HLT.out; have h3 := HOL.out; omega, hjo⟩⟩
              clear hdr htk hAD hti hsz hoc hjo
              go_wp2
              go_region_held3 (fun w' => w'.cell? (ax.add (i * 3)) = some (.int .i64 x.f0) ∧ w'.cell? ⟨(ax.add (i * 3)).block, (ax.add (i * 3)).off + 1, none⟩ = some (.int .i64 x.f1) ∧ w'.cell? ⟨(ax.add (i * 3)).block, (ax.add (i * 3)).off + 2, none⟩ = some (.int .i64 x.f2)) (first | exact ⟨zc70, zc71, zc72⟩ | exact ⟨zc60, zc61, zc62⟩ | exact ⟨zc40, zc41, zc42⟩ | go_keep)
                (first
                 | (refine Kd.R_append_rows_step k61 (w0 := wz) wz.heap.size (by rfl) (.tmp 31) (.tmp 34) 29 61 (.agg #[(.int .i64 0), (.int .i64 0), (.int .i64 0)]) 24 (by rfl) Tryz.underlying29 info61 rfl (by decide) (by omega) (.slice (some ⟨wz.heap.size, 0, none⟩) 0 0) [] (o.take j) (some ay) j c3 (fun _ => True) (fun _ => False) (by rfl) (by rfl) (R_empty (Go.heap_alloc_new wz.drew _) (Nat.le_refl _)) (Kd.C_below HTK.out (by repeat (first | exact Below.refl _ _ | apply below_alloc | apply pw_below_drewN | apply below_drew1 | apply below_drew))) (fun _ _ h => h) (fun _ h => h.elim) (fun _ _ => trivial) (by repeat (first | exact Below.refl _ _ | apply below_alloc | apply pw_below_drewN | apply below_drew1 | apply below_drew)) (by simp <;> omega) (by have := HBD.out; simp; omega) ?_; intro v35 w4 hr4 hb4 hg4 _; (simp only [List.nil_append] at hr4); have HR4 := Aside0.mk hr4; have HB4 := Aside0.mk hb4; have zc40 := (hb4.cell (p := (ax.add (i * 3))) b0).trans x0; have zc41 := (hb4.cell (p := ⟨(ax.add (i * 3)).block, (ax.add (i * 3)).off + 1, none⟩) b1).trans x1; have zc42 := (hb4.cell (p := ⟨(ax.add (i * 3)).block, (ax.add (i * 3)).off + 2, none⟩) b2).trans x2; clear hr4 hb4 hg4)
                 | (refine Kd.R_append_rows_step k61 (w0 := wz) wz.heap.size (by rfl) (.tmp 31) (.tmp 34) 29 61 (.agg #[(.int .i64 0), (.int .i64 0), (.int .i64 0)]) 24 (by rfl) Tryz.underlying29 info61 rfl (by decide) (by omega) (.slice (some ⟨wz.heap.size, 0, none⟩) 0 0) [] (o.take j) (some ay) j c3 (fun _ => True) (fun _ => False) (by rfl) (by rfl) (Kd.R_drew (R_empty (Go.heap_alloc2_old wz (.cells #[] 61) (.cells #[.int .i64 x.f0, .int .i64 x.f1, .int .i64 x.f2] 61)) (Nat.le_refl _))) (Kd.C_below HTK.out (by repeat (first | exact Below.refl _ _ | apply below_alloc | apply pw_below_drewN | apply below_drew1 | apply below_drew))) (fun _ _ h => h) (fun _ h => h.elim) (fun _ _ => trivial) (by repeat (first | exact Below.refl _ _ | apply below_alloc | apply pw_below_drewN | apply below_drew1 | apply below_drew)) (by simp <;> omega) (by have := HBD.out; simp; omega) ?_; intro v35 w4 hr4 hb4 hg4 _; (simp only [List.nil_append] at hr4); have HR4 := Aside0.mk hr4; have HB4 := Aside0.mk hb4; have zc40 := (hb4.cell (p := (ax.add (i * 3))) b0).trans x0; have zc41 := (hb4.cell (p := ⟨(ax.add (i * 3)).block, (ax.add (i * 3)).off + 1, none⟩) b1).trans x1; have zc42 := (hb4.cell (p := ⟨(ax.add (i * 3)).block, (ax.add (i * 3)).off + 2, none⟩) b2).trans x2; have hX := (hg4.block (wz.heap.size + 1) (by simp <;> omega) (by simp [Value.ownBlock])).trans (show _ = some (Obj.cells #[.int .i64 x.f0, .int .i64 x.f1, .int .i64 x.f2] 61 (0, 0)) from (Go.heap_alloc2_new wz (.cells #[] 61) (.cells #[.int .i64 x.f0, .int .i64 x.f1, .int .i64 x.f2] 61))); clear hr4 hb4 hg4)
                 | (refine Kd.R_append_rows_step k61 (w0 := wz) wz.heap.size (by rfl) (.tmp 31) (.tmp 34) 29 61 (.agg #[(.int .i64 0), (.int .i64 0), (.int .i64 0)]) 24 (by rfl) Tryz.underlying29 info61 rfl (by decide) (by omega) (.slice (some ⟨wz.heap.size + 1, 0, none⟩) 0 0) [] (o.take j) (some ay) j c3 (fun _ => True) (fun _ => False) (by rfl) (by rfl) (Kd.R_drew (R_empty (Go.heap_alloc2_new wz (.cells #[.int .i64 x.f0, .int .i64 x.f1, .int .i64 x.f2] 61) (.cells #[] 61)) (by omega))) (Kd.C_below HTK.out (by repeat (first | exact Below.refl _ _ | apply below_alloc | apply pw_below_drewN | apply below_drew1 | apply below_drew))) (fun _ _ h => h) (fun _ h => h.elim) (fun _ _ => trivial) (by repeat (first | exact Below.refl _ _ | apply below_alloc | apply pw_below_drewN | apply below_drew1 | apply below_drew)) (by simp <;> omega) (by have := HBD.out; simp; omega) ?_; intro v35 w4 hr4 hb4 hg4 _; (simp only [List.nil_append] at hr4); have HR4 := Aside0.mk hr4; have HB4 := Aside0.mk hb4; have zc40 := (hb4.cell (p := (ax.add (i * 3))) b0).trans x0; have zc41 := (hb4.cell (p := ⟨(ax.add (i * 3)).block, (ax.add (i * 3)).off + 1, none⟩) b1).trans x1; have zc42 := (hb4.cell (p := ⟨(ax.add (i * 3)).block, (ax.add (i * 3)).off + 2, none⟩) b2).trans x2; have hX := (hg4.block (wz.heap.size) (by simp <;> omega) (by simp [Value.ownBlock])).trans (show _ = some (Obj.cells #[.int .i64 x.f0, .int .i64 x.f1, .int .i64 x.f2] 61 (0, 0)) from (Go.heap_alloc2_old wz (.cells #[.int .i64 x.f0, .int .i64 x.f1, .int .i64 x.f2] 61) (.cells #[] 61))); clear hr4 hb4 hg4)
                 | (refine Kd.R_append_step k61 (w0 := wz) wz.heap.size (by rfl) (.tmp 35) (.tmp 40) 29 61 (.agg #[(.int .i64 0), (.int .i64 0), (.int .i64 0)]) 24 (by rfl) Tryz.underlying29 info61 rfl (by decide) (by omega) v35 (o.take j) x [.int .i64 x.f0, .int .i64 x.f1, .int .i64 x.f2] (fun _ => True) (fun _ => False) (by rfl) (by rfl) (k61_mkM _ _ _ x) (fun _ h => h.elim) (fun _ _ => trivial) HR4.out HB4.out HB4.out.size (by have := HBD.out; rw [List.length_take]; omega) ?_; intro v41 w6 hr6 hb6 _ _; have HR6 := Aside0.mk hr6; have HB6 := Aside0.mk hb6; have zc60 := (hb6.cell (p := (ax.add (i * 3))) b0).trans x0; have zc61 := (hb6.cell (p := ⟨(ax.add (i * 3)).block, (ax.add (i * 3)).off + 1, none⟩) b1).trans x1; have zc62 := (hb6.cell (p := ⟨(ax.add (i * 3)).block, (ax.add (i * 3)).off + 2, none⟩) b2).trans x2; clear hr6 hb6 HR4)
                 | (refine Kd.R_append_rows_step k61 (w0 := wz) wz.heap.size (by rfl) (.tmp 35) (.tmp 40) 29 61 (.agg #[(.int .i64 0), (.int .i64 0), (.int .i64 0)]) 24 (by rfl) Tryz.underlying29 info61 rfl (by decide) (by omega) v35 (o.take j) [x] _ 1 1 (fun _ => True) (fun _ => False) (by rfl) (by rfl) HR4.out (C_one hX) (fun _ _ h => h) (fun _ h => h.elim) (fun _ _ => trivial) HB4.out HB4.out.size (by have := HBD.out; rw [List.length_take]; omega) ?_; intro v41 w6 hr6 hb6 _ _; have HR6 := Aside0.mk hr6; have HB6 := Aside0.mk hb6; have zc60 := (hb6.cell (p := (ax.add (i * 3))) b0).trans x0; have zc61 := (hb6.cell (p := ⟨(ax.add (i * 3)).block, (ax.add (i * 3)).off + 1, none⟩) b1).trans x1; have zc62 := (hb6.cell (p := ⟨(ax.add (i * 3)).block, (ax.add (i * 3)).off + 2, none⟩) b2).trans x2; clear hr6 hb6 HR4)
                 | (refine Kd.R_append_rows_step k61 (w0 := wz) wz.heap.size (by rfl) (.tmp 41) (.tmp 44) 29 61 (.agg #[(.int .i64 0), (.int .i64 0), (.int .i64 0)]) 24 (by rfl) Tryz.underlying29 info61 rfl (by decide) (by omega) v41 (o.take j ++ [x]) (o.drop j) AD (o.length - j) (c3 - j) (fun _ => True) (fun _ => False) (by rfl) (by rfl) HR6.out (Kd.C_below HDR.out HB6.out) (fun _ _ h => h) (fun _ h => h.elim) (fun _ _ => trivial) HB6.out HB6.out.size (by have := HBD.out; rw [List.length_append, List.length_take]; simp; omega) ?_; intro v45 w7 hr7 hb7 _ _; have HR7 := Aside0.mk hr7; have HB7 := Aside0.mk hb7; have zc70 := (hb7.cell (p := (ax.add (i * 3))) b0).trans x0; have zc71 := (hb7.cell (p := ⟨(ax.add (i * 3)).block, (ax.add (i * 3)).off + 1, none⟩) b1).trans x1; have zc72 := (hb7.cell (p := ⟨(ax.add (i * 3)).block, (ax.add (i * 3)).off + 2, none⟩) b2).trans x2; clear hr7 hb7 HR6))
              all_goals (go_wp2; go_roundg gk1; (case measure => omega); (case rel => exact ⟨i + 1, insMsg x o, by go_num, ⟨by have := HI.out; omega⟩, ⟨by rw [insMsg_len, HOL.out]⟩, HQ2, ⟨by have h7 := Kd.R_lower HR7.out HB.out.size; unfold insMsg; rw [HPJ.out]; exact h7⟩, ⟨HB.out.trans (HB7.out.mono HB.out.size)⟩⟩))
            | false =>
              rw [hb] at HP2
              have hcall := fun W => HLS W y
              rw [hb] at hcall
              go_wp2
              go_region_held3 (fun w' => w'.cell? (ax.add (i * 3)) = some (.int .i64 x.f0) ∧ w'.cell? ⟨(ax.add (i * 3)).block, (ax.add (i * 3)).off + 1, none⟩ = some (.int .i64 x.f1) ∧ w'.cell? ⟨(ax.add (i * 3)).block, (ax.add (i * 3)).off + 2, none⟩ = some (.int .i64 x.f2) ∧ w'.cell? (ay.add (j * 3)) = some (.int .i64 y.f0) ∧ w'.cell? ⟨(ay.add (j * 3)).block, (ay.add (j * 3)).off + 1, none⟩ = some (.int .i64 y.f1) ∧ w'.cell? ⟨(ay.add (j * 3)).block, (ay.add (j * 3)).off + 2, none⟩ = some (.int .i64 y.f2)) (first | exact ⟨x0, x1, x2, y0, y1, y2⟩ | exact ⟨z0, z1, z2, z3, z4, z5⟩ | go_keep)
                (first
                 | (go_at_call 55; refine (hcall _).mono ?_; rintro e w5 ⟨rfl, hb5⟩; have z0 := (hb5.cell (p := (ax.add (i * 3))) b0).trans x0; have z1 := (hb5.cell (p := ⟨(ax.add (i * 3)).block, (ax.add (i * 3)).off + 1, none⟩) b1).trans x1; have z2 := (hb5.cell (p := ⟨(ax.add (i * 3)).block, (ax.add (i * 3)).off + 2, none⟩) b2).trans x2; have z3 := (hb5.cell (p := (ay.add (j * 3))) b3).trans y0; have z4 := (hb5.cell (p := ⟨(ay.add (j * 3)).block, (ay.add (j * 3)).off + 1, none⟩) b4).trans y1; have z5 := (hb5.cell (p := ⟨(ay.add (j * 3)).block, (ay.add (j * 3)).off + 2, none⟩) b5).trans y2; have HB5 := Aside0.mk (HB.out.trans (((below_drew (Below.refl _ _)).trans hb5).mono HB.out.size)); have HO5 := Aside0.mk (Kd.R_below (Kd.R_drew HO.out) hb5); clear hb5))
              go_wp2
              go_roundg gk2
              case measure => omega
              case rel => exact ⟨j + 1, by go_num, ⟨by have := HJ.out; omega⟩, ⟨by have := HP2.out; simp only [Bool.false_eq_true, if_false] at this; omega⟩, HO5, HB5⟩
          · have e1 : decide ((j : Int) < (o.length : Int)) = false := decide_eq_false (by omega)
            have e1n : decide (j < o.length) = false := decide_eq_false hjl
            have HPJ : Aside0 (posMsg x o = j) := ⟨by have := HP.out; rw [List.drop_of_length_le (by omega)] at this; exact this⟩
            obtain ⟨ax, ex, x0, x1, x2⟩ := msg_at (Kd.C_below HR.out HB.out) HX.out
            subst ex
            have hdo : ∀ n, Kd.R k61 61 (wr.drewN n) w.heap.size (fun _ => True) (.slice A3 o.length c3) o := fun n => Kd.R_drewN HO.out n
            have hdb : ∀ n, Below w.heap.size w (wr.drewN n) := fun n => pw_below_drewN HB.out n
            have hd0 : ∀ n, (wr.drewN n).cell? (ax.add (i * 3)) = some (.int .i64 x.f0) := fun n => by simpa using x0
            have hd1 : ∀ n, (wr.drewN n).cell? ⟨(ax.add (i * 3)).block, (ax.add (i * 3)).off + 1, none⟩ = some (.int .i64 x.f1) := fun n => by simpa using x1
            have hd2 : ∀ n, (wr.drewN n).cell? ⟨(ax.add (i * 3)).block, (ax.add (i * 3)).off + 2, none⟩ = some (.int .i64 x.f2) := fun n => by simpa using x2
            have HDO := Aside0.mk hdo
            have HDB := Aside0.mk hdb
            have HD0 := Aside0.mk hd0
            have HD1 := Aside0.mk hd1
            have HD2 := Aside0.mk hd2
            clear HO HB x0 x1 x2 HP hjl hdo hdb hd0 hd1 hd2
            go_wp2
            go_quiet (fail)
            have HO := Aside0.mk (HDO.out nq)
            have HB := Aside0.mk (HDB.out nq)
            have x0 := HD0.out nq
            have x1 := HD1.out nq
            have x2 := HD2.out nq
            have b0 := World.block_lt_of_cell? _ _ x0
            have b1 := World.block_lt_of_cell? _ _ x1
            have b2 := World.block_lt_of_cell? _ _ x2
            clear HDO HDB HD0 HD1 HD2
            generalize wr.drewN nq = wz at *
            obtain ⟨ti, hti, _, hsz, _⟩ := info_parts info61
            have hoc : o.length ≤ c3 := (Kd.R_reads' HO.out).2.1
            have hjo : j ≤ o.length := by have := HJ.out; omega
            have hcut := cut_to (P := Tryz.prog) 29 61 .i64 Tryz.underlying29 hti A3 o.length c3 (j : Int) (by omega) (by omega) hoc
            have hcuf := cut_from (P := Tryz.prog) 29 61 .i64 Tryz.underlying29 hti 3 hsz A3 o.length c3 (j : Int) (by omega) (by omega)
            rw [Int.toNat_natCast] at hcut hcuf
            have hdr := Kd.C_drop (Kd.R_reads' HO.out).2.2 hjo hoc
            have htk := Kd.C_take (Kd.R_reads' HO.out).2.2 hjo
            rw [List.length_take, Nat.min_eq_left hjo] at htk
            rw [List.length_drop] at hdr
            change Kd.C k61 wz (if c3 = j then A3 else A3.map (·.add (j * 3))) (o.length - j) (o.drop j) at hdr
            obtain ⟨AD, hAD⟩ : ∃ AD, (if c3 = j then A3 else A3.map (·.add (j * 3))) = AD := ⟨_, rfl⟩
            rw [hAD] at hcuf hdr
            have HTK := Aside0.mk htk
            have HDR := Aside0.mk hdr
            have HBD : Aside0 (o.length + 1 < 5864062014805 ∧ j ≤ o.length) := ⟨⟨by have h1 := HL.out; have h2 := HLT.out; have h3 := HOL.out; omega, hjo⟩⟩
            clear hdr htk hAD hti hsz hoc hjo
            go_wp2
            go_region_held3 (fun w' => w'.cell? (ax.add (i * 3)) = some (.int .i64 x.f0) ∧ w'.cell? ⟨(ax.add (i * 3)).block, (ax.add (i * 3)).off + 1, none⟩ = some (.int .i64 x.f1) ∧ w'.cell? ⟨(ax.add (i * 3)).block, (ax.add (i * 3)).off + 2, none⟩ = some (.int .i64 x.f2)) (first | exact ⟨zc70, zc71, zc72⟩ | exact ⟨zc60, zc61, zc62⟩ | exact ⟨zc40, zc41, zc42⟩ | go_keep)
              (first
               | (refine Kd.R_append_rows_step k61 (w0 := wz) wz.heap.size (by rfl) (.tmp 31) (.tmp 34) 29 61 (.agg #[(.int .i64 0), (.int .i64 0), (.int .i64 0)]) 24 (by rfl) Tryz.underlying29 info61 rfl (by decide) (by omega) (.slice (some ⟨wz.heap.size, 0, none⟩) 0 0) [] (o.take j) A3 j c3 (fun _ => True) (fun _ => False) (by rfl) (by rfl) (R_empty (Go.heap_alloc_new wz.drew _) (Nat.le_refl _)) (Kd.C_below HTK.out (by repeat (first | exact Below.refl _ _ | apply below_alloc | apply pw_below_drewN | apply below_drew1 | apply below_drew))) (fun _ _ h => h) (fun _ h => h.elim) (fun _ _ => trivial) (by repeat (first | exact Below.refl _ _ | apply below_alloc | apply pw_below_drewN | apply below_drew1 | apply below_drew)) (by simp <;> omega) (by have := HBD.out; simp; omega) ?_; intro v35 w4 hr4 hb4 hg4 _; (simp only [List.nil_append] at hr4); have HR4 := Aside0.mk hr4; have HB4 := Aside0.mk hb4; have zc40 := (hb4.cell (p := (ax.add (i * 3))) b0).trans x0; have zc41 := (hb4.cell (p := ⟨(ax.add (i * 3)).block, (ax.add (i * 3)).off + 1, none⟩) b1).trans x1; have zc42 := (hb4.cell (p := ⟨(ax.add (i * 3)).block, (ax.add (i * 3)).off + 2, none⟩) b2).trans x2; clear hr4 hb4 hg4)
               | (refine Kd.R_append_rows_step k61 (w0 := wz) wz.heap.size (by rfl) (.tmp 31) (.tmp 34) 29 61 (.agg #[(.int .i64 0), (.int .i64 0), (.int .i64 0)]) 24 (by rfl) Tryz.underlying29 info61 rfl (by decide) (by omega) (.slice (some ⟨wz.heap.size, 0, none⟩) 0 0) [] (o.take j) A3 j c3 (fun _ => True) (fun _ => False) (by rfl) (by rfl) (Kd.R_drew (R_empty (Go.heap_alloc2_old wz (.cells #[] 61) (.cells #[.int .i64 x.f0, .int .i64 x.f1, .int .i64 x.f2] 61)) (Nat.le_refl _))) (Kd.C_below HTK.out (by repeat (first | exact Below.refl _ _ | apply below_alloc | apply pw_below_drewN | apply below_drew1 | apply below_drew))) (fun _ _ h => h) (fun _ h => h.elim) (fun _ _ => trivial) (by repeat (first | exact Below.refl _ _ | apply below_alloc | apply pw_below_drewN | apply below_drew1 | apply below_drew)) (by simp <;> omega) (by have := HBD.out; simp; omega) ?_; intro v35 w4 hr4 hb4 hg4 _; (simp only [List.nil_append] at hr4); have HR4 := Aside0.mk hr4; have HB4 := Aside0.mk hb4; have zc40 := (hb4.cell (p := (ax.add (i * 3))) b0).trans x0; have zc41 := (hb4.cell (p := ⟨(ax.add (i * 3)).block, (ax.add (i * 3)).off + 1, none⟩) b1).trans x1; have zc42 := (hb4.cell (p := ⟨(ax.add (i * 3)).block, (ax.add (i * 3)).off + 2, none⟩) b2).trans x2; have hX := (hg4.block (wz.heap.size + 1) (by simp <;> omega) (by simp [Value.ownBlock])).trans (show _ = some (Obj.cells #[.int .i64 x.f0, .int .i64 x.f1, .int .i64 x.f2] 61 (0, 0)) from (Go.heap_alloc2_new wz (.cells #[] 61) (.cells #[.int .i64 x.f0, .int .i64 x.f1, .int .i64 x.f2] 61))); clear hr4 hb4 hg4)
               | (refine Kd.R_append_rows_step k61 (w0 := wz) wz.heap.size (by rfl) (.tmp 31) (.tmp 34) 29 61 (.agg #[(.int .i64 0), (.int .i64 0), (.int .i64 0)]) 24 (by rfl) Tryz.underlying29 info61 rfl (by decide) (by omega) (.slice (some ⟨wz.heap.size + 1, 0, none⟩) 0 0) [] (o.take j) A3 j c3 (fun _ => True) (fun _ => False) (by rfl) (by rfl) (Kd.R_drew (R_empty (Go.heap_alloc2_new wz (.cells #[.int .i64 x.f0, .int .i64 x.f1, .int .i64 x.f2] 61) (.cells #[] 61)) (by omega))) (Kd.C_below HTK.out (by repeat (first | exact Below.refl _ _ | apply below_alloc | apply pw_below_drewN | apply below_drew1 | apply below_drew))) (fun _ _ h => h) (fun _ h => h.elim) (fun _ _ => trivial) (by repeat (first | exact Below.refl _ _ | apply below_alloc | apply pw_below_drewN | apply below_drew1 | apply below_drew)) (by simp <;> omega) (by have := HBD.out; simp; omega) ?_; intro v35 w4 hr4 hb4 hg4 _; (simp only [List.nil_append] at hr4); have HR4 := Aside0.mk hr4; have HB4 := Aside0.mk hb4; have zc40 := (hb4.cell (p := (ax.add (i * 3))) b0).trans x0; have zc41 := (hb4.cell (p := ⟨(ax.add (i * 3)).block, (ax.add (i * 3)).off + 1, none⟩) b1).trans x1; have zc42 := (hb4.cell (p := ⟨(ax.add (i * 3)).block, (ax.add (i * 3)).off + 2, none⟩) b2).trans x2; have hX := (hg4.block (wz.heap.size) (by simp <;> omega) (by simp [Value.ownBlock])).trans (show _ = some (Obj.cells #[.int .i64 x.f0, .int .i64 x.f1, .int .i64 x.f2] 61 (0, 0)) from (Go.heap_alloc2_old wz (.cells #[.int .i64 x.f0, .int .i64 x.f1, .int .i64 x.f2] 61) (.cells #[] 61))); clear hr4 hb4 hg4)
               | (refine Kd.R_append_step k61 (w0 := wz) wz.heap.size (by rfl) (.tmp 35) (.tmp 40) 29 61 (.agg #[(.int .i64 0), (.int .i64 0), (.int .i64 0)]) 24 (by rfl) Tryz.underlying29 info61 rfl (by decide) (by omega) v35 (o.take j) x [.int .i64 x.f0, .int .i64 x.f1, .int .i64 x.f2] (fun _ => True) (fun _ => False) (by rfl) (by rfl) (k61_mkM _ _ _ x) (fun _ h => h.elim) (fun _ _ => trivial) HR4.out HB4.out HB4.out.size (by have := HBD.out; rw [List.length_take]; omega) ?_; intro v41 w6 hr6 hb6 _ _; have HR6 := Aside0.mk hr6; have HB6 := Aside0.mk hb6; have zc60 := (hb6.cell (p := (ax.add (i * 3))) b0).trans x0; have zc61 := (hb6.cell (p := ⟨(ax.add (i * 3)).block, (ax.add (i * 3)).off + 1, none⟩) b1).trans x1; have zc62 := (hb6.cell (p := ⟨(ax.add (i * 3)).block, (ax.add (i * 3)).off + 2, none⟩) b2).trans x2; clear hr6 hb6 HR4)
               | (refine Kd.R_append_rows_step k61 (w0 := wz) wz.heap.size (by rfl) (.tmp 35) (.tmp 40) 29 61 (.agg #[(.int .i64 0), (.int .i64 0), (.int .i64 0)]) 24 (by rfl) Tryz.underlying29 info61 rfl (by decide) (by omega) v35 (o.take j) [x] _ 1 1 (fun _ => True) (fun _ => False) (by rfl) (by rfl) HR4.out (C_one hX) (fun _ _ h => h) (fun _ h => h.elim) (fun _ _ => trivial) HB4.out HB4.out.size (by have := HBD.out; rw [List.length_take]; omega) ?_; intro v41 w6 hr6 hb6 _ _; have HR6 := Aside0.mk hr6; have HB6 := Aside0.mk hb6; have zc60 := (hb6.cell (p := (ax.add (i * 3))) b0).trans x0; have zc61 := (hb6.cell (p := ⟨(ax.add (i * 3)).block, (ax.add (i * 3)).off + 1, none⟩) b1).trans x1; have zc62 := (hb6.cell (p := ⟨(ax.add (i * 3)).block, (ax.add (i * 3)).off + 2, none⟩) b2).trans x2; clear hr6 hb6 HR4)
               | (refine Kd.R_append_rows_step k61 (w0 := wz) wz.heap.size (by rfl) (.tmp 41) (.tmp 44) 29 61 (.agg #[(.int .i64 0), (.int .i64 0), (.int .i64 0)]) 24 (by rfl) Tryz.underlying29 info61 rfl (by decide) (by omega) v41 (o.take j ++ [x]) (o.drop j) AD (o.length - j) (c3 - j) (fun _ => True) (fun _ => False) (by rfl) (by rfl) HR6.out (Kd.C_below HDR.out HB6.out) (fun _ _ h => h) (fun _ h => h.elim) (fun _ _ => trivial) HB6.out HB6.out.size (by have := HBD.out; rw [List.length_append, List.length_take]; simp; omega) ?_; intro v45 w7 hr7 hb7 _ _; have HR7 := Aside0.mk hr7; have HB7 := Aside0.mk hb7; have zc70 := (hb7.cell (p := (ax.add (i * 3))) b0).trans x0; have zc71 := (hb7.cell (p := ⟨(ax.add (i * 3)).block, (ax.add (i * 3)).off + 1, none⟩) b1).trans x1; have zc72 := (hb7.cell (p := ⟨(ax.add (i * 3)).block, (ax.add (i * 3)).off + 2, none⟩) b2).trans x2; clear hr7 hb7 HR6))
            all_goals (go_wp2; go_roundg gk1; (case measure => omega); (case rel => exact ⟨i + 1, insMsg x o, by go_num, ⟨by have := HI.out; omega⟩, ⟨by rw [insMsg_len, HOL.out]⟩, HQ2, ⟨by have h7 := Kd.R_lower HR7.out HB.out.size; unfold insMsg; rw [HPJ.out]; exact h7⟩, ⟨HB.out.trans (HB7.out.mono HB.out.size)⟩⟩))
      · have d1 : decide ((i : Int) < (l0.length : Int)) = false := decide_eq_false (by omega)
        have d1n : decide (i < l0.length) = false := decide_eq_false (by omega)
        have HO3 : Aside0 (Kd.R k61 61 wr w.heap.size (fun _ => True) u3 r) := ⟨by
          have h2 := HQ.out
          rw [List.drop_of_length_le (by omega)] at h2
          unfold insAll at h2
          rw [← h2]; exact HO.out⟩
        clear HO HI hlt HQ HQ0
        go_wp2
        go_ret
        exact ⟨_, rfl, HO3.out, HB.out⟩
  · rw [if_neg hl] at h
    exact absurd h (by simp)
end

/-! ### fold_To: function 46 (given) -/
def fold_To.f (l0 : List S61) (a1 : Int) : Option (List S61) := if l0.length < 5864062014805 then some (sortMsg (l0.filter fun x => x.f1 == a1)) else none
section
open Go.Sort Go.Shelf Go.Proofs.YtpndhkeoljoapaaGreat.Bridge
set_option maxHeartbeats 8000000 in
theorem fold_To_1.on (v : Int) (b : Nat) (w : World) (hb : b < w.heap.size) (hc : w.cell? ⟨b, 0, none⟩ = some (.int .i64 v)) : PredOn Tryz.prog 68 #[.pointer (some ⟨b, 0, none⟩)] (fun x => .agg (encMsg x).toArray) (fun x => x.f1 == v) w := fun W x hW => by
  have hc2 : W.cell? ⟨b, 0, none⟩ = some (.int .i64 v) := (hW.cell (p := ⟨b, 0, none⟩) hb).trans hc
  have hbW : b < W.heap.size := Nat.lt_of_lt_of_le hb hW.size
  have hne : b ≠ W.heap.size := by omega
  clear hc hb hW
  show Calls Tryz.prog 68 #[.agg #[.int .i64 x.f0, .int .i64 x.f1, .int .i64 x.f2], .pointer (some ⟨b, 0, none⟩)] W _
  go_enter Tryz.func68, Tryz.ntmps68
  go_wp2
  all_goals (go_ret; exact ⟨by first | rfl | (simp [*]; done), by repeat (first | exact Below.refl _ _ | apply below_alloc | apply pw_below_drewN)⟩)
set_option maxHeartbeats 8000000 in
set_option maxRecDepth 100000 in
theorem fold_To.calls (A0 : Option Addr) (c0 : Nat) (l0 : List S61) (a1 : Int) (r : List S61) (w : World) (hr0 : Kd.C k61 w A0 l0.length l0) (hc0 : l0.length ≤ c0) (h : fold_To.f l0 a1 = some r) :
    Calls Tryz.prog 46 #[.slice A0 l0.length c0, .int .i64 a1] w fun e w' => ∃ v0_ : Value, e = .returned (v0_) ∧ Kd.R k61 61 w' w.heap.size (fun _ => True) v0_ r ∧ Below w.heap.size w w' := by
  unfold fold_To.f at h
  by_cases c2 : l0.length < 5864062014805
  · rw [if_pos c2] at h
    obtain rfl := Option.some.inj h
    clear h
    have eg : ∀ args w, (callFunc 68 args).run Tryz.prog w = .ok (.enter 68 args) w := enters_of Tryz.func68 (by kernel_rfl) rfl
    obtain ⟨W1, hW1⟩ : ∃ W1, w.alloc (.cells #[.int .i64 a1] 3) = W1 := ⟨_, rfl⟩
    have hb1 : Below w.heap.size w W1 := hW1 ▸ below_alloc (Below.refl _ _) _
    have hs1 : w.heap.size < W1.heap.size := by rw [← hW1]; simp
    have hcell : W1.cell? ⟨w.heap.size, 0, none⟩ = some (.int .i64 a1) := by rw [← hW1]; simp
    have HP := fold_pick.on (fun x => x.f1 == a1) 68 #[.pointer (some ⟨w.heap.size, 0, none⟩)] eg A0 c0 l0 W1 (Kd.C_below hr0 hb1) hc0 c2 (fold_To_1.on a1 _ W1 hs1 hcell)
    have hfl := List.length_filter_le (fun x : S61 => x.f1 == a1) l0
    generalize hq : l0.filter (fun x => x.f1 == a1) = q at HP hfl ⊢
    have HF : Aside0 (q.length < 5864062014805) := ⟨by omega⟩
    have HS : ∀ (W : World) (A : Option Addr) (c : Nat), Kd.C k61 W A q.length q → q.length ≤ c → Calls Tryz.prog 29 #[.slice A q.length c] W fun e w' => ∃ v0_ : Value, e = .returned (v0_) ∧ Kd.R k61 61 w' W.heap.size (fun _ => True) v0_ (sortMsg q) ∧ Below W.heap.size W w' :=
      fun W A c hr hc => fold_Sort.calls A c q (sortMsg q) W hr hc (by unfold fold_Sort.f; rw [if_pos HF.out])
    have HB := Aside0.mk hb1
    have HW := Aside0.mk hW1
    have HSZ := Aside0.mk hs1
    clear hq hfl hcell hb1 hs1 c2 hr0 hc0
    rw [← hW1] at HP
    clear hW1
    go_enter Tryz.func46, Tryz.ntmps46
    go_wp2_with (first | (go_at_call 67; refine HP.mono ?_; rintro e w2 ⟨v2, rfl, hr, hb⟩; rw [HW.out] at hr hb; have HB2 := Aside0.mk (HB.out.trans (hb.mono HB.out.size)); obtain ⟨A2, c2, e2⟩ := Kd.R_slice hr; subst e2; have HR2 := Aside0.mk (Kd.R_reads' hr).2; clear hr hb HB HW HSZ) | (go_at_call 29; refine (HS _ _ _ HR2.out.2 HR2.out.1).mono ?_; rintro e w3 ⟨v3, rfl, hr, hb⟩; have HR3 := Aside0.mk (Kd.R_lower hr HB2.out.size); have HB3 := Aside0.mk (HB2.out.trans (hb.mono HB2.out.size)); clear hr hb))
    go_ret
    exact ⟨_, rfl, HR3.out, HB3.out⟩
  · rw [if_neg c2] at h
    exact absurd h (by simp)
end

/-! ### prog_Fold: function 47 -/
mutual
def prog_Fold.j0 : Nat → ByteArray → Int → Int → Bool → Option (Int × Int)
  | 0, _, _, _, _ => none
  | k + 1, x0, x1, x2, x17 => if x17 = true then (some (0, 71)) else (if x0.toList = ([109, 97, 120] : List UInt8) then ((prog_great.f (mx x1 x2)).bind fun t122 => (if t122 = true then (some (0, 71)) else (some (mx x1 x2, 0)))) else (if x0.toList = ([108, 97, 98, 101, 108] : List UInt8) then (prog_Fold.j1 k x1 x2 (wrap64 (x1 + x2)) (x0.toList == ([108, 97, 98, 101, 108] : List UInt8))) else (if x0.toList = ([115, 115, 115, 112] : List UInt8) then (prog_Fold.j1 k x1 x2 (wrap64 (x1 + x2)) (x0.toList == ([115, 115, 115, 112] : List UInt8))) else (prog_Fold.j1 k x1 x2 (wrap64 (x1 + x2)) (x0.toList == ([98, 102, 115] : List UInt8))))))
def prog_Fold.j1 : Nat → Int → Int → Int → Bool → Option (Int × Int)
  | 0, _, _, _, _ => none
  | k + 1, x1, x2, x8, x27 => if x27 = true then ((prog_great.f (mn x1 x2)).bind fun t123 => (if t123 = true then (some (0, 71)) else (some (mn x1 x2, 0)))) else ((prog_great.f x8).bind fun t124 => (if t124 = true then (some (0, 71)) else (some (x8, 0))))
end
def prog_Fold.f (k : Nat) (a0 : ByteArray) (a1 : Int) (a2 : Int) : Option (Int × Int) := (prog_Known.f k a0).bind fun t119 => (if t119 = true then ((prog_great.f a1).bind fun t120 => (if t120 = true then (prog_Fold.j0 k a0 a1 a2 true) else ((prog_great.f a2).bind fun t121 => (prog_Fold.j0 k a0 a1 a2 t121)))) else (some (0, 70)))
theorem prog_Fold.mono_l : ∀ k, (∀ y0 y1 y2 y3, LeO (prog_Fold.j0 k y0 y1 y2 y3) (prog_Fold.j0 (k + 1) y0 y1 y2 y3)) ∧ (∀ y0 y1 y2 y3, LeO (prog_Fold.j1 k y0 y1 y2 y3) (prog_Fold.j1 (k + 1) y0 y1 y2 y3))
  | 0 => ⟨fun _ _ _ _ r h => by simp [prog_Fold.j0] at h, fun _ _ _ _ r h => by simp [prog_Fold.j1] at h⟩
  | k + 1 => by
    obtain ⟨ih0, ih1⟩ := prog_Fold.mono_l k
    refine ⟨?_, ?_⟩
    · intro y0 y1 y2 y3
      unfold prog_Fold.j0
      repeat' first
      | (with_reducible exact ih0 _ _ _ _)
      | (with_reducible exact ih1 _ _ _ _)
      | (with_reducible exact prog_Known.mono _ _)
      | (with_reducible exact LeO.refl _)
      | (with_reducible exact LeO.none _)
      | (with_reducible refine LeO.ite ?_ ?_)
      | (with_reducible refine LeO.bind ?_ (fun _ => ?_))
      | exact ih0 _ _ _ _
      | exact ih1 _ _ _ _
      | exact prog_Known.mono _ _
      | exact LeO.none _
      | refine LeO.ite ?_ ?_
      | refine LeO.bind ?_ (fun _ => ?_)
    · intro y0 y1 y2 y3
      unfold prog_Fold.j1
      repeat' first
      | (with_reducible exact ih0 _ _ _ _)
      | (with_reducible exact ih1 _ _ _ _)
      | (with_reducible exact prog_Known.mono _ _)
      | (with_reducible exact LeO.refl _)
      | (with_reducible exact LeO.none _)
      | (with_reducible refine LeO.ite ?_ ?_)
      | (with_reducible refine LeO.bind ?_ (fun _ => ?_))
      | exact ih0 _ _ _ _
      | exact ih1 _ _ _ _
      | exact prog_Known.mono _ _
      | exact LeO.none _
      | refine LeO.ite ?_ ?_
      | refine LeO.bind ?_ (fun _ => ?_)
theorem prog_Fold.mono : ∀ a0 a1 a2 k, LeO (prog_Fold.f k a0 a1 a2) (prog_Fold.f (k + 1) a0 a1 a2) := by
  intro a0 a1 a2 k
  obtain ⟨ih0, ih1⟩ := prog_Fold.mono_l k
  unfold prog_Fold.f
  repeat' first
      | (with_reducible exact ih0 _ _ _ _)
      | (with_reducible exact ih1 _ _ _ _)
      | (with_reducible exact prog_Known.mono _ _)
      | (with_reducible exact LeO.refl _)
      | (with_reducible exact LeO.none _)
      | (with_reducible refine LeO.ite ?_ ?_)
      | (with_reducible refine LeO.bind ?_ (fun _ => ?_))
      | exact ih0 _ _ _ _
      | exact ih1 _ _ _ _
      | exact prog_Known.mono _ _
      | exact LeO.none _
      | refine LeO.ite ?_ ?_
      | refine LeO.bind ?_ (fun _ => ?_)
set_option maxHeartbeats 8000000 in
set_option maxRecDepth 100000 in
theorem prog_Fold.calls (k : Nat) (a0 : ByteArray) (a1 : Int) (a2 : Int) (r1 : Int) (r2 : Int) (w : World) (h : prog_Fold.f k a0 a1 a2 = some (r1, r2)) :
    Calls Tryz.prog 47 #[.string a0, .int .i64 a1, .int .i64 a2] w fun e w' => e = .returned (.tuple #[.int .i64 r1, .int .i64 r2]) ∧ Below w.heap.size w w' := by
  have HB := Aside0.mk (Below.refl w.heap.size w)
  have H : ((prog_Known.f k a0).bind fun t119 => (if t119 = true then ((prog_great.f a1).bind fun t120 => (if t120 = true then (prog_Fold.j0 k a0 a1 a2 true) else ((prog_great.f a2).bind fun t121 => (prog_Fold.j0 k a0 a1 a2 t121)))) else (some (0, 70)))) = some (r1, r2) := h
  clear h
  replace H := Option.bind_eq_some_iff.mp H
  obtain ⟨t119, A40, H⟩ := H
  replace H : (if t119 = true then ((prog_great.f a1).bind fun t120 => (if t120 = true then (prog_Fold.j0 k a0 a1 a2 true) else ((prog_great.f a2).bind fun t121 => (prog_Fold.j0 k a0 a1 a2 t121)))) else (some (0, 70))) = some (r1, r2) := H
  have A4 := Aside0.mk A40
  clear A40
  by_cases c5 : t119 = true
  · subst c5
    have H1 : ((prog_great.f a1).bind fun t120 => (if t120 = true then (prog_Fold.j0 k a0 a1 a2 true) else ((prog_great.f a2).bind fun t121 => (prog_Fold.j0 k a0 a1 a2 t121)))) = some (r1, r2) := by rw [if_pos rfl] at H; exact H
    clear H
    have H := H1
    clear H1
    have HC6 := Aside0.mk H
    clear H
    go_enter Tryz.func47, Tryz.ntmps47
    go_upto_region 3 with (first | ((with_reducible refine gate_callee (f := 40) rfl ?_); refine gL_ (some 10) Tryz.func40 #[.string a0] ?_; (with_reducible refine (prog_Known.calls k a0 true _ A4.out).mono ?_); rintro e w7 ⟨rfl, hb⟩; refine ⟨_, rfl, ?_⟩; replace HB := bS HB hb; clear hb))
    (try simp only [Act.put, List.setIfInBounds_toArray, List.set_cons_zero, List.set_cons_succ])
    go_cut [17] (fun v17 wc => ∃ (kq : Nat) (x17_5 : Bool), v17 = .bool x17_5 ∧ Aside0 (prog_Fold.j0 kq a0 a1 a2 x17_5 = some (r1, r2)) ∧ Aside0 (kq ≤ k) ∧ Aside0 (Below w.heap.size w wc))
    case first =>
      have H := HC6.out
      clear HC6
      replace H := Option.bind_eq_some_iff.mp H
      obtain ⟨t120, A80, H⟩ := H
      replace H : (if t120 = true then (prog_Fold.j0 k a0 a1 a2 true) else ((prog_great.f a2).bind fun t121 => (prog_Fold.j0 k a0 a1 a2 t121))) = some (r1, r2) := H
      have A8 := Aside0.mk A80
      clear A80
      by_cases c9 : t120 = true
      · subst c9
        have H1 : (prog_Fold.j0 k a0 a1 a2 true) = some (r1, r2) := by rw [if_pos rfl] at H; exact H
        clear H
        have H := H1
        clear H1
        have H' := Aside0.mk H
        clear H
        go_wp2_with (first | ((with_reducible refine gate_callee (f := 41) rfl ?_); refine gL_ (some 13) Tryz.func41 #[.int .i64 a1] ?_; (with_reducible refine (prog_great.calls a1 true _ A8.out).mono ?_); rintro e w' ⟨rfl, ⟨nd, rfl⟩⟩; refine ⟨_, rfl, ?_⟩))
        go_meet
        case rel => exact ⟨_, (true), (by first | rfl | (simp; done) | (simp [*]; done)), H', ⟨by first | omega | exact Nat.le_refl _⟩, ⟨kB HB.out⟩⟩
      · replace c9 := Bool.eq_false_iff.mpr c9
        subst c9
        have H1 : ((prog_great.f a2).bind fun t121 => (prog_Fold.j0 k a0 a1 a2 t121)) = some (r1, r2) := by rw [if_neg (show ¬ (false = true) by decide)] at H; exact H
        clear H
        have H := H1
        clear H1
        replace H := Option.bind_eq_some_iff.mp H
        obtain ⟨t121, A100, H⟩ := H
        replace H : (prog_Fold.j0 k a0 a1 a2 t121) = some (r1, r2) := H
        have A10 := Aside0.mk A100
        clear A100
        have H' := Aside0.mk H
        clear H
        go_wp2_with (first | ((with_reducible refine gate_callee (f := 41) rfl ?_); refine gL_ (some 13) Tryz.func41 #[.int .i64 a1] ?_; (with_reducible refine (prog_great.calls a1 false _ A8.out).mono ?_); rintro e w' ⟨rfl, ⟨nd, rfl⟩⟩; refine ⟨_, rfl, ?_⟩; (try clear A8)) | (go_at_call 41; (with_reducible refine (prog_great.calls a2 t121 _ A10.out).mono ?_); rintro e w' ⟨rfl, ⟨nd, rfl⟩⟩; (try clear A10)))
        go_meet
        case rel => exact ⟨_, (t121), (by first | rfl | (simp; done) | (simp [*]; done)), H', ⟨by first | omega | exact Nat.le_refl _⟩, ⟨kB HB.out⟩⟩
    case rest =>
      clear HC6
      try clear p2
      try clear c4
      try clear c5
      try clear c9
      obtain ⟨kq, x17_5, rfl, HA, HJ5, HB⟩ := hcut
      cases kq with
      | zero => exact absurd HA.out (by simp [prog_Fold.j0])
      | succ kj5 =>
        have H := HA.out
        clear HA
        simp only [prog_Fold.j0] at H
        by_cases c11 : x17_5 = true
        · subst c11
          have H1 : (some (0, 71)) = some (r1, r2) := by rw [if_pos rfl] at H; exact H
          clear H
          have H := H1
          clear H1
          simp only [Option.some.injEq, Prod.mk.injEq] at H
          obtain ⟨rfl, rfl⟩ := H
          go_wp2
          go_ret2
          exact ⟨by first | rfl | (simp [errW_none, errW_some] <;> rfl) | (simp [*, errW_none, errW_some] <;> rfl), by exact kB HB.out⟩
        · replace c11 := Bool.eq_false_iff.mpr c11
          subst c11
          have H1 : (if a0.toList = ([109, 97, 120] : List UInt8) then ((prog_great.f (mx a1 a2)).bind fun t122 => (if t122 = true then (some (0, 71)) else (some (mx a1 a2, 0)))) else (if a0.toList = ([108, 97, 98, 101, 108] : List UInt8) then (prog_Fold.j1 kj5 a1 a2 (wrap64 (a1 + a2)) (a0.toList == ([108, 97, 98, 101, 108] : List UInt8))) else (if a0.toList = ([115, 115, 115, 112] : List UInt8) then (prog_Fold.j1 kj5 a1 a2 (wrap64 (a1 + a2)) (a0.toList == ([115, 115, 115, 112] : List UInt8))) else (prog_Fold.j1 kj5 a1 a2 (wrap64 (a1 + a2)) (a0.toList == ([98, 102, 115] : List UInt8)))))) = some (r1, r2) := by rw [if_neg (show ¬ (false = true) by decide)] at H; exact H
          clear H
          have H := H1
          clear H1
          by_cases c12 : a0.toList = ([109, 97, 120] : List UInt8)
          · rw [if_pos c12] at H
            have c12b0 : (a0.toList == ([109, 97, 120] : List UInt8)) = true := beq_iff_eq.mpr c12
            have c12b1 : (a0.toList != ([109, 97, 120] : List UInt8)) = false := bne_eq_false_iff_eq.mpr c12
            clear c12
            obtain ⟨ji13, hji13⟩ : ∃ j_ : Int, (mx a1 a2) = j_ := ⟨_, rfl⟩
            replace H : ((prog_great.f (ji13)).bind fun t122 => (if t122 = true then (some (0, 71)) else (some (ji13, 0)))) = some (r1, r2) := by first | (rw [hji13] at H; exact H) | (simp only [hji13] at H ⊢; exact H)
            have hji13_ : (if a1 < a2 then a2 else a1) = ji13 := hji13
            replace H := Option.bind_eq_some_iff.mp H
            obtain ⟨t122, A140, H⟩ := H
            replace H : (if t122 = true then (some (0, 71)) else (some (ji13, 0))) = some (r1, r2) := H
            have A14 := Aside0.mk A140
            clear A140
            by_cases c15 : t122 = true
            · subst c15
              have H1 : (some (0, 71)) = some (r1, r2) := by rw [if_pos rfl] at H; exact H
              clear H
              have H := H1
              clear H1
              simp only [Option.some.injEq, Prod.mk.injEq] at H
              obtain ⟨rfl, rfl⟩ := H
              go_wp2_with (first | ((with_reducible refine gate_callee (f := 41) rfl ?_); refine goesL_ (some 35) rfl rfl Tryz.func41 (by kernel_rfl) rfl #[.int .i64 ji13] rfl (by (try simp only [List.map_toArray, List.map_cons, List.map_nil]); first | done | (simp only [hji13]; rfl) | rfl | (simp only [List.length_drop, List.length_take]; rfl)) ?_; (with_reducible refine (prog_great.calls ji13 true _ A14.out).mono ?_); rintro e w' ⟨rfl, ⟨nd, rfl⟩⟩; refine ⟨_, rfl, ?_⟩))
              go_ret2
              exact ⟨by first | rfl | (simp [errW_none, errW_some] <;> rfl) | (simp only [← hji13]; first | rfl | (simp [errW_none, errW_some] <;> rfl)) | (simp [*, errW_none, errW_some] <;> rfl), by exact kB HB.out⟩
            · replace c15 := Bool.eq_false_iff.mpr c15
              subst c15
              have H1 : (some (ji13, 0)) = some (r1, r2) := by rw [if_neg (show ¬ (false = true) by decide)] at H; exact H
              clear H
              have H := H1
              clear H1
              simp only [Option.some.injEq, Prod.mk.injEq] at H
              obtain ⟨rfl, rfl⟩ := H
              go_wp2_with (first | ((with_reducible refine gate_callee (f := 41) rfl ?_); refine goesL_ (some 35) rfl rfl Tryz.func41 (by kernel_rfl) rfl #[.int .i64 ji13] rfl (by (try simp only [List.map_toArray, List.map_cons, List.map_nil]); first | done | (simp only [hji13]; rfl) | rfl | (simp only [List.length_drop, List.length_take]; rfl)) ?_; (with_reducible refine (prog_great.calls ji13 false _ A14.out).mono ?_); rintro e w' ⟨rfl, ⟨nd, rfl⟩⟩; refine ⟨_, rfl, ?_⟩))
              go_ret2
              exact ⟨by first | rfl | (simp [errW_none, errW_some] <;> rfl) | (simp only [← hji13]; first | rfl | (simp [errW_none, errW_some] <;> rfl)) | (simp [*, errW_none, errW_some] <;> rfl), by exact kB HB.out⟩
          · rw [if_neg c12] at H
            have c12b0 : (a0.toList == ([109, 97, 120] : List UInt8)) = false := beq_eq_false_iff_ne.mpr c12
            have c12b1 : (a0.toList != ([109, 97, 120] : List UInt8)) = true := bne_iff_ne.mpr c12
            have HC16 := Aside0.mk H
            clear H
            go_upto_if 27 with (fail)
            go_cut [27] (fun v27 wc => ∃ (kq : Nat) (x27_15 : Bool), v27 = .bool x27_15 ∧ Aside0 (prog_Fold.j1 kq a1 a2 (wrap64 (a1 + a2)) x27_15 = some (r1, r2)) ∧ Aside0 (kq ≤ kj5) ∧ Aside0 (Below w.heap.size w wc))
            case first =>
              have H := HC16.out
              clear HC16
              by_cases c17 : a0.toList = ([108, 97, 98, 101, 108] : List UInt8)
              · rw [if_pos c17] at H
                have c17b0 : (a0.toList == ([108, 97, 98, 101, 108] : List UInt8)) = true := beq_iff_eq.mpr c17
                have c17b1 : (a0.toList != ([108, 97, 98, 101, 108] : List UInt8)) = false := bne_eq_false_iff_eq.mpr c17
                clear c17
                (first | rw [c17b0] | (simp only [i64_w, i32_w]; rw [c17b0]) | skip)
                have H' := Aside0.mk H
                clear H
                go_wp2
                go_meet
                case rel => exact ⟨_, ((a0.toList == ([108, 97, 98, 101, 108] : List UInt8))), (by first | rfl | (simp; done) | (simp [*]; done)), H', ⟨by have := HJ5.out; first | omega | exact Nat.le_refl _⟩, ⟨kB HB.out⟩⟩
              · rw [if_neg c17] at H
                have c17b0 : (a0.toList == ([108, 97, 98, 101, 108] : List UInt8)) = false := beq_eq_false_iff_ne.mpr c17
                have c17b1 : (a0.toList != ([108, 97, 98, 101, 108] : List UInt8)) = true := bne_iff_ne.mpr c17
                (first | rw [c17b0] | (simp only [i64_w, i32_w]; rw [c17b0]) | skip)
                by_cases c18 : a0.toList = ([115, 115, 115, 112] : List UInt8)
                · rw [if_pos c18] at H
                  have c18b0 : (a0.toList == ([115, 115, 115, 112] : List UInt8)) = true := beq_iff_eq.mpr c18
                  have c18b1 : (a0.toList != ([115, 115, 115, 112] : List UInt8)) = false := bne_eq_false_iff_eq.mpr c18
                  clear c18
                  have H' := Aside0.mk H
                  clear H
                  go_wp2
                  go_meet
                  case rel => exact ⟨_, ((a0.toList == ([115, 115, 115, 112] : List UInt8))), (by first | rfl | (simp; done) | (simp [*]; done)), H', ⟨by have := HJ5.out; first | omega | exact Nat.le_refl _⟩, ⟨kB HB.out⟩⟩
                · rw [if_neg c18] at H
                  have c18b0 : (a0.toList == ([115, 115, 115, 112] : List UInt8)) = false := beq_eq_false_iff_ne.mpr c18
                  have c18b1 : (a0.toList != ([115, 115, 115, 112] : List UInt8)) = true := bne_iff_ne.mpr c18
                  have H' := Aside0.mk H
                  clear H
                  go_wp2
                  go_meet
                  case rel => exact ⟨_, ((a0.toList == ([98, 102, 115] : List UInt8))), (by first | rfl | (simp; done) | (simp [*]; done)), H', ⟨by have := HJ5.out; first | omega | exact Nat.le_refl _⟩, ⟨kB HB.out⟩⟩
            case rest =>
              clear HC16
              try clear c1
              try clear p2
              try clear c4
              try clear c5
              try clear p6
              try clear c9
              try clear c11
              try clear c12
              try clear c12b0
              try clear c12b1
              try clear c15
              try clear c17
              try clear c17b0
              try clear c17b1
              try clear c18
              try clear c18b0
              try clear c18b1
              try clear p2
              obtain ⟨kq, x27_15, rfl, HA, HJ15, HB⟩ := hcut
              cases kq with
              | zero => exact absurd HA.out (by simp [prog_Fold.j1])
              | succ kj15 =>
                have H := HA.out
                clear HA
                simp only [prog_Fold.j1] at H
                by_cases c19 : x27_15 = true
                · subst c19
                  have H1 : ((prog_great.f (mn a1 a2)).bind fun t123 => (if t123 = true then (some (0, 71)) else (some (mn a1 a2, 0)))) = some (r1, r2) := by rw [if_pos rfl] at H; exact H
                  clear H
                  have H := H1
                  clear H1
                  obtain ⟨ji20, hji20⟩ : ∃ j_ : Int, (mn a1 a2) = j_ := ⟨_, rfl⟩
                  replace H : ((prog_great.f (ji20)).bind fun t123 => (if t123 = true then (some (0, 71)) else (some (ji20, 0)))) = some (r1, r2) := by first | (rw [hji20] at H; exact H) | (simp only [hji20] at H ⊢; exact H)
                  have hji20_ : (if a2 < a1 then a2 else a1) = ji20 := hji20
                  replace H := Option.bind_eq_some_iff.mp H
                  obtain ⟨t123, A210, H⟩ := H
                  replace H : (if t123 = true then (some (0, 71)) else (some (ji20, 0))) = some (r1, r2) := H
                  have A21 := Aside0.mk A210
                  clear A210
                  by_cases c22 : t123 = true
                  · subst c22
                    have H1 : (some (0, 71)) = some (r1, r2) := by rw [if_pos rfl] at H; exact H
                    clear H
                    have H := H1
                    clear H1
                    simp only [Option.some.injEq, Prod.mk.injEq] at H
                    obtain ⟨rfl, rfl⟩ := H
                    go_wp2_with (first | ((with_reducible refine gate_callee (f := 41) rfl ?_); refine goesL_ (some 35) rfl rfl Tryz.func41 (by kernel_rfl) rfl #[.int .i64 ji20] rfl (by (try simp only [List.map_toArray, List.map_cons, List.map_nil]); first | done | (simp only [hji20]; rfl) | rfl | (simp only [List.length_drop, List.length_take]; rfl)) ?_; (with_reducible refine (prog_great.calls ji20 true _ A21.out).mono ?_); rintro e w' ⟨rfl, ⟨nd, rfl⟩⟩; refine ⟨_, rfl, ?_⟩))
                    go_ret2
                    exact ⟨by first | rfl | (simp [errW_none, errW_some] <;> rfl) | (simp only [← hji20]; first | rfl | (simp [errW_none, errW_some] <;> rfl)) | (simp [*, errW_none, errW_some] <;> rfl), by exact kB HB.out⟩
                  · replace c22 := Bool.eq_false_iff.mpr c22
                    subst c22
                    have H1 : (some (ji20, 0)) = some (r1, r2) := by rw [if_neg (show ¬ (false = true) by decide)] at H; exact H
                    clear H
                    have H := H1
                    clear H1
                    simp only [Option.some.injEq, Prod.mk.injEq] at H
                    obtain ⟨rfl, rfl⟩ := H
                    go_wp2_with (first | ((with_reducible refine gate_callee (f := 41) rfl ?_); refine goesL_ (some 35) rfl rfl Tryz.func41 (by kernel_rfl) rfl #[.int .i64 ji20] rfl (by (try simp only [List.map_toArray, List.map_cons, List.map_nil]); first | done | (simp only [hji20]; rfl) | rfl | (simp only [List.length_drop, List.length_take]; rfl)) ?_; (with_reducible refine (prog_great.calls ji20 false _ A21.out).mono ?_); rintro e w' ⟨rfl, ⟨nd, rfl⟩⟩; refine ⟨_, rfl, ?_⟩))
                    go_ret2
                    exact ⟨by first | rfl | (simp [errW_none, errW_some] <;> rfl) | (simp only [← hji20]; first | rfl | (simp [errW_none, errW_some] <;> rfl)) | (simp [*, errW_none, errW_some] <;> rfl), by exact kB HB.out⟩
                · replace c19 := Bool.eq_false_iff.mpr c19
                  subst c19
                  have H1 : ((prog_great.f (wrap64 (a1 + a2))).bind fun t124 => (if t124 = true then (some (0, 71)) else (some ((wrap64 (a1 + a2)), 0)))) = some (r1, r2) := by rw [if_neg (show ¬ (false = true) by decide)] at H; exact H
                  clear H
                  have H := H1
                  clear H1
                  replace H := Option.bind_eq_some_iff.mp H
                  obtain ⟨t124, A230, H⟩ := H
                  replace H : (if t124 = true then (some (0, 71)) else (some ((wrap64 (a1 + a2)), 0))) = some (r1, r2) := H
                  have A23 := Aside0.mk A230
                  clear A230
                  by_cases c24 : t124 = true
                  · subst c24
                    have H1 : (some (0, 71)) = some (r1, r2) := by rw [if_pos rfl] at H; exact H
                    clear H
                    have H := H1
                    clear H1
                    simp only [Option.some.injEq, Prod.mk.injEq] at H
                    obtain ⟨rfl, rfl⟩ := H
                    go_wp2_with (first | ((with_reducible refine gate_callee (f := 41) rfl ?_); refine gL_ (some 35) Tryz.func41 #[.int .i64 (wrap64 (a1 + a2))] ?_; (with_reducible refine (prog_great.calls (wrap64 (a1 + a2)) true _ A23.out).mono ?_); rintro e w' ⟨rfl, ⟨nd, rfl⟩⟩; refine ⟨_, rfl, ?_⟩))
                    go_ret2
                    exact ⟨by first | rfl | (simp [errW_none, errW_some] <;> rfl) | (simp [*, errW_none, errW_some] <;> rfl), by exact kB HB.out⟩
                  · replace c24 := Bool.eq_false_iff.mpr c24
                    subst c24
                    have H1 : (some ((wrap64 (a1 + a2)), 0)) = some (r1, r2) := by rw [if_neg (show ¬ (false = true) by decide)] at H; exact H
                    clear H
                    have H := H1
                    clear H1
                    simp only [Option.some.injEq, Prod.mk.injEq] at H
                    obtain ⟨rfl, rfl⟩ := H
                    go_wp2_with (first | ((with_reducible refine gate_callee (f := 41) rfl ?_); refine gL_ (some 35) Tryz.func41 #[.int .i64 (wrap64 (a1 + a2))] ?_; (with_reducible refine (prog_great.calls (wrap64 (a1 + a2)) false _ A23.out).mono ?_); rintro e w' ⟨rfl, ⟨nd, rfl⟩⟩; refine ⟨_, rfl, ?_⟩))
                    go_ret2
                    exact ⟨by first | rfl | (simp [errW_none, errW_some] <;> rfl) | (simp [*, errW_none, errW_some] <;> rfl), by exact kB HB.out⟩
  · replace c5 := Bool.eq_false_iff.mpr c5
    subst c5
    have H1 : (some (0, 70)) = some (r1, r2) := by rw [if_neg (show ¬ (false = true) by decide)] at H; exact H
    clear H
    have H := H1
    clear H1
    simp only [Option.some.injEq, Prod.mk.injEq] at H
    obtain ⟨rfl, rfl⟩ := H
    go_enter Tryz.func47, Tryz.ntmps47
    go_wp2_with (first | ((with_reducible refine gate_callee (f := 40) rfl ?_); refine gL_ (some 10) Tryz.func40 #[.string a0] ?_; (with_reducible refine (prog_Known.calls k a0 false _ A4.out).mono ?_); rintro e w25 ⟨rfl, hb⟩; refine ⟨_, rfl, ?_⟩; replace HB := bS HB hb; clear hb))
    go_ret2
    exact ⟨by first | rfl | (simp [errW_none, errW_some] <;> rfl) | (simp [*, errW_none, errW_some] <;> rfl), by exact kB HB.out⟩

/-! ### fold_Came: function 28 (given) -/
def maxTag : ByteArray := ⟨#[109, 97, 120]⟩
/-- Further messages, folded: the value and the error so far. -/
def cameL (tag : ByteArray) : List S61 → Int → Int → Option (Int × Int)
  | [], n, e => some (n, e)
  | m :: l, n, e => if e = 0 then (prog_Fold.f 20 tag n m.f2).bind fun p => cameL tag l p.1 p.2 else some (n, e)
def cameQ (tag : ByteArray) : List S61 → Option (Int × Bool × Int)
  | [] => some (0, false, 0)
  | m :: l => (prog_Fold.f 20 maxTag m.f2 m.f2).bind fun p => (cameL tag l p.1 p.2).bind fun p2 => if p2.2 = 0 then some (p2.1, true, 0) else some (0, false, p2.2)
def fold_Came.f (a0 : ByteArray) (l1 : List S61) (a2 : Int) : Option (Int × Bool × Int) := (prog_Known.f 20 a0).bind fun b => if b = true then (if l1.length < 5864062014805 then cameQ a0 (sortMsg (l1.filter fun x => x.f1 == a2)) else none) else some (0, false, 70)
section
open Go.Sort Go.Shelf Go.Proofs.YtpndhkeoljoapaaGreat.Bridge
theorem came_at {W : World} {A : Option Addr} {l : List S61} {x : S61} {i : Nat} (h : Kd.C k61 W A l.length l) (hi : l[i]? = some x) : ∃ ad, A = some ad ∧ W.cell? (ad.add (i * 3)) = some (.int .i64 x.f0) ∧ W.cell? ⟨(ad.add (i * 3)).block, (ad.add (i * 3)).off + 1, none⟩ = some (.int .i64 x.f1) ∧ W.cell? ⟨(ad.add (i * 3)).block, (ad.add (i * 3)).off + 2, none⟩ = some (.int .i64 x.f2) := by
  have hl := (List.getElem?_eq_some_iff.1 hi).1
  obtain ⟨ad, e, h0, h1, h2⟩ := at_T61 h (i : Int) (by omega) (by omega)
  rw [rd_msg l i hl, (List.getElem?_eq_some_iff.1 hi).2, Int.toNat_natCast] at h0 h1 h2
  exact ⟨ad, e, h0, h1, h2⟩
/-- A row of one's own that is not empty: its first's value, and what is behind it. -/
theorem came_row {w : World} {base : Nat} {v : Value} {m : S61} {l : List S61} (hr : Kd.R k61 61 w base (fun _ => True) v (m :: l)) :
    ∃ g c AD, v = .slice (some ⟨g, 0, none⟩) (l.length + 1) c ∧ w.cell? ⟨g, 2, none⟩ = some (.int .i64 m.f2) ∧ l.length + 1 ≤ c ∧ (∀ W, (Instr.slice 29 (.slice (some ⟨g, 0, none⟩) (l.length + 1) c) (some (.int .i64 1)) none none).run Tryz.prog W = .ok (.slice AD l.length (c - 1)) W) ∧ Kd.C k61 w AD l.length l := by
  obtain ⟨g, c, e, _, _, _⟩ := Kd.R_form hr (by simp)
  subst e
  obtain ⟨_, hle, hc⟩ := Kd.R_reads' hr
  obtain ⟨ad, ea, _, _, x2⟩ := came_at (i := 0) (x := m) hc rfl
  obtain rfl := Option.some.inj ea
  obtain ⟨ti, hti, _, hsz, _⟩ := info_parts info61
  have hcuf := cut_from (P := Tryz.prog) 29 61 .i64 Tryz.underlying29 hti 3 hsz (some ⟨g, 0, none⟩) (m :: l).length c (1 : Int) (by omega) (by simp; omega)
  have hd := Kd.C_drop (m := 1) hc (by simp) hle
  exact ⟨g, c, (if c = 1 then some ⟨g, 0, none⟩ else (some (⟨g, 0, none⟩ : Addr)).map (fun x : Addr => x.add (1 * 3))), rfl, by simpa [add_plain] using x2, hle, fun W => hcuf W, hd⟩
set_option maxHeartbeats 16000000 in
set_option maxRecDepth 100000 in
theorem fold_Came.calls (a0 : ByteArray) (A1 : Option Addr) (c1 : Nat) (l1 : List S61) (a2 : Int) (r1 : Int) (r2 : Bool) (r3 : Int) (w : World) (hr1 : Kd.C k61 w A1 l1.length l1) (hc1 : l1.length ≤ c1) (h : fold_Came.f a0 l1 a2 = some (r1, r2, r3)) :
    Calls Tryz.prog 28 #[.string a0, .slice A1 l1.length c1, .int .i64 a2] w fun e w' => e = .returned (.tuple #[.int .i64 r1, .bool r2, .int .i64 r3]) ∧ Below w.heap.size w w' := by
  unfold fold_Came.f at h
  obtain ⟨b, hk, h⟩ := Option.bind_eq_some_iff.mp h
  have HK := prog_Known.calls 20 a0 b w hk
  have HR := Aside0.mk hr1
  have HC := Aside0.mk hc1
  have hu2 := Tryz.underlying61
  clear hr1 hc1 hk
  cases b with
  | false =>
    rw [if_neg (by decide)] at h
    injection h with h
    injection h with e1 h
    injection h with e2 e3
    subst e1 e2 e3
    go_enter Tryz.func28, Tryz.ntmps28
    go_wp2_with (go_at_call 40; refine HK.mono ?_; rintro e w2 ⟨rfl, hb⟩; have HB2 := Aside0.mk hb; clear hb HK)
    go_ret3
    exact ⟨rfl, HB2.out⟩
  | true =>
    rw [if_pos rfl] at h
    by_cases hl : l1.length < 5864062014805
    · rw [if_pos hl] at h
      have HT : ∀ W, Below w.heap.size w W → Calls Tryz.prog 46 #[.slice A1 l1.length c1, .int .i64 a2] W fun e w' => ∃ v0_ : Value, e = .returned (v0_) ∧ Kd.R k61 61 w' W.heap.size (fun _ => True) v0_ (sortMsg (l1.filter fun x => x.f1 == a2)) ∧ Below W.heap.size W w' := fun W hW => fold_To.calls A1 c1 l1 a2 _ W (Kd.C_below HR.out hW) HC.out (by unfold fold_To.f; rw [if_pos hl])
      have hql : (sortMsg (l1.filter fun x => x.f1 == a2)).length < 5864062014805 := by
        unfold sortMsg
        rw [List.length_mergeSort]
        have := List.length_filter_le (fun x : S61 => x.f1 == a2) l1
        omega
      generalize sortMsg (l1.filter fun x => x.f1 == a2) = q at HT hql h
      clear hl
      cases q with
      | nil =>
        unfold cameQ at h
        injection h with h
        injection h with e1 h
        injection h with e2 e3
        subst e1 e2 e3
        clear hql
        go_enter Tryz.func28, Tryz.ntmps28
        go_wp2_with (first | (go_at_call 40; refine HK.mono ?_; rintro e w2 ⟨rfl, hb⟩; have HB2 := Aside0.mk hb; clear hb HK) | (go_at_call 46; refine (HT _ HB2.out).mono ?_; rintro e w3 ⟨v3, rfl, hr, hb⟩; have HB3 := Aside0.mk (HB2.out.trans (hb.mono HB2.out.size)); obtain ⟨A3, c3, e3⟩ := Kd.R_slice hr; subst e3; clear hr hb HT))
        go_ret3
        exact ⟨rfl, HB3.out⟩
      | cons m l =>
        simp only [cameQ] at h
        obtain ⟨p, hp, h⟩ := Option.bind_eq_some_iff.mp h
        obtain ⟨p2, hp2, h⟩ := Option.bind_eq_some_iff.mp h
        have HF0 := fun W => prog_Fold.calls 20 maxTag m.f2 m.f2 p.1 p.2 W hp
        have HQ0 := Aside0.mk hp2
        have HRES := Aside0.mk h
        have HQL := Aside0.mk hql
        clear hp hp2 h hql
        obtain ⟨n0, e0⟩ := p
        have z0 : (((l.length : Int) + 1) == 0) = false := beq_eq_false_iff_ne.mpr (by omega)
        have z1 : decide ((l.length : Int) + 1 = 0) = false := decide_eq_false (by omega)
        go_enter Tryz.func28, Tryz.ntmps28
        go_wp2_with (first | (go_at_call 40; refine HK.mono ?_; rintro e w2 ⟨rfl, hb⟩; have HB2 := Aside0.mk hb; clear hb HK) | (go_at_call 46; refine (HT _ HB2.out).mono ?_; rintro e w3 ⟨v3, rfl, hr, hb⟩; have HB3 := Aside0.mk (HB2.out.trans (hb.mono HB2.out.size)); obtain ⟨g, c3, AD, e3, k3, hc3, hcuf, hcl⟩ := came_row hr; subst e3; have HCL := Aside0.mk hcl; have hbg := World.block_lt_of_cell? _ _ k3; clear hr hb HT hcl))
        go_region_held3 (fun w' => w'.cell? ⟨g, 2, none⟩ = some (.int .i64 m.f2)) (first | exact k4 | go_keep)
          (first | (go_at_call 47; refine (HF0 _).mono ?_; rintro e w4 ⟨rfl, hb⟩; have k4 := (hb.cell (p := ⟨g, 2, none⟩) hbg).trans k3; have HB4 := Aside0.mk (HB3.out.trans (((below_drew (Below.refl _ _)).trans hb).mono HB3.out.size)); have HC4 := Aside0.mk (Kd.C_below HCL.out ((below_drew (Below.refl _ _)).trans hb)); clear hb))
        go_wp2
        go_loopg [9, 10, 37] (l.length) (fun kq v9 v10 v37 w' => ∃ (i : Nat) (n e : Int), v37 = .int .i64 (i : Int) ∧ v9 = .int .i64 n ∧ v10 = .int .i64 e ∧ Aside0 (i + kq = l.length) ∧ Aside0 (cameL a0 (l.drop i) n e = some p2) ∧ Aside0 (Below w4.heap.size w4 w'))
        case atStart => exact ⟨0, n0, e0, rfl, rfl, rfl, ⟨by omega⟩, HQ0, ⟨Below.refl _ _⟩⟩
        case round =>
          obtain ⟨i, n, e, rfl, rfl, rfl, HI, HQ, HBW⟩ := hrel
          by_cases hlt : i < l.length
          · have d1 : decide ((i : Int) < (l.length : Int)) = true := decide_eq_true (by omega)
            have d1n : decide (i < l.length) = true := decide_eq_true hlt
            have q0 : 0 ≤ (i : Int) := by omega
            have q1 : (i : Int) < (l.length : Int) := by omega
            obtain ⟨y, hy⟩ : ∃ y, l[i]? = some y := ⟨_, List.getElem?_eq_getElem hlt⟩
            obtain ⟨ay, ey, y0, y1, y2⟩ := came_at (Kd.C_below HC4.out HBW.out) hy
            subst ey
            have hq := HQ.out
            rw [List.drop_eq_getElem_cons hlt, (List.getElem?_eq_some_iff.1 hy).2, cameL] at hq
            have hw1 : wrap64 ((i : Int) + 1) = (i : Int) + 1 := by have h1 := HQL.out; simp only [List.length_cons] at h1; unfold wrap64; omega
            obtain ⟨gk1, rfl⟩ : ∃ m, gk = m + 1 := ⟨gk - 1, by have := HI.out; omega⟩
            clear HQ hlt hy
            by_cases hE : e = 0
            · rw [if_pos hE] at hq
              subst hE
              obtain ⟨p, hp, hq⟩ := Option.bind_eq_some_iff.mp hq
              obtain ⟨n1, e1⟩ := p
              have HF := fun W => prog_Fold.calls 20 a0 n y.f2 n1 e1 W hp
              have HQ2 := Aside0.mk hq
              clear hp hq
              go_wp2_with (go_at_call 47; refine (HF _).mono ?_; rintro e w5 ⟨rfl, hb⟩; have HB5 := Aside0.mk (HBW.out.trans (((below_alloc (Below.refl wr.heap.size wr) (.cells #[.int .i64 y.f0, .int .i64 y.f1, .int .i64 y.f2] 61)).trans (hb.mono (by simp))).mono HBW.out.size)); clear hb HF)
              go_roundg gk1
              case measure => omega
              case rel => exact ⟨i + 1, n1, e1, by go_num, rfl, rfl, ⟨by have := HI.out; omega⟩, HQ2, HB5⟩
            · rw [if_neg hE] at hq
              injection hq with hq
              subst hq
              have HR9 := HRES.out
              rw [if_neg hE] at HR9
              injection HR9 with h9
              injection h9 with e1 h9
              injection h9 with e2 e3
              subst e1 e2 e3
              have z3 : (e == 0) = false := beq_eq_false_iff_ne.mpr hE
              have z4 : (e != 0) = true := bne_iff_ne.mpr hE
              clear hE HRES
              go_wp2
              go_ret3
              exact ⟨rfl, HB4.out.trans ((HBW.out.trans (below_alloc (Below.refl _ _) _ |>.mono HBW.out.size)).mono HB4.out.size)⟩
          · have d1 : decide ((i : Int) < (l.length : Int)) = false := decide_eq_false (by omega)
            have d1n : decide (i < l.length) = false := decide_eq_false hlt
            have hq := HQ.out
            rw [List.drop_of_length_le (by omega), cameL] at hq
            injection hq with hq
            subst hq
            by_cases hE : e = 0
            · subst hE
              have HR9 := HRES.out
              rw [if_pos rfl] at HR9
              injection HR9 with h9
              injection h9 with e1 h9
              injection h9 with e2 e3
              subst e1 e2 e3
              clear HRES HQ hlt
              go_wp2
              go_ret3
              exact ⟨rfl, HB4.out.trans (HBW.out.mono HB4.out.size)⟩
            · have HR9 := HRES.out
              rw [if_neg hE] at HR9
              injection HR9 with h9
              injection h9 with e1 h9
              injection h9 with e2 e3
              subst e1 e2 e3
              have z3 : (e == 0) = false := beq_eq_false_iff_ne.mpr hE
              have z4 : (e != 0) = true := bne_iff_ne.mpr hE
              clear hE HRES HQ hlt
              go_wp2
              go_ret3
              exact ⟨rfl, HB4.out.trans (HBW.out.mono HB4.out.size)⟩
    · rw [if_neg hl] at h
      exact absurd h (by simp)
end

end Go.Proofs.YtpndhkeoljoapaaGreat.P
