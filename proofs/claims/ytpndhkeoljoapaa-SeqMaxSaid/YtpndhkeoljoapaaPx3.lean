/- What these Go functions compute, as Lean functions, and that they do. No condition. -/
import Derived.Test.YtpndhkeoljoapaaPx0
import Derived.Test.YtpndhkeoljoapaaPx1
namespace Go.Proofs.Ytpndhkeoljoapaa.P
open Go.RowKit Go.Proofs.YtpndhkeoljoapaaW.PrintWords Go.Proofs.YtpndhkeoljoapaaW.PrintLast Go.Proofs.YtpndhkeoljoapaaW.PrintMore
attribute [local go_sem] max2_int min2_int max_two min_two max_three min_three max_four min_four   -- for this text's walks alone
set_option linter.unusedVariables false
set_option linter.unusedSimpArgs false
set_option linter.unnecessarySimpa false

/-! ### hasVertex: function 21 (given) -/
def encVertex (y : S50) : List Value := [.int .i64 y.f0, .int .i64 y.f1, .bool y.f2, .bool y.f3, .int .i64 y.f4]
instance : Inhabited S50 := ⟨z50⟩
section
open Go.Shelf Go.Proofs.Ytpndhkeoljoapaa.Bridge
theorem rd_atVertex (l : List S50) (i : Nat) (h : i < l.length) : rd_T50 l (i : Int) = l[i] := by
 unfold rd_T50
 simp [List.getD_eq_getElem?_getD, List.getElem?_eq_getElem h]
/-- Where the first one is that is picked, or -1. -/
def idxVertex (p : S50 → Bool) (l : List S50) : Int := match l.findIdx? p with | some i => i | none => -1
theorem idxVertex_hit (p : S50 → Bool) (l : List S50) (i : Nat) (h : i < l.length) (hp : p l[i] = true) (hn : ∀ j (hj : j < i), p (l[j]'(by omega)) = false) : idxVertex p l = i := by
 unfold idxVertex
 have : l.findIdx? p = some i := List.findIdx?_eq_some_iff_getElem.2 ⟨h, hp, fun j hj => by simpa using hn j hj⟩
 rw [this]
theorem idxVertex_miss (p : S50 → Bool) (l : List S50) (hn : ∀ j (hj : j < l.length), p l[j] = false) : idxVertex p l = -1 := by
 unfold idxVertex
 have : l.findIdx? p = none := by
  rw [List.findIdx?_eq_none_iff]
  intro x hx
  obtain ⟨j, hj, rfl⟩ := List.mem_iff_getElem.1 hx
  exact hn j hj
 rw [this]
theorem idxVertex_any (p : S50 → Bool) (l : List S50) : decide (0 ≤ idxVertex p l) = l.any p := by
 unfold idxVertex
 cases h : l.findIdx? p with
 | none =>
  rw [List.findIdx?_eq_none_iff] at h
  have : l.any p = false := by rw [List.any_eq_false]; intro x hx; simpa using h x hx
  rw [this]; rfl
 | some i =>
  obtain ⟨hi, hp, _⟩ := List.findIdx?_eq_some_iff_getElem.1 h
  have : l.any p = true := List.any_eq_true.2 ⟨l[i], List.getElem_mem hi, hp⟩
  rw [this]; exact decide_eq_true (show (0 : Int) ≤ (i : Int) by omega)
set_option maxHeartbeats 8000000 in
set_option maxRecDepth 100000 in
theorem indexVertex.on (p : S50 → Bool) (g : Nat) (lb : Array Value) (eg : ∀ args w, (callFunc g args).run Try.prog w = .ok (.enter g args) w) (A0 : Option Addr) (c0 : Nat) (l0 : List S50) (w : World) (hr0 : Kd.C k50 w A0 l0.length l0) (hlen : l0.length ≤ 9223372036854775806) (hp : PredOn Try.prog g lb (fun x => .agg (encVertex x).toArray) p w) :
  Calls Try.prog 33 #[.slice A0 l0.length c0, .func (.func g) #[] lb] w fun e w' => e = .returned (.int .i64 (idxVertex p l0)) ∧ Below w.heap.size w w' := by
 have HR0 := Aside0.mk hr0
 have HL := Aside0.mk hlen
 have HP := Aside0.mk hp
 clear hr0 hlen hp
 go_enter Try.func33, Try.ntmps33
 go_wp2
 go_loopg [8] (l0.length) (fun kq v8 w' => ∃ (i : Nat), v8 = .int .i64 (i : Int) ∧ Aside0 (i + kq = l0.length) ∧ Aside0 (∀ j (hj : j < i) (hj2 : j < l0.length), p l0[j] = false) ∧ Aside0 (Below w.heap.size w w'))
 case atStart => exact ⟨0, rfl, ⟨by omega⟩, ⟨fun j hj => absurd hj (Nat.not_lt_zero _)⟩, ⟨Below.refl _ _⟩⟩
 case round =>
  obtain ⟨i, rfl, HI, HN, HB⟩ := hrel
  by_cases hlt : i < l0.length
  ·have c1 : decide ((i : Int) < (l0.length : Int)) = true := decide_eq_true (by omega)
   have c1n : decide (i < l0.length) = true := decide_eq_true hlt
   have p1 : 0 ≤ (i : Int) := by omega
   have q1 : (i : Int) < (l0.length : Int) := by omega
   obtain ⟨ad, e1, hx0, hx1, hx2, hx3, hx4⟩ := at_T50 (Kd.C_below HR0.out HB.out) (i : Int) p1 q1
   cases e1
   rw [rd_atVertex l0 i hlt, Int.toNat_natCast] at hx0 hx1 hx2 hx3 hx4
   have HLT := Aside0.mk hlt
   have HY : Aside0 (∀ hi : i < l0.length, p l0[i] = true → idxVertex p l0 = i) := ⟨fun hi h => idxVertex_hit p l0 i hi h fun j hj => HN.out j hj (by omega)⟩
   have HY2 : Aside0 (∀ hi : i < l0.length, p l0[i] = false → ∀ j (hj : j < i + 1) (hj2 : j < l0.length), p l0[j] = false) := ⟨fun hi h j hj hj2 => by
    by_cases e : j = i
    ·subst e; exact h
    ·exact HN.out j (by omega) hj2⟩
   obtain ⟨y, hy⟩ : ∃ y, l0[i] = y := ⟨_, rfl⟩
   rw [hy] at hx0 hx1 hx2 hx3 hx4
   have HE : Aside0 (∀ hi : i < l0.length, l0[i] = y) := ⟨fun _ => hy⟩
   clear hy hlt
   replace p1 := eq_true p1
   replace q1 := eq_true q1
   obtain ⟨gk1, rfl⟩ : ∃ m, gk = m + 1 := ⟨gk - 1, by have := HI.out; have := HLT.out; omega⟩
   have hw1 : wrap64 ((i : Int) + 1) = (i : Int) + 1 := by have h1 := HL.out; have h2 := HLT.out; unfold wrap64; omega
   have hcall := fun (W : World) (hb : Below w.heap.size w W) => HP.out W y hb
   cases hq : p y with
   | true =>
    rw [hq] at hcall
    go_wp2_with (go_at_fn g; refine (hcall _ HB.out).mono ?_; rintro e w' ⟨rfl, hb⟩; have HB2 := Aside0.mk (HB.out.trans (hb.mono HB.out.size)); clear hb)
    go_ret
    refine ⟨?_, HB2.out⟩
    rw [HY.out HLT.out (by rw [HE.out HLT.out]; exact hq)]; rfl
   | false =>
    rw [hq] at hcall
    go_wp2_with (go_at_fn g; refine (hcall _ HB.out).mono ?_; rintro e w' ⟨rfl, hb⟩; have HB2 := Aside0.mk (HB.out.trans (hb.mono HB.out.size)); clear hb)
    go_roundg gk1
    case measure => omega
    case rel => exact ⟨i + 1, by go_num, ⟨by have := HI.out; omega⟩, ⟨HY2.out HLT.out (by rw [HE.out HLT.out]; exact hq)⟩, HB2⟩
  ·have c1 : decide ((i : Int) < (l0.length : Int)) = false := decide_eq_false (by omega)
   have c1n : decide (i < l0.length) = false := decide_eq_false (by omega)
   have HM : Aside0 (idxVertex p l0 = -1) := ⟨idxVertex_miss p l0 fun j hj => HN.out j (by omega) hj⟩
   clear HI hlt HN
   go_wp2
   go_ret
   exact ⟨by rw [HM.out]; rfl, HB.out⟩
set_option maxHeartbeats 8000000 in
theorem hasVertex.on (p : S50 → Bool) (g : Nat) (lb : Array Value) (eg : ∀ args w, (callFunc g args).run Try.prog w = .ok (.enter g args) w) (A0 : Option Addr) (c0 : Nat) (l0 : List S50) (w : World) (hr0 : Kd.C k50 w A0 l0.length l0) (hlen : l0.length ≤ 9223372036854775806) (hp : PredOn Try.prog g lb (fun x => .agg (encVertex x).toArray) p w) :
  Calls Try.prog 21 #[.slice A0 l0.length c0, .func (.func g) #[] lb] w fun e w' => e = .returned (.bool (l0.any p)) ∧ Below w.heap.size w w' := by
 have H := indexVertex.on p g lb eg A0 c0 l0 w hr0 hlen hp
 rw [← idxVertex_any]
 clear hr0 hlen hp eg
 generalize idxVertex p l0 = r at H ⊢
 go_enter Try.func21, Try.ntmps21
 go_wp2_with (go_at_call 33; refine H.mono ?_; rintro e w' ⟨rfl, hb⟩; have HB := Aside0.mk hb; clear hb)
 go_ret
 exact ⟨by first | rfl | (simp; done), HB.out⟩
end

/-! ### seq_Quiet: function 15 (given) -/
/-- Does one go on, or came something to him? -/
def loudV (x : S50) : Bool := x.f2 || x.f3
def seq_Quiet.f (l0 : List S50) : Option Bool := if l0.length ≤ 9223372036854775806 then some (!(l0.any loudV)) else none
section
open Go.Shelf Go.Proofs.Ytpndhkeoljoapaa.Bridge
set_option maxHeartbeats 8000000 in
theorem seq_Quiet_1.on (w : World) : PredOn Try.prog 22 #[] (fun x => .agg (encVertex x).toArray) loudV w := fun W x hW => by
 have hu := Try.underlying50
 show Calls Try.prog 22 #[.agg #[.int .i64 x.f0, .int .i64 x.f1, .bool x.f2, .bool x.f3, .int .i64 x.f4]] W _
 unfold loudV
 generalize x.f0 = y0
 generalize x.f1 = y1
 generalize x.f2 = y2
 generalize x.f3 = y3
 generalize x.f4 = y4
 cases y2 <;>
 ·go_enter Try.func22, Try.ntmps22
  go_wp2
  go_ret
  exact ⟨by first | rfl | (simp [*]; done), by repeat (first | exact Below.refl _ _ | apply below_alloc | apply pw_below_drewN)⟩
set_option maxHeartbeats 8000000 in
theorem seq_Quiet.calls (A0 : Option Addr) (c0 : Nat) (l0 : List S50) (r : Bool) (w : World) (hr0 : Kd.C k50 w A0 l0.length l0) (hc0 : l0.length ≤ c0) (h : seq_Quiet.f l0 = some r) :
  Calls Try.prog 15 #[.slice A0 l0.length c0] w fun e w' => e = .returned (.bool r) ∧ Below w.heap.size w w' := by
 unfold seq_Quiet.f at h
 split at h
 ·rename_i hl
  obtain rfl := Option.some.inj h
  have eg : ∀ args w, (callFunc 22 args).run Try.prog w = .ok (.enter 22 args) w := enters_of Try.func22 (by kernel_rfl) rfl
  have HQ := fun (W : World) (hW : Below w.heap.size w W) => hasVertex.on loudV 22 #[] eg A0 c0 l0 W (Kd.C_below hr0 hW) hl (seq_Quiet_1.on W)
  clear hr0 hc0 hl h eg
  generalize l0.any loudV = b at HQ ⊢
  go_enter Try.func15, Try.ntmps15
  go_wp2_with (first | (go_at_call 21; refine (HQ _ (by repeat (first | exact Below.refl _ _ | apply below_drew1 | apply below_alloc))).mono ?_; rintro e w2 ⟨rfl, hb⟩; have HB := Aside0.mk hb; clear hb))
  go_ret
  exact ⟨rfl, HB.out⟩
 ·cases h
end

/-! ### prog_great: function 34 -/
def prog_great.f (a0 : Int) : Option (Bool) := if a0 > 1125899906842624 then (some true) else (some (decide (a0 < (-1125899906842624))))
set_option maxHeartbeats 8000000 in
set_option maxRecDepth 100000 in
theorem prog_great.calls (a0 : Int) (r : Bool) (w : World) (h : prog_great.f a0 = some r) :
  Calls Try.prog 34 #[.int .i64 a0] w fun e w' => e = .returned (.bool r) ∧ Drawn0 w w' := by
 have H : (if a0 > 1125899906842624 then (some true) else (some (decide (a0 < (-1125899906842624))))) = some r := h
 clear h
 by_cases c2 : a0 > 1125899906842624
 ·rw [if_pos c2] at H
  have c2b0 : decide (1125899906842624 < a0) = true := decide_eq_true c2
  clear c2
  obtain rfl := Option.some.inj H
  go_enter Try.func34, Try.ntmps34
  go_wp2
  go_ret
  exact ⟨by first | rfl | (simp; done) | (simp [*]; done), by repeat (first | exact Drawn0.refl _ | apply Drawn0.step)⟩
 ·rw [if_neg c2] at H
  have c2b0 : decide (1125899906842624 < a0) = false := decide_eq_false c2
  clear c2
  obtain rfl := Option.some.inj H
  go_enter Try.func34, Try.ntmps34
  go_wp2
  go_ret
  exact ⟨by first | rfl | (simp; done) | (simp [*]; done), by repeat (first | exact Drawn0.refl _ | apply Drawn0.step)⟩

/-! ### graph_Out: function 35 (given) -/
def ltE (x y : S45) : Bool := decide (x.f0 < y.f0) || (x.f0 == y.f0 && decide (x.f1 < y.f1))
theorem ltE_not (x y : S45) : ltE x y = false ↔ ¬ (x.f0 < y.f0 ∨ (x.f0 = y.f0 ∧ x.f1 < y.f1)) := by
 unfold ltE
 simp only [Bool.or_eq_false_iff, decide_eq_false_iff_not, Bool.and_eq_false_iff, beq_eq_false_iff_ne]
 omega
/-- Edges in order. -/
def sortE (l : List S45) : List S45 := l.mergeSort fun x y => !ltE y x
def leE (x y : S45) : Prop := ¬ (y.f0 < x.f0 ∨ (y.f0 = x.f0 ∧ y.f1 < x.f1))
theorem sortE_sorted (l : List S45) : EdgesSorted l (sortE l) := by
 refine ⟨List.mergeSort_perm l _, ?_⟩
 have h := List.pairwise_mergeSort (le := fun x y : S45 => !ltE y x) (fun a b c h1 h2 => by
  simp only [Bool.not_eq_true', ltE_not] at h1 h2 ⊢
  omega) (fun a b => by
  cases h : ltE b a with
  | false => rfl
  | true =>
   cases h2 : ltE a b with
   | false => rfl
   | true =>
    unfold ltE at h h2
    simp only [Bool.or_eq_true, decide_eq_true_eq, Bool.and_eq_true, beq_iff_eq] at h h2
    omega) l
 exact h.imp (fun {a b} h => by simpa [ltE_not] using h)
theorem permE_unique : ∀ {l l' : List S45}, l.Perm l' → (∀ x ∈ l, ∀ y ∈ l, leE x y → leE y x → x = y) → l.Pairwise leE → l'.Pairwise leE → l = l'
 | [], l', h, _, _, _ => by rw [List.nil_perm] at h; exact h.symm
 | x :: l, [], h, _, _, _ => by simp at h
 | x :: l, y :: l', h, hm, hs, hs' => by
  have hxy : x = y := by
   have hx : x ∈ y :: l' := h.subset (List.mem_cons_self ..)
   have hy : y ∈ x :: l := h.symm.subset (List.mem_cons_self ..)
   rcases List.mem_cons.1 hx with e | hx
   ·exact e
   ·rcases List.mem_cons.1 hy with e | hy'
    ·exact e.symm
    ·exact hm x (List.mem_cons_self ..) y hy ((List.pairwise_cons.1 hs).1 y hy') ((List.pairwise_cons.1 hs').1 x hx)
  subst hxy
  rw [permE_unique (List.perm_cons x |>.1 h) (fun a ha b hb => hm a (List.mem_cons_of_mem _ ha) b (List.mem_cons_of_mem _ hb)) (List.pairwise_cons.1 hs).2 (List.pairwise_cons.1 hs').2]
theorem simple_key : ∀ {l : List S45}, Simple l → ∀ x ∈ l, ∀ y ∈ l, x.f0 = y.f0 → x.f1 = y.f1 → x = y
 | [], _, x, hx, _, _, _, _ => by cases hx
 | a :: l, h, x, hx, y, hy, e0, e1 => by
  have h1 := (List.pairwise_cons.1 h).1
  have h2 := (List.pairwise_cons.1 h).2
  rcases List.mem_cons.1 hx with ex | hx2
  ·rcases List.mem_cons.1 hy with ey | hy2
   ·rw [ex, ey]
   ·subst ex
    exact absurd ⟨e0.symm, e1.symm⟩ (h1 y hy2)
  ·rcases List.mem_cons.1 hy with ey | hy2
   ·subst ey
    exact absurd ⟨e0, e1⟩ (h1 x hx2)
   ·exact simple_key h2 x hx2 y hy2 e0 e1
theorem sorted_unique {l l' : List S45} (hs : EdgesSorted l l') (hd : dupE l = false) : l' = sortE l := by
 have h2 := sortE_sorted l
 have hk := simple_key ((dupE_iff l).1 hd)
 refine permE_unique (hs.1.trans h2.1.symm) (fun x hx y hy h1 h3 => ?_) hs.2 h2.2
 have hx' := hs.1.subset hx
 have hy' := hs.1.subset hy
 unfold leE at h1 h3
 exact hk x hx' y hy' (by omega) (by omega)
def graph_Out.f (a0_0 : Int) (l0_1 : List S45) (a1 : Int) : Option (List S45) := if badG a0_0 l0_1 = true then none else if dupE l0_1 = true then none else some ((sortE l0_1).filter fun e => e.f0 == a1)
section
open Go.Sort Go.Shelf Go.Proofs.Ytpndhkeoljoapaa.Bridge
/-- The row of a graph's edges in order, made anew. -/
def NormPost (w : World) (n : Int) (l : List S45) (e : Ending) (w' : World) : Prop := ∃ v : Value, e = .returned (.tuple #[.agg #[.int .i64 n, v], .int .i64 0]) ∧ Kd.R k45 45 w' w.heap.size (fun _ => True) v (sortE l) ∧ Below w.heap.size w w'
def SortPost (w : World) (l : List S45) (W : World) (e : Ending) (w' : World) : Prop := ∃ v : Value, e = .returned v ∧ Kd.R k45 45 w' w.heap.size (fun _ => True) v (sortE l) ∧ Below W.heap.size W w'
theorem sorted_at (n : Int) (A : Option Addr) (c : Nat) (l : List S45) (w : World) (hr : Kd.C k45 w A l.length l) (h : badG n l = false) (hd : dupE l = false) (b : Nat) (W : World) (hW : Below w.heap.size w W) (hb : b < W.heap.size) (hc : W.cell? ⟨b, 0, none⟩ = some (.slice A l.length c)) :
  Calls Try.prog 45 #[.func (.func 63) #[] #[.pointer (some ⟨b, 0, none⟩)], .func (.func 47) #[] #[]] W (SortPost w l W) := by
 obtain ⟨n1, n2, n3, n4⟩ := badG_not h
 obtain ⟨gl, hgl⟩ := ge_of n n2 l n4
 have hgll : gl.length = l.length := by rw [← hgl]; simp
 have := sortedEdges.on b A c gl W (by omega) hb (by rw [hgll]; exact hc) (by rw [hgll, hgl]; exact Kd.C_below hr hW)
 rw [hgl] at this
 refine this.mono ?_
 rintro e w' ⟨v, l', he, hR, hs, hbb⟩
 rw [sorted_unique hs hd] at hR
 exact ⟨v, he, Kd.R_lower hR hW.size, hbb⟩
set_option maxHeartbeats 16000000 in
set_option maxRecDepth 100000 in
theorem graph_Norm.good (A0_1 : Option Addr) (a0_0 : Int) (c0_1 : Nat) (l0_1 : List S45) (w : World) (hr : Kd.C k45 w A0_1 l0_1.length l0_1) (h : badG a0_0 l0_1 = false) (hd : dupE l0_1 = false) :
  Calls Try.prog 65 #[.agg #[.int .i64 a0_0, .slice A0_1 l0_1.length c0_1]] w (NormPost w a0_0 l0_1) := by
 have hu := Try.underlying24
 have HSORT := fun b W => sorted_at a0_0 A0_1 c0_1 l0_1 w hr h hd b W
 have HCHK : ∀ W, Below w.heap.size w W → Calls Try.prog 31 #[.agg #[.int .i64 a0_0, .slice A0_1 l0_1.length c0_1]] W fun e w' => e = .returned (.int .i64 0) ∧ Below W.heap.size W w' := fun W hW => by
  have := graph_Check.good A0_1 a0_0 c0_1 l0_1 W (Kd.C_below hr hW) h
  rw [hd, if_neg (by decide)] at this
  exact this
 have HV : ∀ W : World, Calls Try.prog 46 #[.slice A0_1 l0_1.length c0_1] W fun e w' => ∃ b, e = .returned (.func (.func 63) #[] #[.pointer (some ⟨b, 0, none⟩)]) ∧ b < w'.heap.size ∧ w'.cell? ⟨b, 0, none⟩ = some (.slice A0_1 l0_1.length c0_1) ∧ Below W.heap.size W w' := fun W => (valuesE.calls A0_1 l0_1.length c0_1 W).mono fun e w' ⟨he, hw⟩ => ⟨W.heap.size, he, by rw [hw]; simp, by rw [hw]; simp, by rw [hw]; exact below_alloc (Below.refl _ _) _⟩
 clear hr h hd
 go_enter Try.func65, Try.ntmps65
 go_wp2_with (fail)
 refine (HCHK _ (by repeat (first | exact Below.refl _ _ | apply below_alloc | apply pw_below_drewN))).mono ?_
 rintro e w2 ⟨rfl, hb⟩
 have k0 := (hb.cell (p := ⟨w.heap.size, 0, none⟩) (by simp; omega)).trans (show _ = some (.int .i64 a0_0) by first | (go_simp; done) | (go_simp; rfl))
 have k1 := (hb.cell (p := ⟨w.heap.size, 1, none⟩) (by simp; omega)).trans (show _ = some (.slice A0_1 l0_1.length c0_1) by first | (go_simp; done) | (go_simp; rfl))
 have BK := Aside0.mk (blk_below (heap_alloc2_new _ _ _) hb)
 have hsz : Aside0 (w.heap.size + 2 ≤ w2.heap.size) := ⟨by have := hb.size; simp at this; omega⟩
 have HB2 : Aside0 (Below w.heap.size w w2) := ⟨by
   refine Below.trans ?_ (hb.mono ?_)
   ·repeat (first | exact Below.refl _ _ | apply below_alloc | apply pw_below_drewN)
   ·simp; omega⟩
 clear hb HCHK
 go_wp2
 go_region_held3 (fun w' => w'.cell? ⟨w.heap.size, 0, none⟩ = some (.int .i64 a0_0) ∧ w'.cell? ⟨w.heap.size, 1, none⟩ = some (.slice A0_1 l0_1.length c0_1)) (first | exact ⟨k0, k1⟩ | exact ⟨m0, m1⟩ | exact ⟨q0, q1⟩ | go_keep)
  (first
   | (go_at_call 46; refine (HV _).mono ?_; rintro e w3 ⟨b3, rfl, hlt3, hc3, hb3⟩; have m0 := (hb3.cell (p := ⟨w.heap.size, 0, none⟩) (by have := hsz.out; show w.heap.size < w2.heap.size; omega)).trans k0; have m1 := (hb3.cell (p := ⟨w.heap.size, 1, none⟩) (by have := hsz.out; show w.heap.size < w2.heap.size; omega)).trans k1; have BK3 := Aside0.mk (blk_below (blk_drew BK.out) hb3); have HB3 : Aside0 (Below w.heap.size w w3) := ⟨(below_drew1 HB2.out).trans (hb3.mono HB2.out.size)⟩; have HL3 := Aside0.mk hlt3; have HC3 := Aside0.mk hc3; have HZ3 : Aside0 (w.heap.size + 2 ≤ w3.heap.size) := ⟨Nat.le_trans hsz.out hb3.size⟩; clear hb3 hc3 hlt3)
   | (go_at_call 45; refine (HSORT _ _ HB3.out HL3.out HC3.out).mono ?_; rintro e w4 ⟨v4, rfl, hR, hb4⟩; obtain ⟨A4, c4, e4⟩ := Kd.R_slice hR; subst e4; have q0 := (hb4.cell (p := ⟨w.heap.size, 0, none⟩) (by have := HZ3.out; show w.heap.size < w3.heap.size; omega)).trans m0; have q1 := (hb4.cell (p := ⟨w.heap.size, 1, none⟩) (by have := HZ3.out; show w.heap.size < w3.heap.size; omega)).trans m1; have BK4 := Aside0.mk (blk_below BK3.out hb4); have HB4 : Aside0 (Below w.heap.size w w4) := ⟨HB3.out.trans (hb4.mono HB3.out.size)⟩; have HR4 := Aside0.mk hR; have HZ4 : Aside0 (w.heap.size + 2 ≤ w4.heap.size) := ⟨Nat.le_trans HZ3.out hb4.size⟩; clear hb4 hR; have s0 := (blk_cell BK4.out 0).trans (show _ = some (Value.int .i64 0) from rfl); have s1 := (blk_cell BK4.out 1).trans (show _ = some (Value.slice none 0 0) from rfl); have f0 := blk_frozen BK4.out 0; have f1 := blk_frozen BK4.out 1))
 go_wp2
 refine bodyPost_ret (results_ct rfl _ _ (w.heap.size + 1) 24 #[.int .i64 a0_0, .slice A4 (sortE l0_1).length c4] (0, 0) _ rfl ?hg Try.underlying24 rfl (by kernel_rfl)) rfl ?_
 case hg => exact blk_put (blk_put BK4.out 0 _ rfl) 1 _ rfl
 refine ⟨_, rfl, ?_, ?_⟩
 ·exact Kd.R_set (Kd.R_set HR4.out BK4.out (by decide) 0 _) (blk_set BK4.out 0 _) (by decide) 1 _
 ·exact below_set (below_set HB4.out (Nat.le_succ _)) (Nat.le_succ _)
/-- Edges that are picked, made anew. -/
def PickPost (w : World) (r : List S45) (e : Ending) (w' : World) : Prop := ∃ v : Value, e = .returned v ∧ Kd.R k45 45 w' w.heap.size (fun _ => True) v r ∧ Below w.heap.size w w'
theorem take_snocE {α : Type} (l : List α) (p : α → Bool) (i : Nat) (h : i < l.length) : (l.take (i + 1)).filter p = (l.take i).filter p ++ (if p l[i] = true then [l[i]] else []) := by
 rw [List.take_succ_eq_append_getElem h, List.filter_append]
 by_cases hp : p l[i] = true <;> simp [List.filter_cons, hp]
set_option maxHeartbeats 16000000 in
set_option maxRecDepth 100000 in
theorem graph_pick.good (p : S45 → Bool) (g : Nat) (lb : Array Value) (eg : ∀ args w, (callFunc g args).run Try.prog w = .ok (.enter g args) w) (A0 : Option Addr) (n : Int) (c0 : Nat) (l0 : List S45) (w : World) (hr0 : Kd.C k45 w A0 l0.length l0) (h : badG n l0 = false) (hd : dupE l0 = false) (hp : PredOn Try.prog g lb (fun x => .agg (encEdge x).toArray) p w) :
  Calls Try.prog 49 #[.agg #[.int .i64 n, .slice A0 l0.length c0], .func (.func g) #[] lb] w (PickPost w ((sortE l0).filter p)) := by
 have hu := Try.underlying24
 have HN : ∀ W, Below w.heap.size w W → Calls Try.prog 65 #[.agg #[.int .i64 n, .slice A0 l0.length c0]] W (NormPost W n l0) := fun W hW => graph_Norm.good A0 n c0 l0 W (Kd.C_below hr0 hW) h hd
 have HL : Aside0 ((sortE l0).length ≤ 512) := ⟨by rw [(sortE_sorted l0).1.length_eq]; exact (badG_not h).2.2.1⟩
 have HP := Aside0.mk hp
 clear hr0 h hd hp
 unfold NormPost at HN
 generalize sortE l0 = q at HN HL ⊢
 go_enter Try.func49, Try.ntmps49
 go_wp2_with (fail)
 refine (HN _ (by repeat (first | exact Below.refl _ _ | apply below_alloc | apply pw_below_drewN))).mono ?_
 rintro e w2 ⟨v2, rfl, hR, hb⟩
 obtain ⟨A2, c2, e2⟩ := Kd.R_slice hR
 subst e2
 have HB2 : Aside0 (Below w.heap.size w w2) := ⟨by
   refine Below.trans ?_ (hb.mono ?_)
   ·repeat (first | exact Below.refl _ _ | apply below_alloc | apply pw_below_drewN)
   ·simp⟩
 have HC2 := Aside0.mk (Kd.R_reads' hR).2.2
 clear hR hb HN
 go_wp2
 go_loopg [7, 18] (q.length) (fun kq v7 v18 w' => ∃ (i : Nat), v18 = .int .i64 (i : Int) ∧ Aside0 (i + kq = q.length) ∧ Aside0 (Kd.R k45 45 w' w2.heap.size (fun _ => True) v7 ((q.take i).filter p)) ∧ Aside0 (Below w2.heap.size w2 w'))
 case atStart => exact ⟨0, rfl, ⟨by omega⟩, ⟨by simpa using Kd.R_nil _ _ _ _ _⟩, ⟨below_alloc (Below.refl _ _) _⟩⟩
 case round =>
  obtain ⟨i, rfl, HI, HO, HW⟩ := hrel
  have HB := Aside0.mk (HB2.out.trans (HW.out.mono HB2.out.size))
  by_cases hlt : i < q.length
  ·have c1 : decide ((i : Int) < (q.length : Int)) = true := decide_eq_true (by omega)
   have p1 : 0 ≤ (i : Int) := by omega
   have q1 : (i : Int) < (q.length : Int) := by omega
   obtain ⟨ad, e1, hx0, hx1, hx2⟩ := at_T45 (Kd.C_below HC2.out HW.out) (i : Int) p1 q1
   cases e1
   rw [rd_edge q i hlt, Int.toNat_natCast] at hx0 hx1 hx2
   have hts := take_snocE q p i hlt
   have HLT := Aside0.mk hlt
   generalize hy : q[i] = y at hx0 hx1 hx2 hts
   clear hy
   have HTS := Aside0.mk hts
   clear hts hlt
   replace p1 := eq_true p1
   replace q1 := eq_true q1
   have hcall := fun (W : World) (hb : Below w.heap.size w W) => HP.out W y hb
   obtain ⟨gk1, rfl⟩ : ∃ m, gk = m + 1 := ⟨gk - 1, by have := HI.out; have := HLT.out; omega⟩
   have hw1 : wrap64 ((i : Int) + 1) = (i : Int) + 1 := by have h1 := HL.out; have h2 := HLT.out; unfold wrap64; omega
   cases hq : p y with
   | true =>
    rw [hq] at hcall HTS
    have HLE : Aside0 (((q.take i).filter p).length < 5864062014805) := ⟨by have h1 := List.length_filter_le p (q.take i); have h2 := HL.out; simp only [List.length_take] at h1; omega⟩
    go_wp2_with (first | (go_at_fn g; refine (hcall _ (below_alloc HB.out _)).mono ?_; rintro e w' ⟨rfl, hb⟩; have k0 := (hb.cell (p := ⟨wr.heap.size, 0, none⟩) (by simp)).trans (show _ = some (.int .i64 y.f0) by simp); have k1 := (hb.cell (p := ⟨wr.heap.size, 1, none⟩) (by simp)).trans (show _ = some (.int .i64 y.f1) by simp); have k2 := (hb.cell (p := ⟨wr.heap.size, 2, none⟩) (by simp)).trans (show _ = some (.int .i64 y.f2) by simp); have HW2 := Aside0.mk ((below_alloc HW.out (.cells #[.int .i64 y.f0, .int .i64 y.f1, .int .i64 y.f2] 45)).trans (hb.mono (by have := HW.out.size; simp; omega))); have HO2 := Aside0.mk (Kd.R_below (Kd.R_alloc HO.out (.cells #[.int .i64 y.f0, .int .i64 y.f1, .int .i64 y.f2] 45)) hb); clear hb HO) | (at_builtin; refine Kd.R_append k45 (w0 := w2) w2.heap.size rfl (.tmp 25) (.tmp 27) 22 45 (.agg #[(.int .i64 0), (.int .i64 0), (.int .i64 0)]) 24 rfl Try.underlying22 info45 rfl (by decide) (by omega) u7 ((q.take i).filter p) y [.int .i64 y.f0, .int .i64 y.f1, .int .i64 y.f2] (fun _ => True) (fun _ => False) rfl rfl ?aP (fun _ hk => hk.elim) ?aF ?aO ?aB ?aS ?aL ?_; (case aP => exact k45_mkM _ _ _ y); (case aB => exact HW2.out); (case aF => exact (fun _ _ => trivial)); (case aO => exact HO2.out); (case aS => exact (below_size HW2.out)); (case aL => have := HLE.out; omega); intro v113 w10 ho hb hg hat; have n0_ := Aside0.mk (hb); have n1_ := Aside0.mk (ho); clear HW2; clear HO2; have HW2 := n0_; have HO114 := n1_; clear n0_ n1_; clear ho hb hg hat))
    go_roundg gk1
    case measure => omega
    case rel => exact ⟨i + 1, by go_num, ⟨by have := HI.out; omega⟩, ⟨by rw [HTS.out]; exact HO114.out⟩, HW2⟩
   | false =>
    rw [hq] at hcall HTS
    go_wp2_with (first | (go_at_fn g; refine (hcall _ (below_alloc HB.out _)).mono ?_; rintro e w' ⟨rfl, hb⟩; have k0 := (hb.cell (p := ⟨wr.heap.size, 0, none⟩) (by simp)).trans (show _ = some (.int .i64 y.f0) by simp); have k1 := (hb.cell (p := ⟨wr.heap.size, 1, none⟩) (by simp)).trans (show _ = some (.int .i64 y.f1) by simp); have k2 := (hb.cell (p := ⟨wr.heap.size, 2, none⟩) (by simp)).trans (show _ = some (.int .i64 y.f2) by simp); have HW2 := Aside0.mk ((below_alloc HW.out (.cells #[.int .i64 y.f0, .int .i64 y.f1, .int .i64 y.f2] 45)).trans (hb.mono (by have := HW.out.size; simp; omega))); have HO2 := Aside0.mk (Kd.R_below (Kd.R_alloc HO.out (.cells #[.int .i64 y.f0, .int .i64 y.f1, .int .i64 y.f2] 45)) hb); clear hb HO))
    go_roundg gk1
    case measure => omega
    case rel => exact ⟨i + 1, by go_num, ⟨by have := HI.out; omega⟩, ⟨by rw [HTS.out]; simpa using HO2.out⟩, HW2⟩
  ·have c1 : decide ((i : Int) < (q.length : Int)) = false := decide_eq_false (by omega)
   have c1n : decide (i < q.length) = false := decide_eq_false (by omega)
   have hi : i = q.length := by have := HI.out; omega
   have HO3 : Aside0 (Kd.R k45 45 wr w2.heap.size (fun _ => True) u7 (q.filter p)) := ⟨by have := HO.out; rwa [hi, List.take_length] at this⟩
   clear hi HO HI hlt
   go_wp2
   go_ret
   exact ⟨_, rfl, Kd.R_lower HO3.out HB2.out.size, HB.out⟩
set_option maxHeartbeats 8000000 in
theorem graph_Out_1.on (v : Int) (b : Nat) (w : World) (hb : b < w.heap.size) (hc : w.cell? ⟨b, 0, none⟩ = some (.int .i64 v)) : PredOn Try.prog 50 #[.pointer (some ⟨b, 0, none⟩)] (fun x => .agg (encEdge x).toArray) (fun e => e.f0 == v) w := fun W x hW => by
 have hu := Try.underlying45
 have hc2 : W.cell? ⟨b, 0, none⟩ = some (.int .i64 v) := (hW.cell (p := ⟨b, 0, none⟩) hb).trans hc
 have hbW : b < W.heap.size := Nat.lt_of_lt_of_le hb hW.size
 have hne : b ≠ W.heap.size := by omega
 clear hc hb hW
 show Calls Try.prog 50 #[.agg #[.int .i64 x.f0, .int .i64 x.f1, .int .i64 x.f2], .pointer (some ⟨b, 0, none⟩)] W _
 go_enter Try.func50, Try.ntmps50
 go_wp2
 all_goals (go_ret; exact ⟨by first | rfl | (simp [*]; done), by repeat (first | exact Below.refl _ _ | apply below_alloc | apply pw_below_drewN)⟩)
set_option maxHeartbeats 8000000 in
set_option maxRecDepth 100000 in
theorem graph_Out.calls (a0_0 : Int) (A0_1 : Option Addr) (c0_1 : Nat) (l0_1 : List S45) (a1 : Int) (r : List S45) (w : World) (hr0_1 : Kd.C k45 w A0_1 l0_1.length l0_1) (hc0_1 : l0_1.length ≤ c0_1) (h : graph_Out.f a0_0 l0_1 a1 = some r) :
  Calls Try.prog 35 #[.agg #[.int .i64 a0_0, .slice A0_1 l0_1.length c0_1], .int .i64 a1] w fun e w' => ∃ v0_ : Value, e = .returned (v0_) ∧ Kd.R k45 45 w' w.heap.size (fun _ => True) v0_ r ∧ Below w.heap.size w w' := by
 unfold graph_Out.f at h
 cases hb : badG a0_0 l0_1 with
 | true => rw [hb, if_pos rfl] at h; cases h
 | false =>
  rw [hb, if_neg (by decide)] at h
  cases hd : dupE l0_1 with
  | true => rw [hd, if_pos rfl] at h; cases h
  | false =>
   rw [hd, if_neg (by decide)] at h
   obtain rfl := Option.some.inj h
   clear h
   have eg : ∀ args w, (callFunc 50 args).run Try.prog w = .ok (.enter 50 args) w := enters_of Try.func50 (by kernel_rfl) rfl
   have HP : ∀ (b : Nat) W, Below w.heap.size w W → b < W.heap.size → W.cell? ⟨b, 0, none⟩ = some (.int .i64 a1) → Calls Try.prog 49 #[.agg #[.int .i64 a0_0, .slice A0_1 l0_1.length c0_1], .func (.func 50) #[] #[.pointer (some ⟨b, 0, none⟩)]] W (PickPost W ((sortE l0_1).filter fun e => e.f0 == a1)) :=
    fun b W hW hlt hc => graph_pick.good (fun e => e.f0 == a1) 50 #[.pointer (some ⟨b, 0, none⟩)] eg A0_1 a0_0 c0_1 l0_1 W (Kd.C_below hr0_1 hW) hb hd (graph_Out_1.on a1 b W hlt hc)
   unfold PickPost at HP
   generalize (sortE l0_1).filter (fun e => e.f0 == a1) = q at HP ⊢
   clear hr0_1 hc0_1 hb hd eg
   go_enter Try.func35, Try.ntmps35
   go_wp2_with (fail)
   refine (HP _ _ ?h1 ?h2 ?h3).mono ?_
   case h1 => repeat (first | exact Below.refl _ _ | apply below_alloc | apply pw_below_drewN)
   case h2 => simp
   case h3 => first | (go_simp; done) | (go_simp; rfl)
   rintro e w2 ⟨v2, rfl, hR, hb⟩
   have HB2 : Aside0 (Below w.heap.size w w2) := ⟨by
    refine Below.trans ?_ (hb.mono ?_)
    ·repeat (first | exact Below.refl _ _ | apply below_alloc | apply pw_below_drewN)
    ·simp; omega⟩
   have HR2 := Aside0.mk (Kd.R_lower (base' := w.heap.size) hR (by simp; omega))
   clear hR hb HP
   go_wp2
   go_ret
   exact ⟨_, rfl, HR2.out, HB2.out⟩
end

/-! ### prog_down: function 52 -/
def prog_down.f (a0 : Int) (a1 : Int) : Option (Int) := if a1 = 0 then (none) else (if (Int.tmod a0 a1) < 0 then (some (wrap64 ((wrap64 (Int.tdiv a0 a1)) - 1))) else (some (wrap64 (Int.tdiv a0 a1))))
set_option maxHeartbeats 8000000 in
set_option maxRecDepth 100000 in
theorem prog_down.calls (a0 : Int) (a1 : Int) (r : Int) (w : World) (h : prog_down.f a0 a1 = some r) :
  Calls Try.prog 52 #[.int .i64 a0, .int .i64 a1] w fun e w' => e = .returned (.int .i64 r) ∧ Drawn0 w w' := by
 have H : (if a1 = 0 then (none) else (if (Int.tmod a0 a1) < 0 then (some (wrap64 ((wrap64 (Int.tdiv a0 a1)) - 1))) else (some (wrap64 (Int.tdiv a0 a1))))) = some r := h
 clear h
 by_cases c3 : a1 = 0
 ·rw [if_pos c3] at H
  exact absurd H (by simp)
 ·rw [if_neg c3] at H
  have c3b0 : (a1 == 0) = false := beq_eq_false_iff_ne.mpr c3
  have c3b1 : (a1 != 0) = true := bne_iff_ne.mpr c3
  by_cases c4 : (Int.tmod a0 a1) < 0
  ·rw [if_pos c4] at H
   have c4b0 := decide_eq_true c4
   clear c4
   obtain rfl := Option.some.inj H
   go_enter Try.func52, Try.ntmps52
   go_wp2
   go_ret
   exact ⟨by first | rfl | (simp; done) | (simp [*]; done), by repeat (first | exact Drawn0.refl _ | apply Drawn0.step)⟩
  ·rw [if_neg c4] at H
   have c4b0 := decide_eq_false c4
   clear c4
   obtain rfl := Option.some.inj H
   go_enter Try.func52, Try.ntmps52
   go_wp2
   go_ret
   exact ⟨by first | rfl | (simp; done) | (simp [*]; done), by repeat (first | exact Drawn0.refl _ | apply Drawn0.step)⟩

end Go.Proofs.Ytpndhkeoljoapaa.P
