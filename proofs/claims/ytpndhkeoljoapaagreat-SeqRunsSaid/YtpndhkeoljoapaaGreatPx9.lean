/- What these Go functions compute, as Lean functions, and that they do. No condition. -/
import Derived.Test.YtpndhkeoljoapaaGreatPx0
namespace Go.Proofs.YtpndhkeoljoapaaGreat.P
open Go.RowKit Go.Proofs.YtpndhkeoljoapaaGreatW.PrintWords Go.Proofs.YtpndhkeoljoapaaGreatW.PrintLast Go.Proofs.YtpndhkeoljoapaaGreatW.PrintMore
attribute [local go_sem] max2_int min2_int max_two min_two max_three min_three max_four min_four   -- for this text's walks alone
set_option linter.unusedVariables false
set_option linter.unusedSimpArgs false
set_option linter.unnecessarySimpa false

/-! ### hasVertex: function 33 (given) -/
def encVertex (y : S50) : List Value := [.int .i64 y.f0, .int .i64 y.f1, .bool y.f2, .bool y.f3, .int .i64 y.f4]
instance : Inhabited S50 := ⟨z50⟩
section
open Go.Shelf Go.Proofs.YtpndhkeoljoapaaGreat.Bridge
theorem rd_atVertex (l : List S50) (i : Nat) (h : i < l.length) : rd_T50 l (i : Int) = l[i] := by
 unfold rd_T50
 simp [List.getD_eq_getElem?_getD, List.getElem?_eq_getElem h]
/-- Where the first one is that is picked, or -1. -/
def idxVertex (p : S50 → Bool) (l : List S50) : Int := match l.findIdx? p with | some i => i | none => -1
theorem idxVertex_hit (p : S50 → Bool) (l : List S50) (i : Nat) (h : i < l.length) (hp : p l[i] = true) (hn : ∀ j (hj : j < i), p (l[j]'(by omega)) = false) : idxVertex p l = i := by
 unfold idxVertex
 have : l.findIdx? p = some i := List.findIdx?_eq_some_iff_getElem.2 ⟨h, hp, fun j hj => by simpa using hn j hj⟩
 rw [this]
theorem idxVertex_miss (p : S50 → Bool) (l : List S50) (hn : ∀ j (hj : j < l.length), p l[j] = false) : idxVertex p l = -1 := by
 unfold idxVertex
 have : l.findIdx? p = none := by
  rw [List.findIdx?_eq_none_iff]
  intro x hx
  obtain ⟨j, hj, rfl⟩ := List.mem_iff_getElem.1 hx
  exact hn j hj
 rw [this]
theorem idxVertex_any (p : S50 → Bool) (l : List S50) : decide (0 ≤ idxVertex p l) = l.any p := by
 unfold idxVertex
 cases h : l.findIdx? p with
 | none =>
  rw [List.findIdx?_eq_none_iff] at h
  have : l.any p = false := by rw [List.any_eq_false]; intro x hx; simpa using h x hx
  rw [this]; rfl
 | some i =>
  obtain ⟨hi, hp, _⟩ := List.findIdx?_eq_some_iff_getElem.1 h
  have : l.any p = true := List.any_eq_true.2 ⟨l[i], List.getElem_mem hi, hp⟩
  rw [this]; exact decide_eq_true (show (0 : Int) ≤ (i : Int) by omega)
set_option maxHeartbeats 8000000 in
set_option maxRecDepth 100000 in
theorem indexVertex.on (p : S50 → Bool) (g : Nat) (lb : Array Value) (eg : ∀ args w, (callFunc g args).run Tryz.prog w = .ok (.enter g args) w) (A0 : Option Addr) (c0 : Nat) (l0 : List S50) (w : World) (hr0 : Kd.C k50 w A0 l0.length l0) (hlen : l0.length ≤ 9223372036854775806) (hp : PredOn Tryz.prog g lb (fun x => .agg (encVertex x).toArray) p w) :
  Calls Tryz.prog 56 #[.slice A0 l0.length c0, .func (.func g) #[] lb] w fun e w' => e = .returned (.int .i64 (idxVertex p l0)) ∧ Below w.heap.size w w' := by
 have HR0 := Aside0.mk hr0
 have HL := Aside0.mk hlen
 have HP := Aside0.mk hp
 clear hr0 hlen hp
 go_enter Tryz.func56, Tryz.ntmps56
 go_wp2
 go_loopg [8] (l0.length) (fun kq v8 w' => ∃ (i : Nat), v8 = .int .i64 (i : Int) ∧ Aside0 (i + kq = l0.length) ∧ Aside0 (∀ j (hj : j < i) (hj2 : j < l0.length), p l0[j] = false) ∧ Aside0 (Below w.heap.size w w'))
 case atStart => exact ⟨0, rfl, ⟨by omega⟩, ⟨fun j hj => absurd hj (Nat.not_lt_zero _)⟩, ⟨Below.refl _ _⟩⟩
 case round =>
  obtain ⟨i, rfl, HI, HN, HB⟩ := hrel
  by_cases hlt : i < l0.length
  ·have c1 : decide ((i : Int) < (l0.length : Int)) = true := decide_eq_true (by omega)
   have c1n : decide (i < l0.length) = true := decide_eq_true hlt
   have p1 : 0 ≤ (i : Int) := by omega
   have q1 : (i : Int) < (l0.length : Int) := by omega
   obtain ⟨ad, e1, hx0, hx1, hx2, hx3, hx4⟩ := at_T50 (Kd.C_below HR0.out HB.out) (i : Int) p1 q1
   cases e1
   rw [rd_atVertex l0 i hlt, Int.toNat_natCast] at hx0 hx1 hx2 hx3 hx4
   have HLT := Aside0.mk hlt
   have HY : Aside0 (∀ hi : i < l0.length, p l0[i] = true → idxVertex p l0 = i) := ⟨fun hi h => idxVertex_hit p l0 i hi h fun j hj => HN.out j hj (by omega)⟩
   have HY2 : Aside0 (∀ hi : i < l0.length, p l0[i] = false → ∀ j (hj : j < i + 1) (hj2 : j < l0.length), p l0[j] = false) := ⟨fun hi h j hj hj2 => by
    by_cases e : j = i
    ·subst e; exact h
    ·exact HN.out j (by omega) hj2⟩
   obtain ⟨y, hy⟩ : ∃ y, l0[i] = y := ⟨_, rfl⟩
   rw [hy] at hx0 hx1 hx2 hx3 hx4
   have HE : Aside0 (∀ hi : i < l0.length, l0[i] = y) := ⟨fun _ => hy⟩
   clear hy hlt
   replace p1 := eq_true p1
   replace q1 := eq_true q1
   obtain ⟨gk1, rfl⟩ : ∃ m, gk = m + 1 := ⟨gk - 1, by have := HI.out; have := HLT.out; omega⟩
   have hw1 : wrap64 ((i : Int) + 1) = (i : Int) + 1 := by have h1 := HL.out; have h2 := HLT.out; unfold wrap64; omega
   have hcall := fun (W : World) (hb : Below w.heap.size w W) => HP.out W y hb
   cases hq : p y with
   | true =>
    rw [hq] at hcall
    go_wp2_with (go_at_fn g; refine (hcall _ HB.out).mono ?_; rintro e w' ⟨rfl, hb⟩; have HB2 := Aside0.mk (HB.out.trans (hb.mono HB.out.size)); clear hb)
    go_ret
    refine ⟨?_, HB2.out⟩
    rw [HY.out HLT.out (by rw [HE.out HLT.out]; exact hq)]; rfl
   | false =>
    rw [hq] at hcall
    go_wp2_with (go_at_fn g; refine (hcall _ HB.out).mono ?_; rintro e w' ⟨rfl, hb⟩; have HB2 := Aside0.mk (HB.out.trans (hb.mono HB.out.size)); clear hb)
    go_roundg gk1
    case measure => omega
    case rel => exact ⟨i + 1, by go_num, ⟨by have := HI.out; omega⟩, ⟨HY2.out HLT.out (by rw [HE.out HLT.out]; exact hq)⟩, HB2⟩
  ·have c1 : decide ((i : Int) < (l0.length : Int)) = false := decide_eq_false (by omega)
   have c1n : decide (i < l0.length) = false := decide_eq_false (by omega)
   have HM : Aside0 (idxVertex p l0 = -1) := ⟨idxVertex_miss p l0 fun j hj => HN.out j (by omega) hj⟩
   clear HI hlt HN
   go_wp2
   go_ret
   exact ⟨by rw [HM.out]; rfl, HB.out⟩
set_option maxHeartbeats 8000000 in
theorem hasVertex.on (p : S50 → Bool) (g : Nat) (lb : Array Value) (eg : ∀ args w, (callFunc g args).run Tryz.prog w = .ok (.enter g args) w) (A0 : Option Addr) (c0 : Nat) (l0 : List S50) (w : World) (hr0 : Kd.C k50 w A0 l0.length l0) (hlen : l0.length ≤ 9223372036854775806) (hp : PredOn Tryz.prog g lb (fun x => .agg (encVertex x).toArray) p w) :
  Calls Tryz.prog 33 #[.slice A0 l0.length c0, .func (.func g) #[] lb] w fun e w' => e = .returned (.bool (l0.any p)) ∧ Below w.heap.size w w' := by
 have H := indexVertex.on p g lb eg A0 c0 l0 w hr0 hlen hp
 rw [← idxVertex_any]
 clear hr0 hlen hp eg
 generalize idxVertex p l0 = r at H ⊢
 go_enter Tryz.func33, Tryz.ntmps33
 go_wp2_with (go_at_call 56; refine H.mono ?_; rintro e w' ⟨rfl, hb⟩; have HB := Aside0.mk hb; clear hb)
 go_ret
 exact ⟨by first | rfl | (simp; done), HB.out⟩
end

end Go.Proofs.YtpndhkeoljoapaaGreat.P
