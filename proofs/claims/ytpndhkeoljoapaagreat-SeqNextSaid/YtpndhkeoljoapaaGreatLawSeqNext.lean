/- Printed by a program of this session (wip/lawrow.py): the row of a law, out of the plain law and the contract of its Go function. No condition. -/
import Derived.Test.YtpndhkeoljoapaaGreatRows
import Derived.Test.YtpndhkeoljoapaaGreatPx21
import Derived.Test.YtpndhkeoljoapaaGreatPureSeqNextAll
import Derived.Test.YtpndhkeoljoapaaGreatOpEdgeAll
import Derived.WalkKit
import Derived.ProofKit
import Derived.OpenShut
import Derived.ShutString
import Derived.ChangeOld
import Derived.Below
import Derived.SizedLaws
import Derived.Carry
namespace Go.Proofs.YtpndhkeoljoapaaGreat.seqNext
open Go.ChangeShapes Go.WideShapes Go.ChangeAt Go.RowKit
open Go.ChangeMaps (open_string shut_string)
set_option linter.unusedVariables false
theorem own : ownKnob Tryz.prog.godebug = none := by kernel_rfl
theorem laidOut : laidOutB Tryz.prog = true := by kernel_rfl
set_option maxHeartbeats 4000000 in
set_option maxRecDepth 100000 in
theorem lifted (os : Os) (started : os.Started) (H : Type) (enc : TypeId × Value → H) :
    ReturnsInHanded {} Tryz.checked os 3 .any (Rows.seqNextSpec.pre6 enc Tryz.prog Tryz.f3 Rows.seqNextRow.domain false) (Rows.seqNextSpec.post enc Tryz.prog Tryz.f3 false true false false) := by
  refine returnsInHanded_of_change_sized (C := Tryz.checked) own started (by kernel_rfl) Tryz.func3
    (ChangeSpec.witness6 (enc := enc) (C := Tryz.checked) false ⟨#[], #[.agg #[.int .i64 0, .slice none 0 0], .agg #[.string ByteArray.empty, .int .i64 0, .int .i64 0], .int .i64 0, .slice none 0 0], []⟩ 8 (by kernel_rfl) (by kernel_rfl) (by kernel_rfl) (by kernel_rfl)) ?_
  intro W base args ds gs before hval0 hW hcnd hsz0 _
  have hval : ∀ (j : Nat) t v, Tryz.f3.params[j]? = some t → args[j]? = some v → Value.okWide Tryz.prog W .any base t v := hval0
  have hW' := hW
  obtain ⟨p, q, hA0, hV, rfl, hfz, hnd⟩ := hW
  have hA : DataW.TrodAll enc Tryz.prog W 0 (fun _ => true) true Tryz.f3.params.toList args.toList ds p := hA0
  rw [Tryz.params3] at hA hval
  obtain ⟨v0, vs0, d0, ds0, p0, q0, hargs, rfl, rfl, h0, r0⟩ := trodAll_cons hA
  obtain ⟨v1, vs1, d1, ds1, p1, q1, rfl, rfl, rfl, h1, r1⟩ := trodAll_cons r0
  obtain ⟨v2, vs2, d2, ds2, p2, q2, rfl, rfl, rfl, h2, r2⟩ := trodAll_cons r1
  obtain ⟨v3, vs3, d3, ds3, p3, q3, rfl, rfl, rfl, h3, r3⟩ := trodAll_cons r2
  obtain ⟨rfl, rfl, rfl⟩ := trodAll_nil r3
  obtain rfl : args = #[v0, v1, v2, v3] := by cases args; simp_all
  obtain ⟨rfl, rfl⟩ := trodVars_none hV
  have k0 := h0
  have lt0 : ∀ x ∈ p0, x.block < W.heap.size := by obtain ⟨m, hm⟩ := k0; exact DataW.trod_lt m _ _ _ hm
  obtain ⟨cs0, rfl, hn0⟩ := okWide_struct Tryz.underlying24 (hval 0 24 v0 rfl rfl)
  obtain ⟨fuel0, hf0⟩ := h0
  obtain ⟨⟨a0_0, l0_1⟩, ⟨x0, y0, hcs0, hx0, ⟨A0_1, c0_1, hy0, hc0_1, hr0_1⟩⟩, w0_0, w0_1⟩ := Open.opensGraph enc W 0 (fun _ => true) true fuel0 _ _ hf0
  change x0 = [Value.int .i64 a0_0] at hx0
  subst hx0 hy0
  obtain rfl : cs0 = #[Value.int .i64 a0_0, Value.slice A0_1 l0_1.length c0_1] := by
    have e0 : cs0.toList = [Value.int .i64 a0_0, Value.slice A0_1 l0_1.length c0_1] := by simpa [Value.cells] using hcs0
    exact Array.toList_inj.mp (by simpa using e0)
  have k1 := h1
  have lt1 : ∀ x ∈ p1, x.block < W.heap.size := by obtain ⟨m, hm⟩ := k1; exact DataW.trod_lt m _ _ _ hm
  obtain ⟨cs1, rfl, hn1⟩ := okWide_struct Tryz.underlying26 (hval 1 26 v1 rfl rfl)
  obtain ⟨fuel1, hf1⟩ := h1
  obtain ⟨⟨a1_0, a1_1, a1_2⟩, ⟨x1, x'1, hcs1, hx1, ⟨y1, z1, hxy1, hy1, hz1⟩⟩, w1_0, w1_1, w1_2⟩ := Open.opensJob enc W 0 (fun _ => true) true fuel1 _ _ hf1
  change x1 = [Value.string a1_0] at hx1
  change y1 = [Value.int .i64 a1_1] at hy1
  change z1 = [Value.int .i64 a1_2] at hz1
  subst hx1 hy1 hz1 hxy1
  obtain rfl : cs1 = #[Value.string a1_0, Value.int .i64 a1_1, Value.int .i64 a1_2] := by
    have e1 : cs1.toList = [Value.string a1_0, Value.int .i64 a1_1, Value.int .i64 a1_2] := by simpa [Value.cells] using hcs1
    exact Array.toList_inj.mp (by simpa using e1)
  obtain ⟨a2, rfl, rfl, rfl, w2⟩ := open_int Tryz.underlying3 (hval 2 3 v2 rfl rfl) h2
  have k3 := h3
  have lt3 : ∀ x ∈ p3, x.block < W.heap.size := by obtain ⟨m, hm⟩ := k3; exact DataW.trod_lt m _ _ _ hm
  obtain ⟨b3, len3, cap3, rfl⟩ := okWide_slice Tryz.underlying27 (hval 3 27 v3 rfl rfl)
  obtain ⟨fuel3, hf3⟩ := h3
  obtain ⟨l3, ⟨A3, c3, hcs3, hc3, hr3⟩, w3⟩ := Open.opensVertices enc W 0 (fun _ => true) true fuel3 _ _ hf3
  obtain ⟨rfl, rfl, rfl⟩ : b3 = A3 ∧ len3 = l3.length ∧ cap3 = c3 := by simpa [Value.cells] using hcs3
  clear hA0 hval0 hsz0
  obtain ⟨k, hk⟩ := Pure.SeqNext a0_0 l0_1 a1_0 a1_1 a1_2 a2 l3 w0_0 w0_1 w1_1 w1_2 w2 w3
  refine (P.modillionlaw09_SeqNext.calls k a0_0 A0_1 c0_1 l0_1 a1_0 a1_1 a1_2 a2 b3 cap3 l3 true W hr0_1 hc0_1 hr3 hc3 hk).mono fun e W' ⟨he, bel⟩ => ?_
  subst he
  exact ⟨_, rfl, _, _, _, [], _, [], hW', trodAll_mk1 (shut_bool Tryz.underlying4 _), (trodAll_cons_mk (Below.trod laidOut (by kernel_rfl) (of_decide_eq_true (by kernel_rfl)) k0 bel lt0) (trodAll_cons_mk (Below.trod laidOut (by kernel_rfl) (of_decide_eq_true (by kernel_rfl)) k1 bel lt1) (trodAll_cons_mk (shut_int Tryz.underlying3 w2) (trodAll_cons_mk (Below.trod laidOut (by kernel_rfl) (of_decide_eq_true (by kernel_rfl)) k3 bel lt3) trodAll_mk0)))), rfl, bel.frame _, fun h => by cases h⟩
theorem over : Rows.seqNextRow.holds Tryz.pinned (OpenSpec.ofChange Rows.seqNextSpec) :=
  OpenClaim.holds_of_wide 3 Tryz.f3 rfl rfl rfl rfl rfl rfl rfl ⟨rfl, rfl, rfl, rfl, rfl⟩ rfl rfl rfl rfl rfl (by kernel_rfl) Tryz.func3 (by kernel_rfl)
    (of_decide_eq_true (by kernel_rfl)) (by unfold Func.isWrapper; first | (rw [if_pos (by decide +kernel)]; kernel_rfl) | (rw [if_neg (by decide +kernel)]; exact ⟨rfl, rfl⟩))
    (fun os started H enc _ => lifted os started H enc)
theorem proved : Rows.SeqNextSaid := over
#print axioms proved
end Go.Proofs.YtpndhkeoljoapaaGreat.seqNext
namespace Go.Proofs.YtpndhkeoljoapaaGreat
/-- The row, under a short name, for the claim. -/
theorem seqNext_holds : Rows.SeqNextSaid := seqNext.proved
end Go.Proofs.YtpndhkeoljoapaaGreat
