/- Printed by a program of this session (wip/lawrow.py): the row of a law, out of the plain law and the contract of its Go function. No condition. -/
import Derived.Test.YtpndhkeoljoapaaGreatRows
import Derived.Test.YtpndhkeoljoapaaGreatPx24
import Derived.Test.YtpndhkeoljoapaaGreatOpEdgeAll
import Derived.WalkKit
import Derived.ProofKit
import Derived.OpenShut
import Derived.ShutString
import Derived.ChangeOld
import Derived.Below
import Derived.SizedLaws
import Derived.Carry
namespace Go.Proofs.YtpndhkeoljoapaaGreat.seqRuns
open Go.ChangeShapes Go.WideShapes Go.ChangeAt Go.RowKit
open Go.ChangeMaps (open_string shut_string)
set_option linter.unusedVariables false
theorem own : ownKnob Tryz.prog.godebug = none := by kernel_rfl
theorem laidOut : laidOutB Tryz.prog = true := by kernel_rfl
set_option maxHeartbeats 4000000 in
set_option maxRecDepth 100000 in
theorem lifted (os : Os) (started : os.Started) (H : Type) (enc : TypeId × Value → H) :
    ReturnsInHanded {} Tryz.checked os 4 .any (Rows.seqRunsSpec.pre6 enc Tryz.prog Tryz.f4 Rows.seqRunsRow.domain false) (Rows.seqRunsSpec.post enc Tryz.prog Tryz.f4 false true false false) := by
  refine returnsInHanded_of_change_sized (C := Tryz.checked) own started (by kernel_rfl) Tryz.func4
    (ChangeSpec.witness6 (enc := enc) (C := Tryz.checked) false ⟨#[], #[.agg #[.int .i64 0, .slice none 0 0], .agg #[.string ByteArray.empty, .int .i64 0, .int .i64 0]], []⟩ 8 (by kernel_rfl) (by kernel_rfl) (by kernel_rfl) (by kernel_rfl)) ?_
  intro W base args ds gs before hval0 hW hcnd hsz0 _
  have hval : ∀ (j : Nat) t v, Tryz.f4.params[j]? = some t → args[j]? = some v → Value.okWide Tryz.prog W .any base t v := hval0
  have hW' := hW
  obtain ⟨p, q, hA0, hV, rfl, hfz, hnd⟩ := hW
  have hA : DataW.TrodAll enc Tryz.prog W 0 (fun _ => true) true Tryz.f4.params.toList args.toList ds p := hA0
  rw [Tryz.params4] at hA hval
  obtain ⟨v0, vs0, d0, ds0, p0, q0, hargs, rfl, rfl, h0, r0⟩ := trodAll_cons hA
  obtain ⟨v1, vs1, d1, ds1, p1, q1, rfl, rfl, rfl, h1, r1⟩ := trodAll_cons r0
  obtain ⟨rfl, rfl, rfl⟩ := trodAll_nil r1
  obtain rfl : args = #[v0, v1] := by cases args; simp_all
  obtain ⟨rfl, rfl⟩ := trodVars_none hV
  have k0 := h0
  have lt0 : ∀ x ∈ p0, x.block < W.heap.size := by obtain ⟨m, hm⟩ := k0; exact DataW.trod_lt m _ _ _ hm
  obtain ⟨cs0, rfl, hn0⟩ := okWide_struct Tryz.underlying24 (hval 0 24 v0 rfl rfl)
  obtain ⟨fuel0, hf0⟩ := h0
  obtain ⟨⟨a0_0, l0_1⟩, ⟨x0, y0, hcs0, hx0, ⟨A0_1, c0_1, hy0, hc0_1, hr0_1⟩⟩, w0_0, w0_1⟩ := Open.opensGraph enc W 0 (fun _ => true) true fuel0 _ _ hf0
  change x0 = [Value.int .i64 a0_0] at hx0
  subst hx0 hy0
  obtain rfl : cs0 = #[Value.int .i64 a0_0, Value.slice A0_1 l0_1.length c0_1] := by
    have e0 : cs0.toList = [Value.int .i64 a0_0, Value.slice A0_1 l0_1.length c0_1] := by simpa [Value.cells] using hcs0
    exact Array.toList_inj.mp (by simpa using e0)
  have k1 := h1
  have lt1 : ∀ x ∈ p1, x.block < W.heap.size := by obtain ⟨m, hm⟩ := k1; exact DataW.trod_lt m _ _ _ hm
  obtain ⟨cs1, rfl, hn1⟩ := okWide_struct Tryz.underlying26 (hval 1 26 v1 rfl rfl)
  obtain ⟨fuel1, hf1⟩ := h1
  obtain ⟨⟨a1_0, a1_1, a1_2⟩, ⟨x1, x'1, hcs1, hx1, ⟨y1, z1, hxy1, hy1, hz1⟩⟩, w1_0, w1_1, w1_2⟩ := Open.opensJob enc W 0 (fun _ => true) true fuel1 _ _ hf1
  change x1 = [Value.string a1_0] at hx1
  change y1 = [Value.int .i64 a1_1] at hy1
  change z1 = [Value.int .i64 a1_2] at hz1
  subst hx1 hy1 hz1 hxy1
  obtain rfl : cs1 = #[Value.string a1_0, Value.int .i64 a1_1, Value.int .i64 a1_2] := by
    have e1 : cs1.toList = [Value.string a1_0, Value.int .i64 a1_1, Value.int .i64 a1_2] := by simpa [Value.cells] using hcs1
    exact Array.toList_inj.mp (by simpa using e1)
  clear hA0 hval0 hsz0
  obtain ⟨k, hk⟩ := Pure.SeqRuns a0_0 l0_1 a1_0 a1_1 a1_2 w0_0 w0_1 w1_1 w1_2
  refine (P.modillionlaw09_SeqRuns.calls k a0_0 A0_1 c0_1 l0_1 a1_0 a1_1 a1_2 true W hr0_1 hc0_1 hk).mono fun e W' ⟨he, bel⟩ => ?_
  subst he
  exact ⟨_, rfl, _, _, _, [], _, [], hW', trodAll_mk1 (shut_bool Tryz.underlying4 _), (trodAll_cons_mk (Below.trod laidOut (by kernel_rfl) (of_decide_eq_true (by kernel_rfl)) k0 bel lt0) (trodAll_cons_mk (Below.trod laidOut (by kernel_rfl) (of_decide_eq_true (by kernel_rfl)) k1 bel lt1) trodAll_mk0)), rfl, bel.frame _, fun h => by cases h⟩
theorem over : Rows.seqRunsRow.holds Tryz.pinned (OpenSpec.ofChange Rows.seqRunsSpec) :=
  OpenClaim.holds_of_wide 4 Tryz.f4 rfl rfl rfl rfl rfl rfl rfl ⟨rfl, rfl, rfl, rfl, rfl⟩ rfl rfl rfl rfl rfl (by kernel_rfl) Tryz.func4 (by kernel_rfl)
    (of_decide_eq_true (by kernel_rfl)) (by unfold Func.isWrapper; first | (rw [if_pos (by decide +kernel)]; kernel_rfl) | (rw [if_neg (by decide +kernel)]; exact ⟨rfl, rfl⟩))
    (fun os started H enc _ => lifted os started H enc)
theorem proved : Rows.SeqRunsSaid := over
#print axioms proved
end Go.Proofs.YtpndhkeoljoapaaGreat.seqRuns
namespace Go.Proofs.YtpndhkeoljoapaaGreat
/-- The row, under a short name, for the claim. -/
theorem seqRuns_holds : Rows.SeqRunsSaid := seqRuns.proved
end Go.Proofs.YtpndhkeoljoapaaGreat
