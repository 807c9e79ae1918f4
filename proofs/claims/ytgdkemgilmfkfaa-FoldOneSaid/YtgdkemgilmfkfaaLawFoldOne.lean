/- Printed by a program of this session (wip/lawrow.py): the row of a law, out of the plain law and the contract of its Go function. No condition. -/
import Derived.Test.YtgdkemgilmfkfaaRows
import Derived.Test.YtgdkemgilmfkfaaPx5
import Derived.Test.YtgdkemgilmfkfaaPureFoldOne
import Derived.Test.YtgdkemgilmfkfaaOpMsg
import Derived.WalkKit
import Derived.ProofKit
import Derived.OpenShut
import Derived.ShutString
import Derived.ChangeOld
import Derived.Below
import Derived.SizedLaws
import Derived.Carry
namespace Go.Proofs.Ytgdkemgilmfkfaa.foldOne
open Go.ChangeShapes Go.WideShapes Go.ChangeAt Go.RowKit
open Go.ChangeMaps (open_string shut_string)
set_option linter.unusedVariables false
theorem own : ownKnob Try.prog.godebug = none := by kernel_rfl
theorem laidOut : laidOutB Try.prog = true := by kernel_rfl
set_option maxHeartbeats 4000000 in
set_option maxRecDepth 100000 in
theorem lifted (os : Os) (started : os.Started) (H : Type) (enc : TypeId × Value → H) :
    ReturnsInHanded {} Try.checked os 6 .any (Rows.foldOneSpec.pre6 enc Try.prog Try.f6 Rows.foldOneRow.domain false) (Rows.foldOneSpec.post enc Try.prog Try.f6 false true false false) := by
  refine returnsInHanded_of_change_sized (C := Try.checked) own started (by kernel_rfl) Try.func6
    (ChangeSpec.witness6 (enc := enc) (C := Try.checked) false ⟨#[], #[.string ByteArray.empty, .agg #[.int .i64 0, .int .i64 0, .int .i64 0], .agg #[.int .i64 0, .int .i64 0, .int .i64 0]], []⟩ 8 (by kernel_rfl) (by kernel_rfl) (by kernel_rfl) (by kernel_rfl)) ?_
  intro W base args ds gs before hval0 hW hcnd hsz0 _
  have hval : ∀ (j : Nat) t v, Try.f6.params[j]? = some t → args[j]? = some v → Value.okWide Try.prog W .any base t v := hval0
  have hW' := hW
  obtain ⟨p, q, hA0, hV, rfl, hfz, hnd⟩ := hW
  have hA : DataW.TrodAll enc Try.prog W 0 (fun _ => true) true Try.f6.params.toList args.toList ds p := hA0
  rw [Try.params6] at hA hval
  obtain ⟨v0, vs0, d0, ds0, p0, q0, hargs, rfl, rfl, h0, r0⟩ := trodAll_cons hA
  obtain ⟨v1, vs1, d1, ds1, p1, q1, rfl, rfl, rfl, h1, r1⟩ := trodAll_cons r0
  obtain ⟨v2, vs2, d2, ds2, p2, q2, rfl, rfl, rfl, h2, r2⟩ := trodAll_cons r1
  obtain ⟨rfl, rfl, rfl⟩ := trodAll_nil r2
  obtain rfl : args = #[v0, v1, v2] := by cases args; simp_all
  obtain ⟨rfl, rfl⟩ := trodVars_none hV
  obtain ⟨a0, rfl, rfl, rfl, y0⟩ := open_string Try.underlying9 (hval 0 9 v0 rfl rfl) h0
  have k1 := h1
  have lt1 : ∀ x ∈ p1, x.block < W.heap.size := by obtain ⟨m, hm⟩ := k1; exact DataW.trod_lt m _ _ _ hm
  obtain ⟨cs1, rfl, hn1⟩ := okWide_struct Try.underlying41 (hval 1 41 v1 rfl rfl)
  obtain ⟨fuel1, hf1⟩ := h1
  obtain ⟨⟨a1_0, a1_1, a1_2⟩, ⟨x1, x'1, hcs1, hx1, ⟨y1, z1, hxy1, hy1, hz1⟩⟩, w1_0, w1_1, w1_2⟩ := Open.opensMsg3 enc W 0 (fun _ => true) true fuel1 _ _ hf1
  change x1 = [Value.int .i64 a1_0] at hx1
  change y1 = [Value.int .i64 a1_1] at hy1
  change z1 = [Value.int .i64 a1_2] at hz1
  subst hx1 hy1 hz1 hxy1
  obtain rfl : cs1 = #[Value.int .i64 a1_0, Value.int .i64 a1_1, Value.int .i64 a1_2] := by
    have e1 : cs1.toList = [Value.int .i64 a1_0, Value.int .i64 a1_1, Value.int .i64 a1_2] := by simpa [Value.cells] using hcs1
    exact Array.toList_inj.mp (by simpa using e1)
  have k2 := h2
  have lt2 : ∀ x ∈ p2, x.block < W.heap.size := by obtain ⟨m, hm⟩ := k2; exact DataW.trod_lt m _ _ _ hm
  obtain ⟨cs2, rfl, hn2⟩ := okWide_struct Try.underlying41 (hval 2 41 v2 rfl rfl)
  obtain ⟨fuel2, hf2⟩ := h2
  obtain ⟨⟨a2_0, a2_1, a2_2⟩, ⟨x2, x'2, hcs2, hx2, ⟨y2, z2, hxy2, hy2, hz2⟩⟩, w2_0, w2_1, w2_2⟩ := Open.opensMsg3 enc W 0 (fun _ => true) true fuel2 _ _ hf2
  change x2 = [Value.int .i64 a2_0] at hx2
  change y2 = [Value.int .i64 a2_1] at hy2
  change z2 = [Value.int .i64 a2_2] at hz2
  subst hx2 hy2 hz2 hxy2
  obtain rfl : cs2 = #[Value.int .i64 a2_0, Value.int .i64 a2_1, Value.int .i64 a2_2] := by
    have e2 : cs2.toList = [Value.int .i64 a2_0, Value.int .i64 a2_1, Value.int .i64 a2_2] := by simpa [Value.cells] using hcs2
    exact Array.toList_inj.mp (by simpa using e2)
  clear hA0 hval0 hsz0
  obtain ⟨k, hk⟩ := Pure.FoldOne a0 a1_0 a1_1 a1_2 a2_0 a2_1 a2_2 w1_0 w1_1 w1_2 w2_0 w2_1 w2_2
  refine (P.modillionlaw08_FoldOne.calls k a0 a1_0 a1_1 a1_2 a2_0 a2_1 a2_2 true W  hk).mono fun e W' ⟨he, bel⟩ => ?_
  subst he
  exact ⟨_, rfl, _, _, _, [], _, [], hW', trodAll_mk1 (shut_bool Try.underlying4 _), (trodAll_cons_mk (shut_string Try.underlying9 y0) (trodAll_cons_mk (Below.trod laidOut (by kernel_rfl) (of_decide_eq_true (by kernel_rfl)) k1 bel lt1) (trodAll_cons_mk (Below.trod laidOut (by kernel_rfl) (of_decide_eq_true (by kernel_rfl)) k2 bel lt2) trodAll_mk0))), rfl, bel.frame _, fun h => by cases h⟩
theorem over : Rows.foldOneRow.holds Try.pinned (OpenSpec.ofChange Rows.foldOneSpec) :=
  OpenClaim.holds_of_wide 6 Try.f6 rfl rfl rfl rfl rfl rfl rfl ⟨rfl, rfl, rfl, rfl, rfl⟩ rfl rfl rfl rfl rfl (by kernel_rfl) Try.func6 (by kernel_rfl)
    (of_decide_eq_true (by kernel_rfl)) (by unfold Func.isWrapper; first | (rw [if_pos (by decide +kernel)]; kernel_rfl) | (rw [if_neg (by decide +kernel)]; exact ⟨rfl, rfl⟩))
    (fun os started H enc _ => lifted os started H enc)
theorem proved : Rows.FoldOneSaid := over
#print axioms proved
end Go.Proofs.Ytgdkemgilmfkfaa.foldOne
namespace Go.Proofs.Ytgdkemgilmfkfaa
/-- The row, under a short name, for the claim. -/
theorem foldOne_holds : Rows.FoldOneSaid := foldOne.proved
end Go.Proofs.Ytgdkemgilmfkfaa
