/- Printed by a program of this session (wip/lawrow.py): the row of a law, out of the plain law and the contract of its Go function. No condition. -/
import Derived.Test.YtpndhkeoljoapaaRows
import Derived.Test.YtpndhkeoljoapaaPx11
import Derived.Test.YtpndhkeoljoapaaPureSeqMax
import Derived.Test.YtpndhkeoljoapaaOpEdge
import Derived.WalkKit
import Derived.ProofKit
import Derived.OpenShut
import Derived.ShutString
import Derived.ChangeOld
import Derived.Below
import Derived.SizedLaws
import Derived.Carry
namespace Go.Proofs.Ytpndhkeoljoapaa.seqMax
open Go.ChangeShapes Go.WideShapes Go.ChangeAt Go.RowKit
open Go.ChangeMaps (open_string shut_string)
set_option linter.unusedVariables false
theorem own : ownKnob Try.prog.godebug = none := by kernel_rfl
theorem laidOut : laidOutB Try.prog = true := by kernel_rfl
set_option maxHeartbeats 4000000 in
set_option maxRecDepth 100000 in
theorem lifted (os : Os) (started : os.Started) (H : Type) (enc : TypeId × Value → H) :
    ReturnsInHanded {} Try.checked os 9 .any (Rows.seqMaxSpec.pre6 enc Try.prog Try.f9 Rows.seqMaxRow.domain false) (Rows.seqMaxSpec.post enc Try.prog Try.f9 false true false false) := by
  refine returnsInHanded_of_change_sized (C := Try.checked) own started (by kernel_rfl) Try.func9
    (ChangeSpec.witness6 (enc := enc) (C := Try.checked) false ⟨#[], #[.agg #[.int .i64 0, .slice none 0 0]], []⟩ 8 (by kernel_rfl) (by kernel_rfl) (by kernel_rfl) (by kernel_rfl)) ?_
  intro W base args ds gs before hval0 hW hcnd hsz0 _
  have hval : ∀ (j : Nat) t v, Try.f9.params[j]? = some t → args[j]? = some v → Value.okWide Try.prog W .any base t v := hval0
  have hW' := hW
  obtain ⟨p, q, hA0, hV, rfl, hfz, hnd⟩ := hW
  have hA : DataW.TrodAll enc Try.prog W 0 (fun _ => true) true Try.f9.params.toList args.toList ds p := hA0
  rw [Try.params9] at hA hval
  obtain ⟨v0, vs0, d0, ds0, p0, q0, hargs, rfl, rfl, h0, r0⟩ := trodAll_cons hA
  obtain ⟨rfl, rfl, rfl⟩ := trodAll_nil r0
  obtain rfl : args = #[v0] := by cases args; simp_all
  obtain ⟨rfl, rfl⟩ := trodVars_none hV
  have k0 := h0
  have lt0 : ∀ x ∈ p0, x.block < W.heap.size := by obtain ⟨m, hm⟩ := k0; exact DataW.trod_lt m _ _ _ hm
  obtain ⟨cs0, rfl, hn0⟩ := okWide_struct Try.underlying24 (hval 0 24 v0 rfl rfl)
  obtain ⟨fuel0, hf0⟩ := h0
  obtain ⟨⟨a0_0, l0_1⟩, ⟨x0, y0, hcs0, hx0, ⟨A0_1, c0_1, hy0, hc0_1, hr0_1⟩⟩, w0_0, w0_1⟩ := Open.opensGraph enc W 0 (fun _ => true) true fuel0 _ _ hf0
  change x0 = [Value.int .i64 a0_0] at hx0
  subst hx0 hy0
  obtain rfl : cs0 = #[Value.int .i64 a0_0, Value.slice A0_1 l0_1.length c0_1] := by
    have e0 : cs0.toList = [Value.int .i64 a0_0, Value.slice A0_1 l0_1.length c0_1] := by simpa [Value.cells] using hcs0
    exact Array.toList_inj.mp (by simpa using e0)
  clear hA0 hval0 hsz0
  obtain ⟨k, hk⟩ := Pure.SeqMax a0_0 l0_1 w0_0 w0_1
  refine (P.modillionlaw09_SeqMax.calls k a0_0 A0_1 c0_1 l0_1 true W hr0_1 hc0_1 hk).mono fun e W' ⟨he, bel⟩ => ?_
  subst he
  exact ⟨_, rfl, _, _, _, [], _, [], hW', trodAll_mk1 (shut_bool Try.underlying4 _), (trodAll_cons_mk (Below.trod laidOut (by kernel_rfl) (of_decide_eq_true (by kernel_rfl)) k0 bel lt0) trodAll_mk0), rfl, bel.frame _, fun h => by cases h⟩
theorem over : Rows.seqMaxRow.holds Try.pinned (OpenSpec.ofChange Rows.seqMaxSpec) :=
  OpenClaim.holds_of_wide 9 Try.f9 rfl rfl rfl rfl rfl rfl rfl ⟨rfl, rfl, rfl, rfl, rfl⟩ rfl rfl rfl rfl rfl (by kernel_rfl) Try.func9 (by kernel_rfl)
    (of_decide_eq_true (by kernel_rfl)) (by unfold Func.isWrapper; first | (rw [if_pos (by decide +kernel)]; kernel_rfl) | (rw [if_neg (by decide +kernel)]; exact ⟨rfl, rfl⟩))
    (fun os started H enc _ => lifted os started H enc)
theorem proved : Rows.SeqMaxSaid := over
#print axioms proved
end Go.Proofs.Ytpndhkeoljoapaa.seqMax
namespace Go.Proofs.Ytpndhkeoljoapaa
/-- The row, under a short name, for the claim. -/
theorem seqMax_holds : Rows.SeqMaxSaid := seqMax.proved
end Go.Proofs.Ytpndhkeoljoapaa
