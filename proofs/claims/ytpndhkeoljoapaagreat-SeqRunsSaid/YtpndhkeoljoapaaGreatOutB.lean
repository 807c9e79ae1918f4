/- Plain lemmas about the edges out of a vertex: they ascend; reading of lists. -/
import Derived.Test.YtpndhkeoljoapaaGreatStepB
namespace Go.Proofs.YtpndhkeoljoapaaGreat.Pure
open Go Go.RowKit Go.Proofs.YtpndhkeoljoapaaGreat.P Go.Proofs.YtpndhkeoljoapaaGreatW.PrintWords Go.Proofs.YtpndhkeoljoapaaGreatW.PrintLast Go.Proofs.YtpndhkeoljoapaaGreatW.PrintMore
set_option linter.unusedVariables false
set_option linter.unusedSimpArgs false
theorem rdE7 (l : List VEdge) (i : Nat) (h : i < l.length) : rd_T48 l (i : Int) = l[i] := by
  unfold rd_T48
  simp [List.getD_eq_getElem?_getD, List.getElem?_eq_getElem h]
theorem rdM7 (l : List VMsg) (i : Nat) (h : i < l.length) : rd_T61 l (i : Int) = l[i] := by
  unfold rd_T61
  simp [List.getD_eq_getElem?_getD, List.getElem?_eq_getElem h]
theorem step_sends (n : Int) (l : List VEdge) (t : List UInt8) (src steps at_ id val : Int) (act has : Bool) (inn : Int) : (stepR n l t src steps at_ id val act has inn).2.2.2.2.2.1.length ≤ l.length := by
  have ol := out_len l id
  obtain ⟨e, he, hr⟩ | ⟨_, _, hr⟩ | ⟨_, _, _, _, _, s, hs, hr⟩ := step_ways n l t src steps at_ id val act has inn
  · rw [hr]
    exact Nat.zero_le _
  · rw [hr]
    exact Nat.zero_le _
  · rw [hr]
    show (if s.2.2.1 = true then (outV l id).map (sendV t id s.2.2.2) else []).length ≤ l.length
    split
    · rw [List.length_map]
      exact ol
    · exact Nat.zero_le _
/-- Two values as one, of any program. -/
def foldA (t : List UInt8) (a b : Int) : Int × Int := if knownB t = true then foldP t a b else (0, 70)
theorem fold_all (s : ByteArray) (a b : Int) (k : Nat) : prog_Fold.f (k + 8) s a b = some (foldA s.toList a b) := by
  unfold foldA
  cases h : knownB s.toList with
  | true => rw [if_pos rfl]; exact fold_f s h a b k
  | false =>
    unfold prog_Fold.f
    rw [known_f, h]
    rfl
end Go.Proofs.YtpndhkeoljoapaaGreat.Pure
