/- Which programs are known, by the document. -/
import Derived.Test.YtpndhkeoljoapaaGreatTag
namespace Go.Proofs.YtpndhkeoljoapaaGreat.Pure
open Go Go.RowKit Go.Proofs.YtpndhkeoljoapaaGreat.P Go.Proofs.YtpndhkeoljoapaaGreatW.PrintWords Go.Proofs.YtpndhkeoljoapaaGreatW.PrintLast Go.Proofs.YtpndhkeoljoapaaGreatW.PrintMore
theorem refknown_f (s : ByteArray) : modillionref07_Known.f s = some (knownB s.toList) := by
  unfold modillionref07_Known.f knownB
  generalize s.toList = t
  by_cases c1 : t = tMax
  · rw [c1]; rfl
  by_cases c2 : t = tLabel
  · rw [c2]; rfl
  by_cases c3 : t = tSssp
  · rw [c3]; rfl
  by_cases c4 : t = tBfs
  · rw [c4]; rfl
  by_cases c5 : t = tDegree
  · rw [c5]; rfl
  by_cases c6 : t = tRank
  · rw [c6]; rfl
  rw [if_neg c1, if_neg c2, if_neg c3, if_neg c4, if_neg c5, if_neg c6, beq_eq_false_iff_ne.mpr c1, beq_eq_false_iff_ne.mpr c2, beq_eq_false_iff_ne.mpr c3, beq_eq_false_iff_ne.mpr c4, beq_eq_false_iff_ne.mpr c5, beq_eq_false_iff_ne.mpr c6]
  rfl
end Go.Proofs.YtpndhkeoljoapaaGreat.Pure
