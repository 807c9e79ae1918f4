/- Plain lemmas about the edges out of a vertex: they ascend; reading of lists. -/
import Derived.Test.YtdmihkffjbapjaaStep
namespace Go.Proofs.Ytdmihkffjbapjaa.Pure
open Go Go.RowKit Go.Proofs.Ytdmihkffjbapjaa.P Go.Proofs.YtdmihkffjbapjaaW.PrintWords Go.Proofs.YtdmihkffjbapjaaW.PrintLast Go.Proofs.YtdmihkffjbapjaaW.PrintMore
set_option linter.unusedVariables false
set_option linter.unusedSimpArgs false
theorem rdE7 (l : List VEdge) (i : Nat) (h : i < l.length) : rd_T46 l (i : Int) = l[i] := by
  unfold rd_T46
  simp [List.getD_eq_getElem?_getD, List.getElem?_eq_getElem h]
theorem rdM7 (l : List VMsg) (i : Nat) (h : i < l.length) : rd_T48 l (i : Int) = l[i] := by
  unfold rd_T48
  simp [List.getD_eq_getElem?_getD, List.getElem?_eq_getElem h]
theorem out_count (l : List VEdge) (id : Int) : (outV l id).length = (l.filter fun e => e.f0 == id).length := by
  unfold outV sortE
  exact ((List.mergeSort_perm l _).filter _).length_eq
theorem out_ascends {l : List VEdge} (hd : dupE l = false) (id : Int) : (outV l id).Pairwise fun x y => x.f1 < y.f1 := by
  have hs := (sortE_sorted l).2
  have hp : Simple (sortE l) := (simple_perm (sortE_sorted l).1).mpr ((dupE_iff l).1 hd)
  unfold Simple at hp
  have hq := (hs.and hp).filter fun e => e.f0 == id
  refine List.Pairwise.imp_of_mem (fun {a b} ha hb h => ?_) hq
  have h1 : a.f0 = id := by simpa using (List.mem_filter.mp ha).2
  have h2 : b.f0 = id := by simpa using (List.mem_filter.mp hb).2
  obtain ⟨h3, h4⟩ := h
  omega
theorem goes_rank {t : List UInt8} (hk : knownB t = true) (src steps at_ id val inn m : Int) (has : Bool) (h : (stepV t src steps at_ id val has inn m).2.1 = true) : t = tRank := by
  have hb : ∀ z c is, (betterV z c is val inn).2.1 = false := fun z c is => by
    unfold betterV
    cases z <;> cases (c && is) <;> rfl
  unfold knownB at hk
  simp only [Bool.or_eq_true, beq_iff_eq] at hk
  rcases hk with rfl | rfl | rfl | rfl | rfl | rfl | rfl
  · rw [show stepV tMax src steps at_ id val has inn m = betterV (decide (at_ = 0)) (decide (at_ > 0) && has) (decide (inn > val)) val inn from rfl, hb] at h
    cases h
  · rw [show stepV tLabel src steps at_ id val has inn m = betterV (decide (at_ = 0)) (decide (at_ > 0) && has) (decide (inn < val)) val inn from rfl, hb] at h
    cases h
  · rw [show stepV tSssp src steps at_ id val has inn m = if at_ = 0 then (val, false, id == src, 0) else betterV false (decide (at_ > 0) && has) (decide (val < 0) || decide (inn < val)) val inn from rfl] at h
    split at h
    · cases h
    · rw [hb] at h
      cases h
  · rw [show stepV tBfs src steps at_ id val has inn m = if at_ = 0 then (val, false, id == src, 0) else betterV false (decide (at_ > 0) && has) (decide (val < 0) || decide (inn < val)) val inn from rfl] at h
    split at h
    · cases h
    · rw [hb] at h
      cases h
  · rw [show stepV tDegree src steps at_ id val has inn m = if (decide (at_ > 0) && has) = true then (inn, false, false, 0) else (val, false, at_ == 0, 1) from rfl] at h
    split at h <;> cases h
  · rfl
  · rw [show stepV tWalks src steps at_ id val has inn m = if at_ = 0 then (val, false, true, 1) else (val + inn, false, decide (at_ > 0) && has, inn) from rfl] at h
    split at h <;> cases h
end Go.Proofs.Ytdmihkffjbapjaa.Pure
