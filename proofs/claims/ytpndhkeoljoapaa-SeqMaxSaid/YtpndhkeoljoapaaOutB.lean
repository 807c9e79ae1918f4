/- Plain lemmas about the edges out of a vertex: they ascend; reading of lists. -/
import Derived.Test.YtpndhkeoljoapaaStepB
namespace Go.Proofs.Ytpndhkeoljoapaa.Pure
open Go Go.RowKit Go.Proofs.Ytpndhkeoljoapaa.P Go.Proofs.YtpndhkeoljoapaaW.PrintWords Go.Proofs.YtpndhkeoljoapaaW.PrintLast Go.Proofs.YtpndhkeoljoapaaW.PrintMore
set_option linter.unusedVariables false
set_option linter.unusedSimpArgs false
theorem rdE7 (l : List VEdge) (i : Nat) (h : i < l.length) : rd_T45 l (i : Int) = l[i] := by
  unfold rd_T45
  simp [List.getD_eq_getElem?_getD, List.getElem?_eq_getElem h]
theorem rdM7 (l : List VMsg) (i : Nat) (h : i < l.length) : rd_T48 l (i : Int) = l[i] := by
  unfold rd_T48
  simp [List.getD_eq_getElem?_getD, List.getElem?_eq_getElem h]
theorem out_count (l : List VEdge) (id : Int) : (outV l id).length = (l.filter fun e => e.f0 == id).length := by
  unfold outV sortE
  exact ((List.mergeSort_perm l _).filter _).length_eq
theorem out_ascends {l : List VEdge} (hd : dupE l = false) (id : Int) : (outV l id).Pairwise fun x y => x.f1 < y.f1 := by
  have hs := (sortE_sorted l).2
  have hp : Simple (sortE l) := (simple_perm (sortE_sorted l).1).mpr ((dupE_iff l).1 hd)
  unfold Simple at hp
  have hq := (hs.and hp).filter fun e => e.f0 == id
  refine List.Pairwise.imp_of_mem (fun {a b} ha hb h => ?_) hq
  have h1 : a.f0 = id := by simpa using (List.mem_filter.mp ha).2
  have h2 : b.f0 = id := by simpa using (List.mem_filter.mp hb).2
  obtain ⟨h3, h4⟩ := h
  omega
theorem goes_rank {t : List UInt8} (hk : knownB t = true) (src steps at_ id val inn m : Int) (has : Bool) (h : (stepV t src steps at_ id val has inn m).2.1 = true) : t = tRank := by
  have hb : ∀ z c is, (betterV z c is val inn).2.1 = false := fun z c is => by
    unfold betterV
    cases z <;> cases (c && is) <;> rfl
  unfold knownB at hk
  simp only [Bool.or_eq_true, beq_iff_eq] at hk
  rcases hk with rfl | rfl | rfl | rfl | rfl | rfl | rfl
  · rw [show stepV tMax src steps at_ id val has inn m = betterV (decide (at_ = 0)) (decide (at_ > 0) && has) (decide (inn > val)) val inn from rfl, hb] at h
    cases h
  · rw [show stepV tLabel src steps at_ id val has inn m = betterV (decide (at_ = 0)) (decide (at_ > 0) && has) (decide (inn < val)) val inn from rfl, hb] at h
    cases h
  · rw [show stepV tSssp src steps at_ id val has inn m = if at_ = 0 then (val, false, id == src, 0) else betterV false (decide (at_ > 0) && has) (decide (val < 0) || decide (inn < val)) val inn from rfl] at h
    split at h
    · cases h
    · rw [hb] at h
      cases h
  · rw [show stepV tBfs src steps at_ id val has inn m = if at_ = 0 then (val, false, id == src, 0) else betterV false (decide (at_ > 0) && has) (decide (val < 0) || decide (inn < val)) val inn from rfl] at h
    split at h
    · cases h
    · rw [hb] at h
      cases h
  · rw [show stepV tDegree src steps at_ id val has inn m = if (decide (at_ > 0) && has) = true then (inn, false, false, 0) else (val, false, at_ == 0, 1) from rfl] at h
    split at h <;> cases h
  · rfl
  · rw [show stepV tWalks src steps at_ id val has inn m = if at_ = 0 then (val, false, true, 1) else (val + inn, false, decide (at_ > 0) && has, inn) from rfl] at h
    split at h <;> cases h
theorem step_sends (n : Int) (l : List VEdge) (t : List UInt8) (src steps at_ id val : Int) (act has : Bool) (inn : Int) : (stepR n l t src steps at_ id val act has inn).2.2.2.2.2.1.length ≤ l.length := by
  have ol := out_len l id
  obtain ⟨e, he, hr⟩ | ⟨_, _, hr⟩ | ⟨_, _, _, _, _, s, hs, hr⟩ := step_ways n l t src steps at_ id val act has inn
  · rw [hr]
    exact Nat.zero_le _
  · rw [hr]
    exact Nat.zero_le _
  · rw [hr]
    show (if s.2.2.1 = true then (outV l id).map (sendV t id s.2.2.2) else []).length ≤ l.length
    split
    · rw [List.length_map]
      exact ol
    · exact Nat.zero_le _
/-- Two values as one, of any program. -/
def foldA (t : List UInt8) (a b : Int) : Int × Int := if knownB t = true then foldP t a b else (0, 70)
theorem fold_all (s : ByteArray) (a b : Int) (k : Nat) : prog_Fold.f (k + 8) s a b = some (foldA s.toList a b) := by
  unfold foldA
  cases h : knownB s.toList with
  | true => rw [if_pos rfl]; exact fold_f s h a b k
  | false =>
    unfold prog_Fold.f
    rw [known_f, h]
    rfl
end Go.Proofs.Ytpndhkeoljoapaa.Pure
