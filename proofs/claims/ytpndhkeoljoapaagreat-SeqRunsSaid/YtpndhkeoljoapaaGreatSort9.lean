/- Plain lemmas about messages in order: that two ways to sort come to one, and what the reference's loops come to. -/
import Derived.Test.YtpndhkeoljoapaaGreatPx
namespace Go.Proofs.YtpndhkeoljoapaaGreat.Pure
open Go.RowKit Go.Proofs.YtpndhkeoljoapaaGreat.P
abbrev Msg := S61
theorem wrap_id {n : Int} (h1 : -9223372036854775808 ≤ n) (h2 : n < 9223372036854775808) : wrap64 n = n := by unfold wrap64; omega
def leMsg (x y : Msg) : Prop := ltMsg y x = false
theorem leMsg_trans {a b c : Msg} (h1 : leMsg a b) (h2 : leMsg b c) : leMsg a c := by
  unfold leMsg at *
  rw [ltMsg_not] at *
  omega
theorem leMsg_total (a b : Msg) : leMsg a b ∨ leMsg b a := by
  unfold leMsg
  rw [ltMsg_not, ltMsg_not]
  omega
theorem leMsg_antisymm {a b : Msg} (h1 : leMsg a b) (h2 : leMsg b a) : a = b := by
  unfold leMsg at *
  rw [ltMsg_not] at *
  obtain ⟨a0, a1, a2⟩ := a
  obtain ⟨b0, b1, b2⟩ := b
  simp only at h1 h2
  obtain rfl : a1 = b1 := by omega
  obtain rfl : a0 = b0 := by omega
  obtain rfl : a2 = b2 := by omega
  rfl
theorem perm_unique : ∀ {l l' : List Msg}, l.Perm l' → l.Pairwise leMsg → l'.Pairwise leMsg → l = l'
  | [], l', h, _, _ => by rw [List.nil_perm] at h; exact h.symm
  | x :: l, [], h, _, _ => by simp at h
  | x :: l, y :: l', h, hs, hs' => by
    have hxy : x = y := by
      have hx : x ∈ y :: l' := h.subset (List.mem_cons_self ..)
      have hy : y ∈ x :: l := h.symm.subset (List.mem_cons_self ..)
      rcases List.mem_cons.1 hx with e | hx
      · exact e
      · rcases List.mem_cons.1 hy with e | hy
        · exact e.symm
        · exact leMsg_antisymm ((List.pairwise_cons.1 hs).1 y hy) ((List.pairwise_cons.1 hs').1 x hx)
    subst hxy
    rw [perm_unique (List.perm_cons x |>.1 h) (List.pairwise_cons.1 hs).2 (List.pairwise_cons.1 hs').2]
theorem sortMsg_perm (l : List Msg) : (sortMsg l).Perm l := List.mergeSort_perm l _
theorem sortMsg_sorted (l : List Msg) : (sortMsg l).Pairwise leMsg := by
  have h := List.pairwise_mergeSort (le := fun x y : Msg => !ltMsg y x) (fun a b c h1 h2 => by
    have := leMsg_trans (a := a) (b := b) (c := c) (by simpa [leMsg] using h1) (by simpa [leMsg] using h2)
    simpa [leMsg] using this) (fun a b => by
    rcases leMsg_total a b with h | h <;> (unfold leMsg at h; simp [h])) l
  exact h.imp (fun h => by simpa [leMsg] using h)
theorem insMsg_perm (x : Msg) (o : List Msg) : (insMsg x o).Perm (x :: o) := by
  unfold insMsg
  have h := List.perm_middle (a := x) (l₁ := o.take (posMsg x o)) (l₂ := o.drop (posMsg x o))
  rw [List.take_append_drop] at h
  simpa using h
theorem pos_before (x : Msg) : ∀ (o : List Msg), ∀ y ∈ o.take (posMsg x o), leMsg y x
  | [], y, h => by simp at h
  | z :: o, y, h => by
    unfold posMsg at h
    by_cases hz : ltMsg x z = true
    · rw [if_pos hz] at h; simp at h
    · rw [if_neg hz, List.take_succ_cons] at h
      rcases List.mem_cons.1 h with e | h
      · rw [e]; unfold leMsg; simpa using hz
      · exact pos_before x o y h
theorem pos_after (x : Msg) : ∀ (o : List Msg), o.Pairwise leMsg → ∀ y ∈ o.drop (posMsg x o), leMsg x y
  | [], _, y, h => by simp at h
  | z :: o, hs, y, h => by
    unfold posMsg at h
    by_cases hz : ltMsg x z = true
    · rw [if_pos hz, List.drop_zero] at h
      have hxz : leMsg x z := by unfold leMsg; rw [ltMsg_not]; rw [ltMsg_iff] at hz; omega
      rcases List.mem_cons.1 h with e | h
      · rw [e]; exact hxz
      · exact leMsg_trans hxz ((List.pairwise_cons.1 hs).1 y h)
    · rw [if_neg hz, List.drop_succ_cons] at h
      exact pos_after x o (List.pairwise_cons.1 hs).2 y h
theorem insMsg_sorted (x : Msg) (o : List Msg) (h : o.Pairwise leMsg) : (insMsg x o).Pairwise leMsg := by
  unfold insMsg
  rw [List.append_assoc, List.singleton_append, List.pairwise_append]
  refine ⟨h.sublist (List.take_sublist _ _), List.pairwise_cons.2 ⟨pos_after x o h, h.sublist (List.drop_sublist _ _)⟩, fun a ha b hb => ?_⟩
  rcases List.mem_cons.1 hb with e | hb
  · rw [e]; exact pos_before x o a ha
  · exact leMsg_trans (pos_before x o a ha) (pos_after x o h b hb)
theorem insAll_perm : ∀ (l o : List Msg), (insAll o l).Perm (o ++ l)
  | [], o => by simp [insAll]
  | x :: l, o => by
    simp only [insAll]
    refine (insAll_perm l _).trans ?_
    have h := (insMsg_perm x o).append_right l
    refine h.trans ?_
    simpa using (List.perm_middle (a := x) (l₁ := o) (l₂ := l)).symm
theorem insAll_sorted : ∀ (l o : List Msg), o.Pairwise leMsg → (insAll o l).Pairwise leMsg
  | [], o, h => by simpa [insAll] using h
  | x :: l, o, h => by simp only [insAll]; exact insAll_sorted l _ (insMsg_sorted x o h)
theorem insAll_sort (l : List Msg) : insAll [] l = sortMsg l :=
  perm_unique ((by simpa using insAll_perm l [] : (insAll [] l).Perm l).trans (sortMsg_perm l).symm) (insAll_sorted l [] List.Pairwise.nil) (sortMsg_sorted l)
theorem sortMsg_len (l : List Msg) : (sortMsg l).length = l.length := (sortMsg_perm l).length_eq
theorem refsort_f (l : List Msg) (h : l.length < 5864062014805) : modillionref08_Sort.f l = some (sortMsg l) := by
  unfold modillionref08_Sort.f
  rw [if_pos h, insAll_sort]
theorem filter_drop {p : Msg → Bool} (l : List Msg) (i : Nat) (h : i < l.length) : (l.drop i).filter p = (if p l[i] = true then [l[i]] else []) ++ (l.drop (i + 1)).filter p := by
  rw [List.drop_eq_getElem_cons h, List.filter_cons]
  split <;> rfl
end Go.Proofs.YtpndhkeoljoapaaGreat.Pure
