/- Plain lemmas about messages: what the reference's check of messages comes to. -/
import Derived.Test.YtgdkemgilmfkfaaPx
import Derived.Test.YtgdkemgilmfkfaaGraphRef
import Derived.Test.YtgdkemgilmfkfaaFold
namespace Go.Proofs.Ytgdkemgilmfkfaa.Pure
open Go.RowKit Go.Proofs.Ytgdkemgilmfkfaa.P Go.Proofs.YtgdkemgilmfkfaaW.PrintWords
def greatB (v : Int) : Bool := decide (v > 1125899906842624) || decide (v < -1125899906842624)
theorem refgreat_f (v : Int) : modillionref07_Great.f v = some (greatB v) := by
  unfold modillionref07_Great.f greatB
  by_cases h : v > 1125899906842624
  · rw [if_pos h, decide_eq_true h]
    rfl
  · rw [if_neg h, decide_eq_false h]
    rfl
theorem ref08_l2 (n : Int) (E : List Edge) (l : List Msg) (hl : l.length ≤ 1000000) (i : Nat) (hi : i < l.length) (r : Bool) : ∀ (d j : Nat) (al : Bool), i - j = d → j ≤ i → Ev (fun k => if (al && !((l.take i).drop j).any (twiceB l[i])) = true then (if greatB l[i].f2 = true then some false else modillionref08_Check.l0 k l ((i + 1 : Nat) : Int) n E) else some false) r → Ev (fun k => modillionref08_Check.l2 k l (i : Int) al (j : Int) n E) r
  | 0, j, al, hd, hj, h => by
    obtain rfl : j = i := by omega
    rw [any_drop_self, Bool.not_false, Bool.and_true] at h
    cases al with
    | false =>
      refine Ev.step (fun k => ?_) h
      rw [modillionref08_Check.l2, if_neg (by omega), if_neg (by decide)]
      rfl
    | true =>
      refine Ev.step (fun k => ?_) h
      rw [modillionref08_Check.l2, if_neg (by omega), if_pos rfl, if_pos (by omega), if_pos (by omega), rd_msg l j hi, refgreat_f, Option.bind_some, wrapg (by omega) (by omega)]
      rfl
  | d + 1, j, al, hd, hj, h => by
    rw [any_drop_take _ l i j (by omega) (by omega)] at h
    cases al with
    | false =>
      refine Ev.step (fun k => ?_) (ref08_l2 n E l hl i hi r d (j + 1) false (by omega) (by omega) (by simpa using h))
      rw [modillionref08_Check.l2, if_pos (by omega), if_neg (by decide), wrapg (by omega) (by omega)]
      rfl
    | true =>
      refine Ev.step (fun k => ?_) (ref08_l2 n E l hl i hi r d (j + 1) (!twiceB l[i] l[j]) (by omega) (by omega) (by simpa using h))
      rw [modillionref08_Check.l2, if_pos (by omega), if_pos rfl, if_pos (by omega), if_pos (by omega), if_pos (by omega), if_pos (by omega), wrapg (by omega) (by omega), rd_msg l i hi, rd_msg l j (by omega)]
      unfold twiceB
      by_cases hx : l[j].f0 = l[i].f0
      · rw [if_pos hx, hx]
        simp [bne]
      · rw [if_neg hx, beq_eq_false_iff_ne.mpr hx]
        rfl
theorem ref08_l1 (n : Int) (E : List Edge) (hE : E.length ≤ 1000000) (l : List Msg) (i : Nat) (hi : i < l.length) (r : Bool) : ∀ (d j : Nat) (al : Bool), E.length - j = d → j ≤ E.length → Ev (fun k => modillionref08_Check.l2 k l (i : Int) (al || (E.drop j).any (alongB l[i])) 0 n E) r → Ev (fun k => modillionref08_Check.l1 k l (i : Int) al (j : Int) n E) r
  | 0, j, al, hd, hj, h => by
    rw [List.drop_of_length_le (by omega), List.any_nil, Bool.or_false] at h
    refine Ev.step (fun k => ?_) h
    rw [modillionref08_Check.l1, if_neg (by omega)]
  | d + 1, j, al, hd, hj, h => by
    have hlt : j < E.length := by omega
    rw [List.drop_eq_getElem_cons hlt, List.any_cons] at h
    cases al with
    | true =>
      refine Ev.step (fun k => ?_) (ref08_l1 n E hE l i hi r d (j + 1) true (by omega) (by omega) (by simpa using h))
      rw [modillionref08_Check.l1, if_pos (by omega), if_pos rfl, wrapg (by omega) (by omega)]
      rfl
    | false =>
      refine Ev.step (fun k => ?_) (ref08_l1 n E hE l i hi r d (j + 1) (alongB l[i] E[j]) (by omega) (by omega) (by simpa using h))
      rw [modillionref08_Check.l1, if_pos (by omega), if_neg (by decide), if_pos (by omega), if_pos (by omega), if_pos (by omega), wrapg (by omega) (by omega), rd_msg l i hi, rdE E j hlt]
      unfold alongB
      by_cases hx : E[j].f0 = l[i].f0
      · rw [if_pos hx, hx]
        simp
      · rw [if_neg hx, beq_eq_false_iff_ne.mpr hx]
        rfl
theorem badMsg_eq (E : List Edge) (pre : List Msg) (m : Msg) : badMsg E pre m = !((E.any (alongB m) && !pre.any (twiceB m)) && !greatB m.f2) := by
  unfold badMsg greatB
  cases E.any (alongB m) <;> cases pre.any (twiceB m) <;> simp
theorem ref08_l0 (n : Int) (E : List Edge) (hE : E.length ≤ 1000000) (l : List Msg) (hl : l.length ≤ 1000000) : ∀ (d i : Nat), l.length - i = d → i ≤ l.length → Ev (fun k => modillionref08_Check.l0 k l (i : Int) n E) (!badMsgs E (l.take i) (l.drop i))
  | 0, i, hd, hi => by
    rw [List.drop_of_length_le (by omega)]
    refine Ev.step (f := fun _ => some true) (fun k => ?_) (Ev.now _)
    rw [modillionref08_Check.l0, if_neg (by omega)]
  | d + 1, i, hd, hi => by
    have hlt : i < l.length := by omega
    have ih := ref08_l0 n E hE l hl d (i + 1) (by omega) (by omega)
    have h1 := fun r => ref08_l1 n E hE l i hlt r E.length 0 false (by omega) (by omega)
    have h2 := fun r al => ref08_l2 n E l hl i hlt r i 0 al (by omega) (by omega)
    rw [List.drop_zero, Bool.false_or] at h1
    simp only [List.drop_zero] at h2
    rw [List.drop_eq_getElem_cons hlt, badMsgs, ← List.take_succ_eq_append_getElem hlt, badMsg_eq]
    refine Ev.step (fun k => ?_) (h1 _ (h2 _ _ ?_))
    · rw [modillionref08_Check.l0, if_pos (by omega)]
      rfl
    · cases E.any (alongB l[i]) && !(l.take i).any (twiceB l[i]) with
      | false => simpa using Ev.now false
      | true =>
        cases greatB l[i].f2 with
        | true => simpa using Ev.now false
        | false => simpa using ih
theorem ref08_check (n : Int) (E : List Edge) (hE : E.length ≤ 1000000) (l : List Msg) (hl : l.length ≤ 1000000) : Ev (fun k => modillionref08_Check.f k n E l) (!(badG n E || (dupE E || badMsgs E [] l))) := by
  have h0 := ref08_l0 n E hE l hl l.length 0 (by omega) (by omega)
  rw [List.drop_zero, List.take_zero] at h0
  refine Ev.congr (fun k => by rw [modillionref08_Check.f]) (Ev.bind (ref05_check n E hE) ?_)
  cases badG n E with
  | true => simpa using Ev.now false
  | false =>
    cases dupE E with
    | true => simpa using Ev.now false
    | false => simpa using h0
end Go.Proofs.Ytgdkemgilmfkfaa.Pure
