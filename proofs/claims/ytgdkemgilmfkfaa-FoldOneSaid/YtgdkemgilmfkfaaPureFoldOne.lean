/- The plain law: one message comes to its value, two to what is folded of both. -/
import Derived.Test.YtgdkemgilmfkfaaPx
import Derived.Test.YtgdkemgilmfkfaaFoldAwakeOne
namespace Go.Proofs.Ytgdkemgilmfkfaa.Pure
open Go.RowKit Go.Proofs.Ytgdkemgilmfkfaa Go.Proofs.Ytgdkemgilmfkfaa.P Go.Proofs.YtgdkemgilmfkfaaW.PrintWords
theorem one_f (tag : ByteArray) (hk : knownO tag.toList = true) (x : Msg) (v : Int) (hv : x.f1 = v) : fold_Came.f tag [x] v = some (if bigO x.f2 = true then (0, false, 71) else (x.f2, true, 0)) := by
  unfold fold_Came.f
  rw [show (20 : Nat) = 12 + 8 from rfl, knownO_f, Option.bind_some, hk, if_pos rfl, if_pos (by simp), show ([x].filter fun y => y.f1 == v) = [x] by simp [hv], sortO_one, cameO_one]
theorem two_f (tag : ByteArray) (hk : knownO tag.toList = true) (x y : Msg) (v : Int) (hx : x.f1 = v) (hy : y.f1 = v) : fold_Came.f tag [x, y] v = some (if (foldPO tag.toList y.f2 x.f2).2 = 0 then ((foldPO tag.toList y.f2 x.f2).1, true, 0) else (0, false, 71)) := by
  unfold fold_Came.f
  rw [show (20 : Nat) = 12 + 8 from rfl, knownO_f, Option.bind_some, hk, if_pos rfl, if_pos (by simp), show ([x, y].filter fun y => y.f1 == v) = [x, y] by simp [hx, hy]]
  rcases sortO_two x y with e | e
  · rw [e, cameO_two tag hk, foldPO_comm]
  · rw [e, cameO_two tag hk]
theorem FoldOne : ∀ (a0 : ByteArray) (a1_0 : Int) (a1_1 a1_2 : Int) (a2_0 : Int) (a2_1 a2_2 : Int), (Lit.int .i64 a1_0).wf = true → (Lit.int .i64 a1_1).wf = true → (Lit.int .i64 a1_2).wf = true → (Lit.int .i64 a2_0).wf = true → (Lit.int .i64 a2_1).wf = true → (Lit.int .i64 a2_2).wf = true → ∃ k, P.modillionlaw08_FoldOne.f k a0 a1_0 a1_1 a1_2 a2_0 a2_1 a2_2 = some true := by
  intro tag x0 v x2 y0 y1 y2 _ _ _ _ _ _
  refine ⟨20, ?_⟩
  unfold modillionlaw08_FoldOne.f
  rw [awake_f, Option.bind_some, if_pos rfl, show (20 : Nat) = 12 + 8 from rfl, knownO_f, Option.bind_some]
  cases hk : knownO tag.toList with
  | false =>
    rw [show (12 + 8 : Nat) = 19 + 1 from rfl, modillionlaw08_FoldOne.j0, Bool.not_false, if_pos rfl, awake_f]
    rfl
  | true =>
    rw [show (12 + 8 : Nat) = (11 + 8) + 1 from rfl, modillionlaw08_FoldOne.j0, Bool.not_true, if_neg (by decide), one_f tag hk _ v rfl, Option.bind_some, two_f tag hk _ _ v rfl rfl, Option.bind_some, foldO_f tag hk, Option.bind_some]
    show (if x2 > 1125899906842624 then _ else _) = some true
    have hb : bigO x2 = (decide (x2 > 1125899906842624) || decide (x2 < -1125899906842624)) := rfl
    by_cases c1 : x2 > 1125899906842624
    · have hbig : bigO x2 = true := by rw [hb, decide_eq_true c1]; rfl
      rw [if_pos c1, foldPO_big _ _ _ hbig, hbig]
      rfl
    · rw [if_neg c1]
      by_cases c2 : x2 < -1125899906842624
      · have hbig : bigO x2 = true := by rw [hb, decide_eq_true c2]; simp
        rw [foldPO_big _ _ _ hbig, hbig, if_pos c2, decide_eq_true c2]
        rfl
      · have hbig : bigO x2 = false := by rw [hb, decide_eq_false c1, decide_eq_false c2]; rfl
        rw [hbig, if_neg c2, decide_eq_false c2]
        rcases foldPO_cases tag.toList x2 y2 with e | ⟨u, e⟩
        · simp [e]
        · simp [e]
end Go.Proofs.Ytgdkemgilmfkfaa.Pure
