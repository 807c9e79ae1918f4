/- The plain law: whether messages may be sent is as the reference says. -/
import Derived.Test.YtgdkemgilmfkfaaPx
import Derived.Test.YtgdkemgilmfkfaaFoldAwake
import Derived.Test.YtgdkemgilmfkfaaFoldOwn
import Derived.Test.YtgdkemgilmfkfaaFoldCheckRef
import Derived.Test.YtgdkemgilmfkfaaOpEdge
namespace Go.Proofs.Ytgdkemgilmfkfaa.Pure
open Go.RowKit Go.Proofs.Ytgdkemgilmfkfaa Go.Proofs.Ytgdkemgilmfkfaa.P Go.Proofs.YtgdkemgilmfkfaaW.PrintWords
theorem foldcheck_f (n : Int) (E : List Edge) (hE : E.length ≤ 1000000) (l : List Msg) (hl : l.length ≤ 1000000) : fold_Check.f n E l = some (if (badG n E || (dupE E || badMsgs E [] l)) = true then 80 else 0) := by
  unfold fold_Check.f graph_Check.f
  rw [if_pos (by omega), if_pos (by omega)]
  cases badG n E with
  | true => rfl
  | false =>
    cases dupE E with
    | true => rfl
    | false =>
      cases badMsgs E [] l <;> rfl
theorem checks_j0 (n : Int) (E : List Edge) (l : List Msg) (hE : E.length ≤ 100) (hl : l.length ≤ 40) : Ev (fun k => modillionlaw08_FoldChecks.j0 k l false n E) true := by
  refine Ev.step (fun k => by rw [modillionlaw08_FoldChecks.j0, if_neg (by decide)]) (Ev.bind (ref08_check n E (by omega) l (by omega)) ?_)
  have ho := own_f l (by omega)
  have hf := foldcheck_f n E (by omega) l (by omega)
  cases hb : (badG n E || (dupE E || badMsgs E [] l)) with
  | true =>
    rw [hb, if_pos rfl] at hf
    refine Ev.congr (f := fun _ => some true) (fun k => ?_) (Ev.now _)
    rw [Bool.not_true, if_neg (by decide), Option.bind_some, if_pos (by simp; omega), ho, Option.bind_some, List.nil_append, hf]
    rfl
  | false =>
    rw [hb, if_neg (by decide)] at hf
    refine Ev.congr (f := fun _ => some true) (fun k => ?_) (Ev.now _)
    rw [Bool.not_false, if_pos rfl, Option.bind_some, if_pos (by simp; omega), ho, Option.bind_some, List.nil_append, hf]
    rfl
theorem checks_awake (n : Int) (E : List Edge) (l : List Msg) : Ev (fun k => modillionlaw08_FoldChecks.j0 k l true n E) true :=
  Ev.step (f := fun _ => some true) (fun k => by rw [modillionlaw08_FoldChecks.j0, if_pos rfl, awakes_f]; rfl) (Ev.now _)
theorem FoldChecks : ∀ (a0_0 : Int) (l0_1 : List P.S56) (l1 : List P.S41), (Lit.int .i64 a0_0).wf = true → (∀ x ∈ l0_1, Open.wfE x) → (∀ x ∈ l1, Open.wfM x) → ∃ k, P.modillionlaw08_FoldChecks.f k a0_0 l0_1 l1 = some true := by
  intro n E l _ _ _
  apply Ev.rounds
  by_cases h1 : (l.length : Int) > 40
  · exact Ev.congr (fun k => by rw [modillionlaw08_FoldChecks.f, awakes_f, Option.bind_some, if_pos rfl, if_pos h1]) (checks_awake n E l)
  · by_cases h2 : (E.length : Int) > 100
    · exact Ev.congr (fun k => by rw [modillionlaw08_FoldChecks.f, awakes_f, Option.bind_some, if_pos rfl, if_neg h1, decide_eq_true h2]) (checks_awake n E l)
    · exact Ev.congr (fun k => by rw [modillionlaw08_FoldChecks.f, awakes_f, Option.bind_some, if_pos rfl, if_neg h1, decide_eq_false h2]) (checks_j0 n E l (by omega) (by omega))
end Go.Proofs.Ytgdkemgilmfkfaa.Pure
