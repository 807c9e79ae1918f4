/- Plain lemmas about messages: a copy. -/
import Derived.Test.YtgdkemgilmfkfaaPx
import Derived.Test.YtgdkemgilmfkfaaFold
namespace Go.Proofs.Ytgdkemgilmfkfaa.Pure
open Go.RowKit Go.Proofs.Ytgdkemgilmfkfaa.P
theorem own_f (l : List Msg) (h : l.length < 5864062014805) : modillionlaw08_own.f l = some l := by
  unfold modillionlaw08_own.f
  simp [h]
end Go.Proofs.Ytgdkemgilmfkfaa.Pure
