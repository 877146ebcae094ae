/- Drop's printed function, over rows of pairs. -/
import Derived.Test.YtggkealdbebbkaaA
import Derived.Test.YtggkealdbebbkaaP7
namespace Go.Proofs.Ytggkealdbebbkaa.P
open Go.RowKit Go.Proofs.YtggkealdbebbkaaW.PrintWords Go.Proofs.YtggkealdbebbkaaW.PrintLast Go.Proofs.YtggkealdbebbkaaW.PrintMore
open Go.Proofs.Ytggkealdbebbkaa
namespace Dev
theorem Drop_f {n : Nat} {now id : Int} {xs : List W10.T} (h : Fine n xs) (hn : n < 1000) : wheel_Drop.f now (ofT xs) id = some (now, ofT (W10.dropR now xs id).1, (W10.dropR now xs id).2) := by
  rw [wheel_Drop.f_eq, if_pos (h.ok hn), toT_ofT]
end Dev
end Go.Proofs.Ytggkealdbebbkaa.P
