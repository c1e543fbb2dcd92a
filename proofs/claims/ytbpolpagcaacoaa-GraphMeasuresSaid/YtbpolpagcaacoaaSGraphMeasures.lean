/- The pure statement of the law GraphMeasures. By a program of this session (wip/tools/myrow.py). -/
import Derived.Test.YtbpolpagcaacoaaP14
import Derived.Test.YtbpolpagcaacoaaRow
namespace Go.Proofs.Ytbpolpagcaacoaa.P
open Go.RowKit Go.Proofs.YtbpolpagcaacoaaW.PrintWords
def selfstablaw01_GraphMeasures.Pure : Prop := ∀ (x0 : S25) (x1 : Int), Good25 x0 → (Lit.int .i64 x1).wf = true → ∃ k, selfstablaw01_GraphMeasures.f k x0.f0 x0.f1 x1 = some true
end Go.Proofs.Ytbpolpagcaacoaa.P
