/- The pure statement of the law GraphTreesHaveLeaves. By a program of this session (wip/tools/myrow.py). -/
import Derived.Test.YtbpolpagcaacoaaP15
import Derived.Test.YtbpolpagcaacoaaRow
namespace Go.Proofs.Ytbpolpagcaacoaa.P
open Go.RowKit Go.Proofs.YtbpolpagcaacoaaW.PrintWords
def selfstablaw01_GraphTreesHaveLeaves.Pure : Prop := ∀ (x0 : S25), Good25 x0 → ∃ k, selfstablaw01_GraphTreesHaveLeaves.f k x0.f0 x0.f1 = some true
end Go.Proofs.Ytbpolpagcaacoaa.P
