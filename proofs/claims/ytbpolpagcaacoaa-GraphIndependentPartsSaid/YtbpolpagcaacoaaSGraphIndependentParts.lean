/- The pure statement of the law GraphIndependentParts. By a program of this session (wip/tools/myrow.py). -/
import Derived.Test.YtbpolpagcaacoaaP16
import Derived.Test.YtbpolpagcaacoaaRow
namespace Go.Proofs.Ytbpolpagcaacoaa.P
open Go.RowKit Go.Proofs.YtbpolpagcaacoaaW.PrintWords
def selfstablaw01_GraphIndependentParts.Pure : Prop := ∀ (x0 : S25) (x1 : Int) (x2 : Int), Good25 x0 → (Lit.int .u32 x1).wf = true → (Lit.int .u32 x2).wf = true → ∃ k, selfstablaw01_GraphIndependentParts.f k x0.f0 x0.f1 x1 x2 = some true
end Go.Proofs.Ytbpolpagcaacoaa.P
