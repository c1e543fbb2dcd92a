/- The pure statement of the law GraphChecks. By a program of this session (wip/tools/myrow.py). -/
import Derived.Test.YtbpolpagcaacoaaP22
import Derived.Test.YtbpolpagcaacoaaRow
namespace Go.Proofs.Ytbpolpagcaacoaa.P
open Go.RowKit Go.Proofs.YtbpolpagcaacoaaW.PrintWords
def selfstablaw01_GraphChecks.Pure : Prop := ∀ (x0 : S25) (x1 : Int) (x2 : Int) (x3 : Int), Good25 x0 → (Lit.int .i64 x1).wf = true → (Lit.int .i64 x2).wf = true → (Lit.int .u32 x3).wf = true → ∃ k, selfstablaw01_GraphChecks.f k x0.f0 x0.f1 x1 x2 x3 = some true
end Go.Proofs.Ytbpolpagcaacoaa.P
