/- The pure statement of the law DaemonPermitsParts. By a program of this session (wip/tools/myrow.py). -/
import Derived.Test.YtmkpddhnnejfhaaP12
import Derived.Test.YtmkpddhnnejfhaaRow
namespace Go.Proofs.Ytmkpddhnnejfhaa.P
open Go.RowKit Go.Proofs.YtmkpddhnnejfhaaW.PrintWords
def selfstablaw15_DaemonPermitsParts.Pure : Prop := ∀ (x0 : S25) (x1 : Bool) (x2 : Int) (x3 : Int) (x4 : Int), Good25 x0 → True → (Lit.int .u32 x2).wf = true → (Lit.int .u32 x3).wf = true → (Lit.int .u32 x4).wf = true → ∃ k, selfstablaw15_DaemonPermitsParts.f k x0.f0 x0.f1 x1 x2 x3 x4 = some true
end Go.Proofs.Ytmkpddhnnejfhaa.P
