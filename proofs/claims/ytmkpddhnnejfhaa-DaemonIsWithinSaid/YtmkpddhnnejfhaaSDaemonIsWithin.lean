/- The pure statement of the law DaemonIsWithin. By a program of this session (wip/tools/myrow.py). -/
import Derived.Test.YtmkpddhnnejfhaaP14
import Derived.Test.YtmkpddhnnejfhaaRow
namespace Go.Proofs.Ytmkpddhnnejfhaa.P
open Go.RowKit Go.Proofs.YtmkpddhnnejfhaaW.PrintWords
def selfstablaw15_DaemonIsWithin.Pure : Prop := ∀ (x0 : S25) (x1 : Int) (x2 : Int) (x3 : Int) (x4 : Int) (x5 : Int), Good25 x0 → (Lit.int .i64 x1).wf = true → (Lit.int .i64 x2).wf = true → (Lit.int .i64 x3).wf = true → (Lit.int .u32 x4).wf = true → (Lit.int .u32 x5).wf = true → ∃ k, selfstablaw15_DaemonIsWithin.f k x0.f0 x0.f1 x1 x2 x3 x4 x5 = some true
end Go.Proofs.Ytmkpddhnnejfhaa.P
