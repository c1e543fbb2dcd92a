/- The pure statement of the law DaemonGreedyIsMaximal. By a program of this session (wip/tools/myrow.py). -/
import Derived.Test.YtmkpddhnnejfhaaP9
import Derived.Test.YtmkpddhnnejfhaaRow
namespace Go.Proofs.Ytmkpddhnnejfhaa.P
open Go.RowKit Go.Proofs.YtmkpddhnnejfhaaW.PrintWords
def selfstablaw15_DaemonGreedyIsMaximal.Pure : Prop := ∀ (x0 : S25) (x1 : Int) (x2 : Int), Good25 x0 → (Lit.int .u32 x1).wf = true → (Lit.int .u32 x2).wf = true → ∃ k, selfstablaw15_DaemonGreedyIsMaximal.f k x0.f0 x0.f1 x1 x2 = some true
end Go.Proofs.Ytmkpddhnnejfhaa.P
