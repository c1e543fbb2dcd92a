/- The pure statement of the law DaemonListsWhatItPermits. By a program of this session (wip/tools/myrow.py). -/
import Derived.Test.YtmkpddhnnejfhaaP10
import Derived.Test.YtmkpddhnnejfhaaRow
namespace Go.Proofs.Ytmkpddhnnejfhaa.P
open Go.RowKit Go.Proofs.YtmkpddhnnejfhaaW.PrintWords
def selfstablaw15_DaemonListsWhatItPermits.Pure : Prop := ∀ (x0 : S25) (x1 : Int) (x2 : Int) (x3 : Int), Good25 x0 → (Lit.int .i64 x1).wf = true → (Lit.int .u32 x2).wf = true → (Lit.int .u32 x3).wf = true → ∃ k, selfstablaw15_DaemonListsWhatItPermits.f k x0.f0 x0.f1 x1 x2 x3 = some true
end Go.Proofs.Ytmkpddhnnejfhaa.P
