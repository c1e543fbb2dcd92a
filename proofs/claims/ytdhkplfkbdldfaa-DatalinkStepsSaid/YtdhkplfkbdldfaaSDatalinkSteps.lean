/- The pure statement of the law DatalinkSteps. By a program of this session (wip/tools/myrow.py). -/
import Derived.Test.YtdhkplfkbdldfaaP12
import Derived.Test.YtdhkplfkbdldfaaRow
namespace Go.Proofs.Ytdhkplfkbdldfaa.P
open Go.RowKit Go.Proofs.YtdhkplfkbdldfaaW.PrintWords
def selfstablaw42_DatalinkSteps.Pure : Prop := ∀ (x0 : S29) (x1 : S40), Good29 x0 → Good40 x1 → ∃ k, selfstablaw42_DatalinkSteps.f k x0.f0 x0.f1 x0.f2 x0.f3 x0.f4 x0.f5 x0.f6 x1.f0 x1.f1 = some true
end Go.Proofs.Ytdhkplfkbdldfaa.P
