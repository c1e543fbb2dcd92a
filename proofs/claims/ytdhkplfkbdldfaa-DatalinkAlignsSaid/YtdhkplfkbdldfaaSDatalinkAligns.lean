/- The pure statement of the law DatalinkAligns. By a program of this session (wip/tools/myrow.py). -/
import Derived.Test.YtdhkplfkbdldfaaP14
import Derived.Test.YtdhkplfkbdldfaaRow
namespace Go.Proofs.Ytdhkplfkbdldfaa.P
open Go.RowKit Go.Proofs.YtdhkplfkbdldfaaW.PrintWords
def selfstablaw42_DatalinkAligns.Pure : Prop := ∀ (x0 : S24) (x1 : List S40), Good24 x0 → (x1.length ≤ maxLen ∧ ∀ y0 ∈ x1, Good40 y0) → ∃ k, selfstablaw42_DatalinkAligns.f k x0.f0 x0.f1 x0.f2 x0.f3 x0.f4 x0.f5 x0.f6 x0.f7 x1 = some true
end Go.Proofs.Ytdhkplfkbdldfaa.P
