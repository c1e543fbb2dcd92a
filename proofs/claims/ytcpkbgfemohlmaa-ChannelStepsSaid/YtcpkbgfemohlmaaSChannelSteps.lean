/- The pure statement of the law ChannelSteps. By a program of this session (wip/tools/myrow.py). -/
import Derived.Test.YtcpkbgfemohlmaaP8
import Derived.Test.YtcpkbgfemohlmaaRow
namespace Go.Proofs.Ytcpkbgfemohlmaa.P
open Go.RowKit Go.Proofs.YtcpkbgfemohlmaaW.PrintWords
def selfstablaw41_ChannelSteps.Pure : Prop := ∀ (x0 : S24) (x1 : List Int) (x2 : Int), Good24 x0 → (x1.length ≤ maxLen ∧ ∀ y0 ∈ x1, (Lit.int .i64 y0).wf = true) → (Lit.int .i64 x2).wf = true → ∃ k, selfstablaw41_ChannelSteps.f k x0.f0 x0.f1 x1 x2 = some true
end Go.Proofs.Ytcpkbgfemohlmaa.P
