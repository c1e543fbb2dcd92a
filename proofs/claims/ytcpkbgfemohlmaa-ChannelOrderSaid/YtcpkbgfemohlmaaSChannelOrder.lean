/- The pure statement of the law ChannelOrder. By a program of this session (wip/tools/myrow.py). -/
import Derived.Test.YtcpkbgfemohlmaaP9
import Derived.Test.YtcpkbgfemohlmaaRow
namespace Go.Proofs.Ytcpkbgfemohlmaa.P
open Go.RowKit Go.Proofs.YtcpkbgfemohlmaaW.PrintWords
def selfstablaw41_ChannelOrder.Pure : Prop := ∀ (x0 : Int) (x1 : List S45), (Lit.int .i64 x0).wf = true → (x1.length ≤ maxLen ∧ ∀ y0 ∈ x1, Good45 y0) → ∃ k, selfstablaw41_ChannelOrder.f k x0 x1 = some true
end Go.Proofs.Ytcpkbgfemohlmaa.P
