/- The pure statement of the law ChannelPlays. By a program of this session (wip/tools/myrow.py). -/
import Derived.Test.YtcpkbgfemohlmaaP10
import Derived.Test.YtcpkbgfemohlmaaRow
namespace Go.Proofs.Ytcpkbgfemohlmaa.P
open Go.RowKit Go.Proofs.YtcpkbgfemohlmaaW.PrintWords
def selfstablaw41_ChannelPlays.Pure : Prop := ∀ (x0 : S24) (x1 : List S38), Good24 x0 → (x1.length ≤ maxLen ∧ ∀ y0 ∈ x1, Good38 y0) → ∃ k, selfstablaw41_ChannelPlays.f k x0.f0 x0.f1 x1 = some true
end Go.Proofs.Ytcpkbgfemohlmaa.P
