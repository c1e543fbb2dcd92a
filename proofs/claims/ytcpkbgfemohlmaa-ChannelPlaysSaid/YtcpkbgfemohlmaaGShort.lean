/- Short names for the words that a long printed text says often. -/
import Derived.Test.YtcpkbgfemohlmaaP0
namespace Go.Proofs.Ytcpkbgfemohlmaa.P
open Go.RowKit Go.Proofs.YtcpkbgfemohlmaaW.PrintWords Go.Proofs.YtcpkbgfemohlmaaW.PrintLast Go.Proofs.YtcpkbgfemohlmaaW.PrintMore
abbrev qa_ := @blk_drewN
abbrev qb_ := @blk_alloc
abbrev qc_ := @below_set
abbrev qd_ := @blk_drew
abbrev qe_ := @Kd.V_alloc
abbrev qf_ := @Kd.V_drewN
abbrev qg_ := @pw_below_drewN
abbrev qh_ := @Kd.V_drew
abbrev qi_ := @below_drew1
abbrev qj_ := @below_alloc
abbrev qk_ := @Kd.V_mono
abbrev ql_ := @Kd.V_below
abbrev qm_ := @blk_cell
end Go.Proofs.Ytcpkbgfemohlmaa.P
