-- PRINTED BY print.sh 35421559b90ae4d0a3588c463048766b98c2df88dd9212a6774a882060cdf62d: not written by this session
import Derived.Test.YtmkpddhnnejfhaaWInv
import Derived.Test.YtmkpddhnnejfhaaWFootNe
namespace Go.Proofs.YtmkpddhnnejfhaaW.PrintWords
open Go.RowKit
end Go.Proofs.YtmkpddhnnejfhaaW.PrintWords
namespace Go.Proofs.YtmkpddhnnejfhaaW.PrintLast
section
variable {ops : Array Oper} {a : Act} {o og : Oper} {g : Nat} {t : Tmp} {u : Bool}
end
end Go.Proofs.YtmkpddhnnejfhaaW.PrintLast
