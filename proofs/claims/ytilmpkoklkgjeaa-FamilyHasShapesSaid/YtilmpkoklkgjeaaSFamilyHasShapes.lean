/- The pure statement of the law FamilyHasShapes. By a program of this session (wip/tools/myrow.py). -/
import Derived.Test.YtilmpkoklkgjeaaP15
import Derived.Test.YtilmpkoklkgjeaaRow
namespace Go.Proofs.Ytilmpkoklkgjeaa.P
open Go.RowKit Go.Proofs.YtilmpkoklkgjeaaW.PrintWords
def selfstablaw03_FamilyHasShapes.Pure : Prop := ∀ (x0 : Int) (x1 : Int) (x2 : Int), (Lit.int .i64 x0).wf = true → (Lit.int .i64 x1).wf = true → (Lit.int .i64 x2).wf = true → ∃ k, selfstablaw03_FamilyHasShapes.f k x0 x1 x2 = some true
end Go.Proofs.Ytilmpkoklkgjeaa.P
