/- GraphChecks, the plain law. -/
import Derived.Test.YtbpolpagcaacoaaSGraphChecks
import Derived.Test.YtbpolpagcaacoaaMRefSets
import Derived.Test.YtbpolpagcaacoaaMSize
namespace Go.Proofs.Ytbpolpagcaacoaa.P
open Go.RowKit Go.Proofs.YtbpolpagcaacoaaW.PrintWords Go.Proofs.YtbpolpagcaacoaaW.PrintMore
set_option linter.unusedVariables false
theorem Pure_GraphChecks : selfstablaw01_GraphChecks.Pure := by
  intro x v i m _ _ _ hm'
  have hm := M32_of hm'
  refine Ev.rounds ?_
  unfold selfstablaw01_GraphChecks.f
  obtain ⟨t, hb, hiff⟩ := light_ev x.f0 x.f1
  refine Ev.bind hb ?_
  cases t with
  | false =>
    simp only [Bool.false_eq_true, if_false]
    refine Ev.bind awake_ev ?_
    exact Ev.now _
  | true =>
    have hL := hiff.1 rfl
    simp only [if_true]
    refine Ev.bind size_ev ?_
    refine Ev.bind (refSize_ev hL.big) ?_
    refine Ev.bind awake_ev ?_
    simp only [if_true, graph_Valid.f, Option.bind_some]
    refine Ev.bind (refValid_ev x.f0 x.f1 hL.big) ?_
    simp only [beq_self_eq_true, if_true, deg_all, Option.bind_some]
    refine Ev.bind (refDeg_ev hL.big v) ?_
    simp only [if_true]
    obtain ⟨r, h1, h2⟩ := refBack_ev (ids := x.f0) hL.big v i
    refine Ev.bind h1 ?_
    refine Ev.bind h2 ?_
    simp only [if_true]
    obtain ⟨s, h3, h4, _, _⟩ := refNe_ev (ids := x.f0) hL.big hm
    refine Ev.bind h3 ?_
    refine Ev.bind h4 ?_
    simp only [if_true]
    obtain ⟨b, h5, h6⟩ := refIndep_ev (ids := x.f0) hL.big hm
    refine Ev.bind h5 ?_
    refine Ev.bind h6 ?_
    simp only [beq_self_eq_true]
    exact Ev.now _
end Go.Proofs.Ytbpolpagcaacoaa.P
