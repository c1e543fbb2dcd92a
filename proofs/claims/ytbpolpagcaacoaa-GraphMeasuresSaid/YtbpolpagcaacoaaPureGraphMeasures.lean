/- GraphMeasures, the plain law. -/
import Derived.Test.YtbpolpagcaacoaaSGraphMeasures
import Derived.Test.YtbpolpagcaacoaaMRef
namespace Go.Proofs.Ytbpolpagcaacoaa.P
open Go.RowKit Go.Proofs.YtbpolpagcaacoaaW.PrintWords Go.Proofs.YtbpolpagcaacoaaW.PrintMore
set_option linter.unusedVariables false
theorem Pure_GraphMeasures : selfstablaw01_GraphMeasures.Pure := by
  intro x a _ _
  refine Ev.rounds ?_
  unfold selfstablaw01_GraphMeasures.f
  obtain ⟨t, hb, hiff⟩ := light_ev x.f0 x.f1
  refine Ev.bind hb ?_
  cases t with
  | false =>
    simp only [Bool.false_eq_true, if_false]
    refine Ev.bind awake_ev ?_
    exact Ev.now _
  | true =>
    have hL := hiff.1 rfl
    have hn : x.f1.length < Big := by have := hL.2.1; unfold Big; omega
    simp only [if_true]
    refine Ev.bind awake_ev ?_
    simp only [if_true]
    refine Ev.bind (dist_all a) ?_
    refine Ev.bind (refDist_ev hL.big a) ?_
    refine Ev.bind (same_ev _ (by have := distG_len (ids := x.f0) (P := x.f1) a; unfold Big; omega)) ?_
    simp only [if_true]
    refine Ev.bind conn_ev ?_
    refine Ev.bind (refConn_ev hL.big) ?_
    simp only [beq_self_eq_true, if_true]
    refine Ev.bind (ecc_ev a) ?_
    refine Ev.bind (refEcc_ev hL.big a) ?_
    simp only [if_true]
    refine Ev.bind (diam_ev hn) ?_
    refine Ev.bind (refDiam_ev hL.big hn) ?_
    simp only [if_true]
    refine Ev.bind tree_ev ?_
    refine Ev.bind (refTree_ev hL.big) ?_
    simp only [beq_self_eq_true]
    exact Ev.now _
end Go.Proofs.Ytbpolpagcaacoaa.P
