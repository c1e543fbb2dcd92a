/- DaemonPermits, the plain law. -/
import Derived.Test.YtmkpddhnnejfhaaSDaemonPermits
import Derived.Test.YtmkpddhnnejfhaaMAwake
namespace Go.Proofs.Ytmkpddhnnejfhaa.P
open Go.RowKit Go.Proofs.YtmkpddhnnejfhaaW.PrintWords Go.Proofs.YtmkpddhnnejfhaaW.PrintMore
set_option linter.unusedVariables false
theorem Pure_DaemonPermits : selfstablaw15_DaemonPermits.Pure := by
  intro x a b en ch _ _ _ he' hc'
  have he := M32_of he'
  have hc := M32_of hc'
  refine Ev.rounds ?_
  unfold selfstablaw15_DaemonPermits.f
  obtain ⟨t, hb, hiff⟩ := light_ev x.f0 x.f1
  refine Ev.bind hb ?_
  cases t with
  | false =>
    simp only [Bool.false_eq_true, if_false]
    refine Ev.bind awake_ev ?_
    exact Ev.now _
  | true =>
    have hL := hiff.1 rfl
    simp only [if_true]
    refine Ev.bind awake_ev ?_
    simp only [if_true, dvalid_eq, rvalid15_eq, Option.bind_some, beq_self_eq_true]
    obtain ⟨p, hp, hp2⟩ := Permits_ev x.f0 x.f1 a he hc
    obtain ⟨q, hq, hq2⟩ := rPermits_ev (ids := x.f0) hL.big hL.2.1 a he hc
    have e : p = q := Bool.eq_iff_iff.2 (hp2.trans hq2.symm)
    subst e
    refine Ev.bind hp ?_
    refine Ev.bind hq ?_
    simp only [beq_self_eq_true, if_true, within_eq]
    cases h : daemon_Within.f a b with
    | none =>
      exfalso
      unfold daemon_Within.f at h
      simp only [dvalid_eq, Option.bind_some] at h
      repeat' split at h
      all_goals cases h
    | some w =>
      simp only [Option.bind_some, beq_self_eq_true]
      exact Ev.now _
end Go.Proofs.Ytmkpddhnnejfhaa.P
