/- DaemonResolvesToPermitted, the plain law. -/
import Derived.Test.YtmkpddhnnejfhaaSDaemonResolvesToPermitted
import Derived.Test.YtmkpddhnnejfhaaMLaws15
namespace Go.Proofs.Ytmkpddhnnejfhaa.P
open Go.RowKit Go.Proofs.YtmkpddhnnejfhaaW.PrintWords Go.Proofs.YtmkpddhnnejfhaaW.PrintMore
set_option linter.unusedVariables false
theorem Pure_DaemonResolvesToPermitted : selfstablaw15_DaemonResolvesToPermitted.Pure := by
  intro x kd en w _ _ he' hw'
  have hw := M32_of hw'
  refine Ev.rounds ?_
  unfold selfstablaw15_DaemonResolvesToPermitted.f
  obtain ⟨t, hb, hiff⟩ := fair_ev x.f0 x.f1
  refine Ev.bind hb ?_
  cases t with
  | false =>
    simp only [Bool.false_eq_true, if_false]
    refine Ev.bind awake_ev ?_
    exact Ev.now _
  | true =>
    obtain ⟨hL, V⟩ := hiff.1 rfl
    obtain ⟨kind, a1, a2, ta, ha, hae⟩ := kind_eq kd
    obtain ⟨r, hr, hm, hbit⟩ := all_ev x.f1.length (by have := hL.2.1; omega)
    simp only [if_true, ha, Option.bind_some, hae]
    refine Ev.bind hr ?_
    obtain ⟨he, hi⟩ := all_and (P := x.f1) (M32_of he') hm hbit
    generalize Go.bits .and .u32 en r = e at he hi ⊢
    refine Ev.bind (resolve_ev x.f0 x.f1 kind he hw) ?_
    have hs := M32_resG x.f0 x.f1 kind (w := w) he
    by_cases h0 : e = 0
    · simp only [if_pos h0]
      refine Ev.bind awake_ev ?_
      simp only [if_true]
      have : resG x.f0 x.f1 kind e w = 0 := by unfold resG; rw [if_neg (fun h => h.2.2.2 h0)]
      rw [this]
      exact Ev.now _
    · simp only [if_neg h0]
      obtain ⟨p, hp, hp2⟩ := Permits_ev x.f0 x.f1 kind he hs
      obtain rfl := hp2.2 (res_perm V ⟨a1, a2⟩ he hw hi h0)
      refine Ev.bind hp ?_
      simp only [if_true]
      obtain ⟨q, hq, hq2⟩ := Permits_ev x.f0 x.f1 kind he hw
      refine Ev.bind hq ?_
      have hlast : Ev (fun k => (selfstablaw15_awake.f k).bind fun t300 => (if t300 = true then (if kind = 4 then (some true) else (if (Go.bits .and .u32 w e) = 0 then (some true) else (some ((Go.bits .andNot .u32 (resG x.f0 x.f1 kind e w) w) == 0)))) else (none))) true := by
        refine Ev.bind awake_ev ?_
        simp only [if_true]
        by_cases k4 : kind = 4
        · simp only [if_pos k4]; exact Ev.now _
        · simp only [if_neg k4]
          by_cases hz : Go.bits .and .u32 w e = 0
          · simp only [if_pos hz]; exact Ev.now _
          · simp only [if_neg hz]
            have := (part_iff hs hw).2 (res_of_wish (ids := x.f0) (P := x.f1) he hw k4 hz)
            rw [this]
            exact Ev.now _
      cases q with
      | true =>
        have := res_wish he hw (hq2.1 rfl) h0
        simp only [if_true, if_pos this]
        exact hlast
      | false =>
        simp only [Bool.false_eq_true, if_false]
        exact hlast
end Go.Proofs.Ytmkpddhnnejfhaa.P
