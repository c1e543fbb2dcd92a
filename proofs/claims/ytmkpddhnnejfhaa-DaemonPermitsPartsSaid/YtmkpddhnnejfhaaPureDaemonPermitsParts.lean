/- DaemonPermitsParts, the plain law. -/
import Derived.Test.YtmkpddhnnejfhaaSDaemonPermitsParts
import Derived.Test.YtmkpddhnnejfhaaMAwake
namespace Go.Proofs.Ytmkpddhnnejfhaa.P
open Go.RowKit Go.Proofs.YtmkpddhnnejfhaaW.PrintWords Go.Proofs.YtmkpddhnnejfhaaW.PrintMore
set_option linter.unusedVariables false
variable {ids : List Int} {P : List (List Lk)}
theorem perm_part {kind en en2 ch pt : Int} (hk : kind = 2 ∨ kind = 3) (hp : Part pt ch) (h0 : pt ≠ 0) (he : Part ch en2) (hi : InG P en2) (h : PermG ids P kind en ch) : PermG ids P kind en2 pt := by
  obtain ⟨V, hkk, _, _, _, h1, h2, h4⟩ := h
  refine ⟨V, hkk, hi, h0, fun v hv => he v (hp v hv), fun h => by omega, fun h => ?_, fun h => by omega⟩
  obtain ⟨i1, i2⟩ := h2 h
  exact ⟨fun j hj => i1 j (hp j hj), fun v u hv hu => i2 v u (hp v hv) (hp u hu)⟩
theorem pp_j1_yes {en ch pt kind : Int} (hen : M32 en) (hch : M32 ch) : Ev (fun k => selfstablaw15_DaemonPermitsParts.j1 k en ch pt kind true ids P) true := by
  refine Ev.step (fun k => by rw [selfstablaw15_DaemonPermitsParts.j1]) ?_
  simp only [if_true]
  refine Ev.bind awake_ev ?_
  simp only [if_true]
  obtain ⟨p, hp, hp2⟩ := Permits_ev ids P kind hen M32_zero.1
  refine Ev.bind hp ?_
  cases p with
  | false => exact Ev.now _
  | true => exact absurd rfl (hp2.1 rfl).2.2.2.1
theorem pp_j0 {en ch pt kind : Int} (hk : kind = 2 ∨ kind = 3) (hen : M32 en) (hch : M32 ch) (hpt : M32 pt) : Ev (fun k => selfstablaw15_DaemonPermitsParts.j0 k en ch pt kind ids P) true := by
  obtain ⟨m1, m2⟩ := M32_and hpt hch
  refine Ev.step (fun k => by rw [selfstablaw15_DaemonPermitsParts.j0]) ?_
  by_cases h0 : Go.bits .and .u32 pt ch = 0
  · simp only [if_pos h0]
    exact pp_j1_yes hen hch
  · simp only [if_neg h0]
    obtain ⟨p, hp, hp2⟩ := Permits_ev ids P kind hen hch
    refine Ev.bind hp ?_
    cases p with
    | false => simp only [Bool.not_false]; exact pp_j1_yes hen hch
    | true =>
      have hG := hp2.1 rfl
      have hpart : Part (Go.bits .and .u32 pt ch) ch := fun v hv => by rw [m2] at hv; simp at hv; exact hv.2
      simp only [Bool.not_true]
      refine Ev.step (fun k => by rw [selfstablaw15_DaemonPermitsParts.j1]) ?_
      simp only [Bool.false_eq_true, if_false]
      refine Ev.bind awake_ev ?_
      simp only [if_true]
      obtain ⟨q, hq, hq2⟩ := Permits_ev ids P kind hen m1
      obtain ⟨s, hs, hs2⟩ := Permits_ev ids P kind hch m1
      have e1 := hq2.2 (perm_part hk hpart h0 hG.2.2.2.2.1 hG.2.2.1 hG)
      have e2 := hs2.2 (perm_part hk hpart h0 (fun v hv => hv) (fun v hv => hG.2.2.1 v (hG.2.2.2.2.1 v hv)) hG)
      subst e1; subst e2
      refine Ev.bind hq ?_
      simp only [if_true]
      refine Ev.bind hs ?_
      exact Ev.now _
theorem Pure_DaemonPermitsParts : selfstablaw15_DaemonPermitsParts.Pure := by
  intro x a en ch pt _ _ he' hc' hp'
  have he := M32_of he'
  have hc := M32_of hc'
  have hp := M32_of hp'
  refine Ev.rounds ?_
  unfold selfstablaw15_DaemonPermitsParts.f
  obtain ⟨t, hb, hiff⟩ := fair_ev x.f0 x.f1
  refine Ev.bind hb ?_
  cases t with
  | false =>
    simp only [Bool.false_eq_true, if_false]
    refine Ev.bind awake_ev ?_
    exact Ev.now _
  | true =>
    simp only [if_true]
    cases a with
    | true => simp only [if_true]; exact pp_j0 (.inl rfl) he hc hp
    | false => simp only [Bool.false_eq_true, if_false]; exact pp_j0 (.inr rfl) he hc hp
end Go.Proofs.Ytmkpddhnnejfhaa.P
