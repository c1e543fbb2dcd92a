/- DaemonIsWithin, the plain law. -/
import Derived.Test.YtmkpddhnnejfhaaSDaemonIsWithin
import Derived.Test.YtmkpddhnnejfhaaMAwake
namespace Go.Proofs.Ytmkpddhnnejfhaa.P
open Go.RowKit Go.Proofs.YtmkpddhnnejfhaaW.PrintWords Go.Proofs.YtmkpddhnnejfhaaW.PrintMore
set_option linter.unusedVariables false
variable {ids : List Int} {P : List (List Lk)}
theorem dwithin_eq {a b : Int} (ha : 1 ≤ a ∧ a ≤ 4) (hb : 1 ≤ b ∧ b ≤ 4) : daemon_Within.f a b = some (decide (a = b ∨ b = 3 ∨ a = 1 ∧ b = 2)) := by
  unfold daemon_Within.f
  simp only [dvalid_eq, Option.bind_some, decide_eq_true ha, decide_eq_true hb, if_true]
  by_cases h1 : a = b
  · simp [h1]
  · by_cases h2 : b = 3
    · simp [h2]
    · by_cases h3 : a = 1
      · by_cases h4 : b = 2
        · simp [h3, h4]
        · simp only [if_neg h1, if_neg h2, if_pos h3]
          rw [decide_eq_false (by omega)]
          simp [h4]
      · simp only [if_neg h1, if_neg h2, if_neg h3]
        rw [decide_eq_false (by omega)]
/-- One node alone has no neighbour among itself. -/
theorem indep_one (V : ValidG ids P) {en ch : Int} (hc : M32 ch) (h0 : ch ≠ 0) (hi : InG P en) (hp : Part ch en) (h1 : ch = leastS ch) : Indep P ch := by
  obtain ⟨t, ht, b1, b2⟩ := bit_lowest hc h0
  obtain ⟨l1, l2⟩ := least_bits hc b1 b2
  refine ⟨fun j hj => hi j (hp j hj), fun v u hv hu => ?_⟩
  rw [h1, l2] at hv hu
  have hv : v = t := by simpa using hv
  have hu : u = t := by simpa using hu
  subst hv; subst hu
  cases h : adjB P u u with
  | false => rfl
  | true =>
    exfalso
    obtain ⟨e, he, hf⟩ := adjB_iff.1 h
    have := (V.2.2.2.2.1 u (hi u (hp u b1))).1 e he
    exact this.2.2.1 hf
theorem perm_within {a b en ch : Int} (hc : M32 ch) (hw : a = b ∨ b = 3 ∨ a = 1 ∧ b = 2) (hb : 1 ≤ b ∧ b ≤ 4) (h : PermG ids P a en ch) : PermG ids P b en ch := by
  obtain ⟨V, hk, hi, h0, hp, h1, h2, h4⟩ := h
  rcases hw with rfl | rfl | ⟨rfl, rfl⟩
  · exact ⟨V, hk, hi, h0, hp, h1, h2, h4⟩
  · exact ⟨V, hb, hi, h0, hp, fun h => by omega, fun h => by omega, fun h => by omega⟩
  · exact ⟨V, hb, hi, h0, hp, fun h => by omega, fun _ => indep_one V hc h0 hi hp (h1 rfl), fun h => by omega⟩
theorem iw_j1 {a : Int} (ha : 1 ≤ a ∧ a ≤ 4) : Ev (fun k => selfstablaw15_DaemonIsWithin.j1 k a false) true := by
  refine Ev.step (fun k => by rw [selfstablaw15_DaemonIsWithin.j1]) ?_
  simp only [Bool.false_eq_true, if_false]
  refine Ev.bind awake_ev ?_
  simp only [if_true, dwithin_eq ha ha, Option.bind_some, true_or, decide_true]
  exact Ev_eq fun k => by decide +kernel
theorem iw_j0 {a b c : Int} (ha : 1 ≤ a ∧ a ≤ 4) (hb : 1 ≤ b ∧ b ≤ 4) (hc : 1 ≤ c ∧ c ≤ 4) : Ev (fun k => selfstablaw15_DaemonIsWithin.j0 k a b c false) true := by
  refine Ev.step (fun k => by rw [selfstablaw15_DaemonIsWithin.j0]) ?_
  simp only [Bool.false_eq_true, if_false, dwithin_eq ha hb, dwithin_eq hb hc, dwithin_eq ha hc, Option.bind_some]
  by_cases h1 : a = b ∨ b = 3 ∨ a = 1 ∧ b = 2
  · simp only [decide_eq_true h1, if_true]
    by_cases h2 : b = c ∨ c = 3 ∨ b = 1 ∧ c = 2
    · simp only [decide_eq_true h2, if_true, decide_eq_true (show a = c ∨ c = 3 ∨ a = 1 ∧ c = 2 by omega), Bool.not_true]
      exact iw_j1 ha
    · simp only [decide_eq_false h2, Bool.false_eq_true, if_false]
      exact iw_j1 ha
  · simp only [decide_eq_false h1, Bool.false_eq_true, if_false]
    exact iw_j1 ha
theorem Pure_DaemonIsWithin : selfstablaw15_DaemonIsWithin.Pure := by
  intro x a b c en ch _ _ _ _ he' hc'
  have he := M32_of he'
  have hc := M32_of hc'
  refine Ev.rounds ?_
  unfold selfstablaw15_DaemonIsWithin.f
  obtain ⟨t, hb, hiff⟩ := fair_ev x.f0 x.f1
  refine Ev.bind hb ?_
  cases t with
  | false =>
    simp only [Bool.false_eq_true, if_false]
    refine Ev.bind awake_ev ?_
    exact Ev.now _
  | true =>
    obtain ⟨hL, V⟩ := hiff.1 rfl
    obtain ⟨a', a1, a2, ta, ha, hae⟩ := kind_eq a
    obtain ⟨b', b1, b2, tb, hbe, hbb⟩ := kind_eq b
    obtain ⟨c', c1, c2, tc, hcc, hce⟩ := kind_eq c
    simp only [if_true, ha, hbe, hcc, Option.bind_some, hae, hbb, hce, dwithin_eq ⟨a1, a2⟩ ⟨b1, b2⟩]
    by_cases h1 : a' = b' ∨ b' = 3 ∨ a' = 1 ∧ b' = 2
    · simp only [decide_eq_true h1, if_true]
      obtain ⟨p, hp, hp2⟩ := Permits_ev x.f0 x.f1 a' he hc
      obtain ⟨q, hq, hq2⟩ := Permits_ev x.f0 x.f1 b' he hc
      refine Ev.bind hp ?_
      cases p with
      | true =>
        have := hq2.2 (perm_within hc h1 ⟨b1, b2⟩ (hp2.1 rfl))
        subst this
        simp only [if_true]
        refine Ev.bind hq ?_
        exact iw_j0 ⟨a1, a2⟩ ⟨b1, b2⟩ ⟨c1, c2⟩
      | false =>
        simp only [Bool.false_eq_true, if_false]
        exact iw_j0 ⟨a1, a2⟩ ⟨b1, b2⟩ ⟨c1, c2⟩
    · simp only [decide_eq_false h1, Bool.false_eq_true, if_false]
      exact iw_j0 ⟨a1, a2⟩ ⟨b1, b2⟩ ⟨c1, c2⟩
end Go.Proofs.Ytmkpddhnnejfhaa.P
