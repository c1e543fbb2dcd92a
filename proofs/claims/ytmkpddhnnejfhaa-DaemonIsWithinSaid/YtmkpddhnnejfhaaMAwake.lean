/- The sanity check and the guard of the laws of seat 15. -/
import Derived.Test.YtmkpddhnnejfhaaMDaemon
import Derived.Test.YtmkpddhnnejfhaaP1
import Derived.Test.YtmkpddhnnejfhaaP4
namespace Go.Proofs.Ytmkpddhnnejfhaa.P
open Go.RowKit Go.Proofs.YtmkpddhnnejfhaaW.PrintWords Go.Proofs.YtmkpddhnnejfhaaW.PrintMore
set_option linter.unusedVariables false
set_option maxRecDepth 100000 in
theorem awake_at : selfstablaw15_awake.f 40 = some true := by decide +kernel
theorem awake_ev : Ev (fun k => selfstablaw15_awake.f k) true := Ev.of (fun k => selfstablaw15_awake.mono k) awake_at
theorem fair_ev (ids : List Int) (P : List (List Lk)) : ∃ b, Ev (fun k => selfstablaw15_fair.f k ids P) b ∧ (b = true ↔ Light ids P ∧ ValidG ids P) := by
  obtain ⟨b, hb, hiff⟩ := light_ev ids P
  unfold selfstablaw15_fair.f
  cases b with
  | true =>
    have hL := hiff.1 rfl
    refine ⟨validB ids P, ?_, by rw [validB_iff]; exact ⟨fun h => ⟨hL, h⟩, fun h => h.2⟩⟩
    refine Ev.bind hb ?_
    simp only [if_true]
    refine Ev.bind (refValid_ev ids P hL.big) ?_
    exact Ev.now _
  | false =>
    refine ⟨false, ?_, ⟨nofun, fun h => absurd (hiff.2 h.1) (by simp)⟩⟩
    refine Ev.bind hb ?_
    simp only [Bool.false_eq_true, if_false]
    exact Ev.now _
/-- The daemon of a number. -/
theorem kind_eq (a : Int) : ∃ v : Int, 1 ≤ v ∧ v ≤ 4 ∧ ∃ t, selfstabmade_Mod.f a 4 = some t ∧ wrap64 (1 + t) = v := by
  obtain ⟨v, hv, he⟩ := mod_eq a 4 (by decide) (by decide)
  exact ⟨(v : Int) + 1, by omega, by omega, v, he, by unfold wrap64; omega⟩
end Go.Proofs.Ytmkpddhnnejfhaa.P
