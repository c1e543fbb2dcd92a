/- FamilyHasShapes, the plain law. -/
import Derived.Test.YtilmpkoklkgjeaaSFamilyHasShapes
import Derived.Test.YtilmpkoklkgjeaaMShapes
namespace Go.Proofs.Ytilmpkoklkgjeaa.P
open Go.RowKit Go.Proofs.YtilmpkoklkgjeaaW.PrintWords Go.Proofs.YtilmpkoklkgjeaaW.PrintMore
set_option linter.unusedVariables false
theorem mod_small (a m : Int) (h0 : 0 < m) (h1 : m < 1000) : ∃ t, selfstabmade_Mod.f a m = some t ∧ 0 ≤ t ∧ t < m := by
  have hlo : -m < Int.tmod a m := by
    have := Int.lt_tmod_of_pos a h0; omega
  have hhi : Int.tmod a m < m := Int.tmod_lt_of_pos a h0
  unfold selfstabmade_Mod.f
  rw [if_neg (by omega)]
  by_cases h : Int.tmod a m < 0
  · rw [if_pos h]
    refine ⟨_, rfl, ?_, ?_⟩ <;> rw [show wrap64 (Int.tmod a m + m) = Int.tmod a m + m by unfold wrap64; omega] <;> omega
  · rw [if_neg h]
    exact ⟨_, rfl, by omega, hhi⟩
theorem wr3 (t : Int) (h0 : 0 ≤ t) (h1 : t < 22) : wrap64 (3 + t) = 3 + t := by unfold wrap64; omega
theorem wr1 (t : Int) (h0 : 0 ≤ t) (h1 : t < 22) : wrap64 (1 + t) = 1 + t := by unfold wrap64; omega
theorem Pure_FamilyHasShapes : selfstablaw03_FamilyHasShapes.Pure := by
  intro x0 x1 x2 _ _ _
  obtain ⟨t, et, t0, t1⟩ := mod_small x0 22 (by decide) (by decide)
  obtain ⟨u, eu, u0, u1⟩ := mod_small x1 4 (by decide) (by decide)
  obtain ⟨v, ev, v0, v1⟩ := mod_small x2 6 (by decide) (by decide)
  obtain ⟨a, ea, a0, a1, a2⟩ := ring_ok t t0 t1
  obtain ⟨b, eb, b0, b1, b2⟩ := path_ok t t0 t1
  obtain ⟨c, ec, c0, c1, c2⟩ := star_ok t t0 t1
  obtain ⟨d, ed, d0, d1⟩ := complete_ok t t0 t1
  obtain ⟨g, eg, g0, g1⟩ := grid_ok u v u0 u1 v0 v1
  refine ⟨1001, ?_⟩
  unfold selfstablaw03_FamilyHasShapes.f
  rw [et, Option.bind_some, eu, Option.bind_some, ev, Option.bind_some, wr3 t t0 t1, wr1 u u0 (by omega), wr1 v v0 (by omega), ea, Option.bind_some, eb, Option.bind_some, ec, Option.bind_some, ed, Option.bind_some, eg, Option.bind_some, if_pos a0, if_pos b0, if_pos c0, if_pos d0, g0]
  rw [show (1001 : Nat) = 1000 + 1 from rfl, selfstablaw03_FamilyHasShapes.j0]
  rw [if_neg (by decide), awake_1000, Option.bind_some, if_pos rfl, a1, Option.bind_some, if_pos rfl, b1, Option.bind_some, if_pos rfl, c1, Option.bind_some, if_pos rfl, d1, Option.bind_some, if_pos rfl, g1, Option.bind_some, if_pos rfl, b2, Option.bind_some, if_pos rfl, c2, Option.bind_some, if_pos rfl, a2, Option.bind_some]
  rfl
end Go.Proofs.Ytilmpkoklkgjeaa.P
