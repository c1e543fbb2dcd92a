/- DaemonChooses, the plain law. -/
import Derived.Test.YtmkpddhnnejfhaaSDaemonChooses
import Derived.Test.YtmkpddhnnejfhaaP1
import Derived.Test.YtmkpddhnnejfhaaP4
import Derived.Test.YtmkpddhnnejfhaaMChoices
import Derived.Test.YtmkpddhnnejfhaaMResolve
namespace Go.Proofs.Ytmkpddhnnejfhaa.P
open Go.RowKit Go.Proofs.YtmkpddhnnejfhaaW.PrintWords Go.Proofs.YtmkpddhnnejfhaaW.PrintMore
set_option linter.unusedVariables false
variable {ids : List Int} {P : List (List Lk)}
set_option maxRecDepth 100000 in
theorem awake_at : selfstablaw15_awake.f 40 = some true := by decide +kernel
theorem awake_ev : Ev (fun k => selfstablaw15_awake.f k) true := Ev.of (fun k => selfstablaw15_awake.mono k) awake_at
theorem fair_ev (ids : List Int) (P : List (List Lk)) : ∃ b, Ev (fun k => selfstablaw15_fair.f k ids P) b ∧ (b = true ↔ Light ids P ∧ ValidG ids P) := by
  obtain ⟨b, hb, hiff⟩ := light_ev ids P
  unfold selfstablaw15_fair.f
  cases b with
  | true =>
    have hL := hiff.1 rfl
    refine ⟨validB ids P, ?_, by rw [validB_iff]; exact ⟨fun h => ⟨hL, h⟩, fun h => h.2⟩⟩
    refine Ev.bind hb ?_
    simp only [if_true]
    refine Ev.bind (refValid_ev ids P hL.big) ?_
    exact Ev.now _
  | false =>
    refine ⟨false, ?_, ⟨nofun, fun h => absurd (hiff.2 h.1) (by simp)⟩⟩
    refine Ev.bind hb ?_
    simp only [Bool.false_eq_true, if_false]
    exact Ev.now _
theorem kind_eq (a : Int) : ∃ v : Int, 1 ≤ v ∧ v ≤ 4 ∧ ∃ t, selfstabmade_Mod.f a 4 = some t ∧ wrap64 (1 + t) = v := by
  obtain ⟨v, hv, he⟩ := mod_eq a 4 (by decide) (by decide)
  exact ⟨(v : Int) + 1, by omega, by omega, v, he, by unfold wrap64; omega⟩
theorem same15_l0 (l : List Int) (hl : l.length < Big) : ∀ d i : Nat, i + d = l.length → Ev (fun k => selfstabref15_Same.l0 k l l (i : Int)) true
  | 0, i, hi => by
    refine Ev.step (fun k => by rw [selfstabref15_Same.l0]) ?_
    simp only [if_neg (show ¬ (i : Int) < (l.length : Int) by omega)]
    exact Ev.now _
  | d + 1, i, hi => by
    have hB : Big = 4611686018427387904 := rfl
    refine Ev.step (fun k => by rw [selfstabref15_Same.l0]) ?_
    simp only [if_pos (show (i : Int) < (l.length : Int) by omega), if_pos (show 0 ≤ (i : Int) by omega), if_true, wrap_nat i (by omega)]
    exact same15_l0 l hl d (i + 1) (by omega)
theorem same15_ev (l : List Int) (hl : l.length < Big) : Ev (fun k => selfstabref15_Same.f k l l) true := by
  unfold selfstabref15_Same.f
  simp only [if_true]
  exact same15_l0 l hl l.length 0 (Nat.zero_add _)
theorem chG_len (ids : List Int) (P : List (List Lk)) (kind : Int) {en : Int} (he : M32 en) : (chG ids P kind en).1.length < Big := by
  have hB : Big = 4611686018427387904 := rfl
  obtain ⟨E, rfl, hE⟩ := he.nat
  have h1 : (eachL 32 (E : Int)).length ≤ 32 := by rw [(each_all he).1, List.length_map]; exact Nat.le_trans (List.length_filter_le _ _) (by simp)
  have h2 : ((partsL E).filter (permB P kind E)).length < Big := Nat.lt_of_le_of_lt (List.length_filter_le _ _) (parts_len hE)
  unfold chG
  repeat' split
  all_goals (first | (simp only [Int.toNat_natCast]; exact h2) | (simp; omega))
theorem Pure_DaemonChooses : selfstablaw15_DaemonChooses.Pure := by
  intro x kind en w _ _ he' hw'
  have he := M32_of he'
  have hw := M32_of hw'
  refine Ev.rounds ?_
  unfold selfstablaw15_DaemonChooses.f
  obtain ⟨t, hb, hiff⟩ := light_ev x.f0 x.f1
  refine Ev.bind hb ?_
  cases t with
  | false =>
    simp only [Bool.false_eq_true, if_false]
    refine Ev.bind awake_ev ?_
    exact Ev.now _
  | true =>
    have hL := hiff.1 rfl
    simp only [if_true]
    refine Ev.bind (choices_ev x.f0 x.f1 kind he) ?_
    refine Ev.bind (rchoices_ev hL.big kind he) ?_
    refine Ev.bind awake_ev ?_
    simp only [if_true]
    refine Ev.bind (same15_ev _ (chG_len x.f0 x.f1 kind he)) ?_
    simp only [if_true]
    refine Ev.bind (resolve_ev x.f0 x.f1 kind he hw) ?_
    refine Ev.bind (rresolve_ev hL.big hL.2.1 kind he hw) ?_
    simp only [beq_self_eq_true]
    exact Ev.now _
end Go.Proofs.Ytmkpddhnnejfhaa.P
