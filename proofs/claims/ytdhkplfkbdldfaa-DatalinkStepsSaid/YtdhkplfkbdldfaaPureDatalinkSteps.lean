/- DatalinkSteps, the plain law. -/
import Derived.Test.YtdhkplfkbdldfaaSDatalinkSteps
import Derived.Test.YtdhkplfkbdldfaaMSteps
import Derived.Test.YtdhkplfkbdldfaaGRStep
import Derived.Test.YtdhkplfkbdldfaaGDAligned
import Derived.Test.YtdhkplfkbdldfaaP8
import Derived.Test.YtdhkplfkbdldfaaP2
namespace Go.Proofs.Ytdhkplfkbdldfaa.P
open Go.RowKit Go.Proofs.YtdhkplfkbdldfaaW.PrintWords Go.Proofs.YtdhkplfkbdldfaaW.PrintMore
set_option linter.unusedVariables false
set_option linter.unusedSimpArgs false
theorem known_ev : Ev (fun k => selfstablaw42_known.f k) true := Ev.of (fun k => selfstablaw42_known.mono k) (k := 30) (by decide +kernel)
theorem ra_l2 (x : DL) (hv : ValidD x) (all : List Int) (hl : all.length ≤ 1000) : ∀ (d i : Nat) (old : Bool), i + d = all.length →
    Ev (fun k => selfstabref42_Aligned.l2 k all old (i : Int) x.cap x.mod x.lab x.item x.last x.fr x.ak) (chk ((x.lab + x.mod - 1) % x.mod) x.lab old (all.drop i)) := by
  have hv' := hv
  obtain ⟨h1, h2, h3, h4, h5, h6, _⟩ := hv'
  have hm0 : ¬ x.mod = 0 := by omega
  have hne := before_ne x.lab x.mod h5 h6 (by omega)
  have w1 : wrap64 (x.lab + x.mod) = x.lab + x.mod := wrap_id _ (by omega) (by omega)
  have w2 : wrap64 (x.lab + x.mod - 1) = x.lab + x.mod - 1 := wrap_id _ (by omega) (by omega)
  have w3 : Int.tmod (x.lab + x.mod - 1) x.mod = (x.lab + x.mod - 1) % x.mod := Int.tmod_eq_emod_of_nonneg (by omega)
  intro d
  induction d with
  | zero =>
    intro i old hi
    refine Ev.step (fun k => by rw [selfstabref42_Aligned.l2]) ?_
    simp only [if_neg (show ¬ (i : Int) < (all.length : Int) by omega)]
    rw [List.drop_of_length_le (by omega)]
    exact Ev.now _
  | succ d ih =>
    intro i old hi
    refine Ev.step (fun k => by rw [selfstabref42_Aligned.l2]) ?_
    simp only [if_pos (show (i : Int) < (all.length : Int) by omega), if_pos (show 0 ≤ (i : Int) by omega), w1, w2, w3, if_neg hm0, wrap_nat i (by omega)]
    rw [drop_rd all i (by omega), chk]
    generalize rd all (i : Int) = y
    generalize (x.lab + x.mod - 1) % x.mod = b at hne ih ⊢
    by_cases e1 : y = x.lab
    · have e2 : ¬ y = b := fun h => hne (h.symm.trans e1)
      simp only [if_pos e1, if_neg e2]
      cases old with
      | true => simp only [if_true]; rw [if_neg (fun h => Bool.noConfusion h.2)]; exact Ev.now _
      | false =>
        simp only [Bool.false_eq_true, if_false]
        rw [if_pos ⟨e1, trivial⟩, show (y != x.lab) = false by simp [e1]]
        exact ih (i + 1) false (by omega)
    · simp only [if_neg e1]
      by_cases e2 : y = b
      · simp only [if_pos e2]
        have : (y != x.lab) = true := bne_iff_ne.mpr e1
        simp only [this, ite_self]
        exact ih (i + 1) true (by omega)
      · simp only [if_neg e2]
        rw [if_neg (fun h => e1 h.1)]
        exact Ev.now _
theorem ra_l1 (x : DL) (hv : ValidD x) : ∀ (n : Nat) (acc : List Int), n ≤ x.ak.length → acc.length + n ≤ 100 →
    Ev (fun k => selfstabref42_Aligned.l1 k acc ((n : Int) - 1) x.cap x.mod x.lab x.item x.last x.fr x.ak) (chk ((x.lab + x.mod - 1) % x.mod) x.lab false (acc ++ (back (rd x.ak) n).map (·.2))) := by
  have h6 : x.ak.length ≤ 8 := by have := hv.2.1; have := hv.2.2.2.2.2.2.2.2.2.2.2.1; omega
  intro n
  induction n with
  | zero =>
    intro acc _ hl
    refine Ev.step (fun k => by rw [selfstabref42_Aligned.l1]) ?_
    simp only [if_neg (show ¬ ((0 : Nat) : Int) - 1 ≥ 0 by omega)]
    refine Ev_cast (ra_l2 x hv acc (by omega) acc.length 0 false (by omega)) ?_
    simp [back]
  | succ n ih =>
    intro acc hn hl
    refine Ev.step (fun k => by rw [selfstabref42_Aligned.l1]) ?_
    have e : ((n + 1 : Nat) : Int) - 1 = (n : Int) := by omega
    have w : wrap64 ((n : Int) - 1) = (n : Int) - 1 := wrap_id _ (by omega) (by omega)
    simp only [e, if_pos (show (n : Int) ≥ 0 by omega), if_pos (show 0 ≤ (n : Int) by omega), if_pos (show (n : Int) < (x.ak.length : Int) by omega), if_pos (show acc.length < 17592186044416 by omega), w]
    refine Ev_cast (ih (acc ++ [rd x.ak (n : Int)]) (by omega) (by simp; omega)) ?_
    rw [List.append_assoc]; rfl
theorem ra_l0 (x : DL) (hv : ValidD x) : ∀ (n : Nat) (acc : List Int), n ≤ x.fr.length → acc.length + n ≤ 50 →
    Ev (fun k => selfstabref42_Aligned.l0 k acc ((n : Int) - 1) x.cap x.mod x.lab x.item x.last x.fr x.ak) (chk ((x.lab + x.mod - 1) % x.mod) x.lab false (acc ++ (back (rd_T46 x.fr) n).map (·.2.f0) ++ [x.last] ++ (back (rd x.ak) x.ak.length).map (·.2))) := by
  have h5 : x.fr.length ≤ 8 := by have := hv.2.1; have := hv.2.2.2.2.2.2.2.2.2.2.1; omega
  have h6 : x.ak.length ≤ 8 := by have := hv.2.1; have := hv.2.2.2.2.2.2.2.2.2.2.2.1; omega
  intro n
  induction n with
  | zero =>
    intro acc _ hl
    refine Ev.step (fun k => by rw [selfstabref42_Aligned.l0]) ?_
    have w : wrap64 ((x.ak.length : Int) - 1) = (x.ak.length : Int) - 1 := wrap_id _ (by omega) (by omega)
    simp only [if_neg (show ¬ ((0 : Nat) : Int) - 1 ≥ 0 by omega), if_pos (show acc.length < 17592186044416 by omega), w]
    refine Ev_cast (ra_l1 x hv x.ak.length (acc ++ [x.last]) (by omega) (by simp; omega)) ?_
    simp [back]
  | succ n ih =>
    intro acc hn hl
    refine Ev.step (fun k => by rw [selfstabref42_Aligned.l0]) ?_
    have e : ((n + 1 : Nat) : Int) - 1 = (n : Int) := by omega
    have w : wrap64 ((n : Int) - 1) = (n : Int) - 1 := wrap_id _ (by omega) (by omega)
    simp only [e, if_pos (show (n : Int) ≥ 0 by omega), if_pos (show 0 ≤ (n : Int) by omega), if_pos (show (n : Int) < (x.fr.length : Int) by omega), if_pos (show acc.length < 17592186044416 by omega), w]
    refine Ev_cast (ih (acc ++ [(rd_T46 x.fr (n : Int)).f0]) (by omega) (by simp; omega)) ?_
    rw [List.append_assoc acc]; rfl
theorem refaligned_ev (x : DL) (h5 : x.fr.length ≤ 100) (h6 : x.ak.length ≤ 100) : Ev (fun k => selfstabref42_Aligned.f k x.cap x.mod x.lab x.item x.last x.fr x.ak) (decide (ValidD x) && alignB x) := by
  refine Ev.congr (fun k => by rw [selfstabref42_Aligned.f]) ?_
  refine Ev.bind (refvalid_ev x h5 h6) ?_
  by_cases V : ValidD x
  · simp only [decide_eq_true V, if_true, Bool.true_and]
    have w : wrap64 ((x.fr.length : Int) - 1) = (x.fr.length : Int) - 1 := wrap_id _ (by omega) (by omega)
    rw [w]
    refine Ev_cast (ra_l0 x V x.fr.length [] (by omega) (by have := V.2.1; have := V.2.2.2.2.2.2.2.2.2.2.1; simp; omega)) ?_
    rfl
  · simp only [decide_eq_false V, Bool.false_eq_true, if_false, Bool.false_and]
    exact Ev.now _
theorem refstep_ev (x : DL) (h5 : x.fr.length ≤ 100) (h6 : x.ak.length ≤ 100) (e0 e1 : Int) : ∃ y : Int × Int × Int × Int × Int × List S46 × List Int × Int × Bool,
    datalink_Step.f x.cap x.mod x.lab x.item x.last x.fr x.ak e0 e1 = some y ∧ Ev (fun k => selfstabref42_Step.f k x.cap x.mod x.lab x.item x.last x.fr x.ak e0 e1) y ∧ y.2.2.2.2.2.1.length ≤ 100 ∧ y.2.2.2.2.2.2.1.length ≤ 100 := by
  by_cases V : ValidD x
  · have V' := stepD_valid V e0 e1
    refine ⟨_, by unfold datalink_Step.f; rw [if_pos V], ?_, ?_, ?_⟩
    · refine Ev.congr (fun k => by rw [selfstabref42_Step.f]) ?_
      refine Ev.bind (refvalid_ev x h5 h6) ?_
      simp only [decide_eq_true V, if_true, if_pos V]
      refine Ev_eq (fun k => ?_)
      unfold datalink_Step.f; rw [if_pos V]
    · have := V'.2.1; have := V'.2.2.2.2.2.2.2.2.2.2.1; show (stepD x e0 e1).1.fr.length ≤ 100; omega
    · have := V'.2.1; have := V'.2.2.2.2.2.2.2.2.2.2.2.1; show (stepD x e0 e1).1.ak.length ≤ 100; omega
  · refine ⟨_, by unfold datalink_Step.f; rw [if_neg V], ?_, by simp, by simp⟩
    refine Ev.congr (fun k => by rw [selfstabref42_Step.f]) ?_
    refine Ev.bind (refvalid_ev x h5 h6) ?_
    simp only [decide_eq_false V, Bool.false_eq_true, if_false]
    exact Ev.now _
theorem Pure_DatalinkSteps : selfstablaw42_DatalinkSteps.Pure := by
  intro x0 x1 _ _
  refine Ev.rounds (g := fun k => selfstablaw42_DatalinkSteps.f k x0.f0 x0.f1 x0.f2 x0.f3 x0.f4 x0.f5 x0.f6 x1.f0 x1.f1) ?_
  have big : Ev (fun k => selfstablaw42_DatalinkSteps.j0 k true x0.f0 x0.f1 x0.f2 x0.f3 x0.f4 x0.f5 x0.f6 x1.f0 x1.f1) true := by
    refine Ev.step (fun k => by rw [selfstablaw42_DatalinkSteps.j0]) ?_
    simp only [if_true]
    exact Ev.bind known_ev (Ev.now _)
  refine Ev.congr (fun k => by rw [selfstablaw42_DatalinkSteps.f]) ?_
  by_cases c5 : (x0.f5.length : Int) > 40
  · simp only [if_pos c5]; exact big
  · simp only [if_neg c5]
    by_cases c6 : (x0.f6.length : Int) > 40
    · simp only [decide_eq_true c6]; exact big
    · simp only [decide_eq_false c6]
      obtain ⟨y, hy, hr, y5, y6⟩ := refstep_ev ⟨x0.f0, x0.f1, x0.f2, x0.f3, x0.f4, x0.f5, x0.f6⟩ (by dsimp only; omega) (by dsimp only; omega) x1.f0 x1.f1
      have hal := refaligned_ev ⟨x0.f0, x0.f1, x0.f2, x0.f3, x0.f4, x0.f5, x0.f6⟩ (by dsimp only; omega) (by dsimp only; omega)
      have hva := refvalid_ev ⟨x0.f0, x0.f1, x0.f2, x0.f3, x0.f4, x0.f5, x0.f6⟩ (by dsimp only; omega) (by dsimp only; omega)
      have hd : datalink_Valid.f x0.f0 x0.f1 x0.f2 x0.f3 x0.f4 x0.f5 x0.f6 = some (decide (ValidD ⟨x0.f0, x0.f1, x0.f2, x0.f3, x0.f4, x0.f5, x0.f6⟩)) := rfl
      have ha : datalink_Aligned.f x0.f0 x0.f1 x0.f2 x0.f3 x0.f4 x0.f5 x0.f6 = some (decide (ValidD ⟨x0.f0, x0.f1, x0.f2, x0.f3, x0.f4, x0.f5, x0.f6⟩) && alignB ⟨x0.f0, x0.f1, x0.f2, x0.f3, x0.f4, x0.f5, x0.f6⟩) := rfl
      dsimp only at hy hr hal hva
      refine Ev.step (fun k => by rw [selfstablaw42_DatalinkSteps.j0]) ?_
      simp only [Bool.false_eq_true, if_false, hy, Option.bind_some]
      refine Ev.bind hr ?_
      refine Ev.bind known_ev ?_
      simp only [if_true, hd, Option.bind_some]
      refine Ev.bind hva ?_
      simp only [beq_self_eq_true, if_true, ha, Option.bind_some]
      refine Ev.bind hal ?_
      simp only [beq_self_eq_true, if_true]
      refine Ev.bind (same_ev y.1 y.2.1 y.2.2.1 y.2.2.2.1 y.2.2.2.2.1 y.2.2.2.2.2.1 y.2.2.2.2.2.2.1 (by omega) (by omega)) ?_
      simp only [if_true, beq_self_eq_true]
      exact Ev.now _
end Go.Proofs.Ytdhkplfkbdldfaa.P
