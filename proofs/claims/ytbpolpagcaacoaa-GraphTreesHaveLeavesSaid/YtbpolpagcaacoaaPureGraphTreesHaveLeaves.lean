/- GraphTreesHaveLeaves, the plain law. -/
import Derived.Test.YtbpolpagcaacoaaSGraphTreesHaveLeaves
import Derived.Test.YtbpolpagcaacoaaMSum
namespace Go.Proofs.Ytbpolpagcaacoaa.P
open Go.RowKit Go.Proofs.YtbpolpagcaacoaaW.PrintWords Go.Proofs.YtbpolpagcaacoaaW.PrintMore
set_option linter.unusedVariables false
variable {ids : List Int} {P : List (List Lk)}
theorem th_end (V : ValidG ids P) : Ev (fun k => selfstablaw01_GraphTreesHaveLeaves.l0 k (P.length : Int) ((szN P P.length / 2 : Nat) : Int) (lvN P P.length : Int) (P.length : Int) ids P) true := by
  have hn := V.2.1
  have h0 := V.1
  refine Ev.step (fun k => by rw [selfstablaw01_GraphTreesHaveLeaves.l0]) ?_
  simp only [if_neg (show ¬ (P.length : Int) < (P.length : Int) by omega)]
  refine Ev.bind conn_ev ?_
  have hw : wrap64 ((P.length : Int) - 1) = ((P.length - 1 : Nat) : Int) := by rw [wrap_id _ (by omega) (by omega)]; omega
  have htree : treeG ids P = (connG ids P && decide (szN P P.length / 2 = P.length - 1)) := by
    unfold treeG sizeG
    rw [if_pos (validB_true V), hw]
    by_cases h : connG ids P = true
    · rw [if_pos h, h, Bool.true_and]
      by_cases e : szN P P.length / 2 = P.length - 1
      · rw [e]; simp
      · rw [decide_eq_false e]
        exact beq_eq_false_iff_ne.2 (by omega)
    · rw [if_neg h, Bool.not_eq_true] at *
      rw [h]; rfl
  by_cases h : connG ids P = true
  · have hge := szN_ge h
    simp only [if_pos h, hw, if_neg (show ¬ ((szN P P.length / 2 : Nat) : Int) < ((P.length - 1 : Nat) : Int) by omega)]
    refine Ev.bind tree_ev ?_
    rw [htree, h, Bool.true_and]
    by_cases e : szN P P.length / 2 = P.length - 1
    · simp only [decide_eq_true e, if_true, if_pos (show ((szN P P.length / 2 : Nat) : Int) = ((P.length - 1 : Nat) : Int) by omega)]
      by_cases h1 : (P.length : Int) > 1
      · have := leaves h (by omega) e
        simp only [if_pos h1, if_neg (show ¬ (lvN P P.length : Int) < 2 by omega)]
        refine Ev.bind awake_ev ?_
        simp only [if_true, beq_self_eq_true]
        exact Ev.now _
      · simp only [if_neg h1]
        refine Ev.bind awake_ev ?_
        simp only [if_true, beq_self_eq_true]
        exact Ev.now _
    · simp only [decide_eq_false e, Bool.false_eq_true, if_false]
      refine Ev.bind awake_ev ?_
      simp only [if_true, beq_self_eq_true]
      exact Ev.now _
  · simp only [if_neg h]
    refine Ev.bind tree_ev ?_
    rw [Bool.not_eq_true] at h
    rw [htree, h, Bool.false_and]
    simp only [Bool.false_eq_true, if_false]
    refine Ev.bind awake_ev ?_
    simp only [if_true, beq_self_eq_true]
    exact Ev.now _
theorem th_l0 (V : ValidG ids P) : ∀ d v : Nat, v + d = P.length → Ev (fun k => selfstablaw01_GraphTreesHaveLeaves.l0 k (P.length : Int) ((szN P P.length / 2 : Nat) : Int) (lvN P v : Int) (v : Int) ids P) true := by
  have hn := V.2.1
  intro d
  induction d with
  | zero =>
    intro v hv
    obtain rfl : v = P.length := by omega
    exact th_end V
  | succ d ih =>
    intro v hv
    have hle := lv_le (P := P) v
    refine Ev.step (fun k => by rw [selfstablaw01_GraphTreesHaveLeaves.l0]) ?_
    simp only [if_pos (show (v : Int) < (P.length : Int) by omega), degree_eq V (show v < P.length by omega), Option.bind_some, wrap_nat v (by omega), wrap_nat (lvN P v) (by omega)]
    have key := ih (v + 1) (by omega)
    by_cases h : (prt P v).length = 1
    · simp only [if_pos (show ((prt P v).length : Int) = 1 by omega)]
      rw [show lvN P (v + 1) = lvN P v + 1 by unfold lvN; simp only [sm, if_pos h]] at key
      exact key
    · simp only [if_neg (show ¬ ((prt P v).length : Int) = 1 by omega)]
      rw [show lvN P (v + 1) = lvN P v by unfold lvN; simp only [sm, if_neg h, Nat.add_zero]] at key
      exact key
theorem Pure_GraphTreesHaveLeaves : selfstablaw01_GraphTreesHaveLeaves.Pure := by
  intro x _
  refine Ev.rounds ?_
  unfold selfstablaw01_GraphTreesHaveLeaves.f
  obtain ⟨t, hb, hiff⟩ := fair_ev x.f0 x.f1
  refine Ev.bind hb ?_
  cases t with
  | false =>
    simp only [Bool.false_eq_true, if_false]
    refine Ev.bind awake_ev ?_
    exact Ev.now _
  | true =>
    obtain ⟨hL, V⟩ := hiff.1 rfl
    simp only [if_true]
    refine Ev.bind size_ev ?_
    unfold sizeG
    rw [if_pos (validB_true V)]
    exact th_l0 V _ 0 (Nat.zero_add _)
end Go.Proofs.Ytbpolpagcaacoaa.P
