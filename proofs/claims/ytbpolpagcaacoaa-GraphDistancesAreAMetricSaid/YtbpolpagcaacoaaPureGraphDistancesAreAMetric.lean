/- GraphDistancesAreAMetric, the plain law. -/
import Derived.Test.YtbpolpagcaacoaaSGraphDistancesAreAMetric
import Derived.Test.YtbpolpagcaacoaaMGraph2
namespace Go.Proofs.Ytbpolpagcaacoaa.P
open Go.RowKit Go.Proofs.YtbpolpagcaacoaaW.PrintWords Go.Proofs.YtbpolpagcaacoaaW.PrintMore
set_option linter.unusedVariables false
variable {ids : List Int} {P : List (List Lk)}
theorem Pure_GraphDistancesAreAMetric : selfstablaw01_GraphDistancesAreAMetric.Pure := by
  intro x a b c _ _ _ _
  refine Ev.rounds ?_
  unfold selfstablaw01_GraphDistancesAreAMetric.f
  obtain ⟨t, hb, hiff⟩ := fair_ev x.f0 x.f1
  refine Ev.bind hb ?_
  cases t with
  | false =>
    simp only [Bool.false_eq_true, if_false]
    refine Ev.bind awake_ev ?_
    exact Ev.now _
  | true =>
    obtain ⟨hL, V⟩ := hiff.1 rfl
    have hn := V.2.1
    have hbig : x.f1.length < Big := by unfold Big; omega
    obtain ⟨u, hu, hmu⟩ := mod_eq a x.f1.length V.1 hbig
    obtain ⟨v, hv, hmv⟩ := mod_eq b x.f1.length V.1 hbig
    obtain ⟨w, hw, hmw⟩ := mod_eq c x.f1.length V.1 hbig
    simp only [if_true, hmu, hmv, hmw, Option.bind_some]
    refine Ev.bind (dist_ev V hu) ?_
    refine Ev.bind (dist_ev V hv) ?_
    refine Ev.bind (dist_ev V hw) ?_
    simp only [dlist_len, if_true, bne_self_eq_false]
    refine Ev.step (fun k => by rw [selfstablaw01_GraphDistancesAreAMetric.j0]) ?_
    have s1 := dst_symm hu (adj_lt V) (adj_sym V) hv
    have s2 := dst_symm hv (adj_lt V) (adj_sym V) hw
    have l1 := dst_lt hu (adj_lt V) v
    have l2 := dst_lt hv (adj_lt V) w
    simp only [Bool.false_eq_true, if_false, dlist_len, rd_dlist u hv, rd_dlist v hw, rd_dlist u hw, rd_dlist v hu, rd_dlist w hv, if_pos (show 0 ≤ (u : Int) by omega), if_pos (show 0 ≤ (v : Int) by omega), if_pos (show 0 ≤ (w : Int) by omega), if_pos (show (u : Int) < (x.f1.length : Int) by omega), if_pos (show (v : Int) < (x.f1.length : Int) by omega), if_pos (show (w : Int) < (x.f1.length : Int) by omega)]
    by_cases h1 : dst x.f1.length (adjB x.f1) u v ≥ 0
    · by_cases h2 : dst x.f1.length (adjB x.f1) v w ≥ 0
      · have h3 := dst_triangle hu (adj_lt V) hv h1 h2
        rw [wrap_id (dst x.f1.length (adjB x.f1) u v + dst x.f1.length (adjB x.f1) v w) (by omega) (by omega)]
        simp only [if_pos h1, if_pos h2, if_neg (show ¬ dst x.f1.length (adjB x.f1) u w < 0 by omega), if_neg (show ¬ dst x.f1.length (adjB x.f1) u w > dst x.f1.length (adjB x.f1) u v + dst x.f1.length (adjB x.f1) v w by omega)]
        refine Ev.bind awake_ev ?_
        simp only [if_true, if_pos s1, s2, beq_self_eq_true]
        exact Ev.now _
      · simp only [if_pos h1, if_neg h2]
        refine Ev.bind awake_ev ?_
        simp only [if_true, if_pos s1, s2, beq_self_eq_true]
        exact Ev.now _
    · simp only [if_neg h1]
      refine Ev.bind awake_ev ?_
      simp only [if_true, if_pos s1, s2, beq_self_eq_true]
      exact Ev.now _
end Go.Proofs.Ytbpolpagcaacoaa.P
