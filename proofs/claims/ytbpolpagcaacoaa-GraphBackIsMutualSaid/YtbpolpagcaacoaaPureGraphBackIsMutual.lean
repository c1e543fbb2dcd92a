/- GraphBackIsMutual, the plain law. -/
import Derived.Test.YtbpolpagcaacoaaSGraphBackIsMutual
import Derived.Test.YtbpolpagcaacoaaMBack
namespace Go.Proofs.Ytbpolpagcaacoaa.P
open Go.RowKit Go.Proofs.YtbpolpagcaacoaaW.PrintWords Go.Proofs.YtbpolpagcaacoaaW.PrintMore
set_option linter.unusedVariables false
variable {ids : List Int} {P : List (List Lk)}
theorem bm_l1 (V : ValidG ids P) {v : Nat} (hv : v < P.length) (hr : Ev (fun k => selfstablaw01_GraphBackIsMutual.l0 k ((v + 1 : Nat) : Int) ids P) true) :
    ∀ d i : Nat, i + d = (prt P v).length → Ev (fun k => selfstablaw01_GraphBackIsMutual.l1 k (v : Int) (i : Int) ids P) true := by
  have hn := V.2.1
  have hll := links_len V v
  intro d
  induction d with
  | zero =>
    intro i hi
    refine Ev.step (fun k => by rw [selfstablaw01_GraphBackIsMutual.l1]) ?_
    simp only [if_pos (show 0 ≤ (v : Int) by omega), if_pos (show (v : Int) < (P.length : Int) by omega), rdR_prt, if_neg (show ¬ (i : Int) < ((prt P v).length : Int) by omega), wrap_nat v (by omega)]
    refine Ev.bind (back_out (v := (v : Int)) (i := ((prt P v).length : Int)) (by rw [Int.toNat_natCast]; omega)) ?_
    simp only [if_true]
    refine Ev.bind (back_out (v := (v : Int)) (i := -1) (by omega)) ?_
    simp only [if_true, degree_eq V hv, Option.bind_some]
    exact hr
  | succ d ih =>
    intro i hi
    have hi' : i < (prt P v).length := by omega
    obtain ⟨u, hu, hue, hadj⟩ := link_node V hv hi'
    obtain ⟨j, h1, h2, h3, h4⟩ := port_back V hv hi' hue
    have hb := back_in V hv hi'
    rw [hue, Int.toNat_natCast, h1] at hb
    have hb2 := back_in V hu h2
    rw [h3, Int.toNat_natCast, h4] at hb2
    refine Ev.step (fun k => by rw [selfstablaw01_GraphBackIsMutual.l1]) ?_
    simp only [if_pos (show 0 ≤ (v : Int) by omega), if_pos (show (v : Int) < (P.length : Int) by omega), rdR_prt, rdT_lk, if_pos (show (i : Int) < ((prt P v).length : Int) by omega), if_pos (show 0 ≤ (i : Int) by omega), hue, wrap_nat i (by omega)]
    refine Ev.bind hb ?_
    simp only [if_neg (show ¬ (j : Int) < 0 by omega), if_pos (show 0 ≤ (u : Int) by omega), if_pos (show (u : Int) < (P.length : Int) by omega), if_neg (show ¬ (j : Int) ≥ ((prt P u).length : Int) by omega), if_pos (show 0 ≤ (j : Int) by omega), if_pos (show (j : Int) < ((prt P u).length : Int) by omega), rdT_lk, if_pos h3]
    refine Ev.bind hb2 ?_
    simp only [if_true]
    exact ih (i + 1) (by omega)
theorem bm_l0 (V : ValidG ids P) : ∀ d v : Nat, v + d = P.length → Ev (fun k => selfstablaw01_GraphBackIsMutual.l0 k (v : Int) ids P) true := by
  intro d
  induction d with
  | zero =>
    intro v hv
    refine Ev.step (fun k => by rw [selfstablaw01_GraphBackIsMutual.l0]) ?_
    simp only [if_neg (show ¬ (v : Int) < (P.length : Int) by omega)]
    refine Ev.bind awake_ev ?_
    exact Ev.now _
  | succ d ih =>
    intro v hv
    refine Ev.step (fun k => by rw [selfstablaw01_GraphBackIsMutual.l0]) ?_
    simp only [if_pos (show (v : Int) < (P.length : Int) by omega)]
    exact bm_l1 V (by omega) (ih (v + 1) (by omega)) _ 0 (Nat.zero_add _)
theorem Pure_GraphBackIsMutual : selfstablaw01_GraphBackIsMutual.Pure := by
  intro x _
  refine Ev.rounds ?_
  unfold selfstablaw01_GraphBackIsMutual.f
  obtain ⟨t, hb, hiff⟩ := fair_ev x.f0 x.f1
  refine Ev.bind hb ?_
  cases t with
  | false =>
    simp only [Bool.false_eq_true, if_false]
    refine Ev.bind awake_ev ?_
    exact Ev.now _
  | true =>
    obtain ⟨hL, V⟩ := hiff.1 rfl
    simp only [if_true]
    exact bm_l0 V _ 0 (Nat.zero_add _)
end Go.Proofs.Ytbpolpagcaacoaa.P
