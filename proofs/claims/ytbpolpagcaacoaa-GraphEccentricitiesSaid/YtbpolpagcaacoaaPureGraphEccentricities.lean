/- GraphEccentricities, the plain law. -/
import Derived.Test.YtbpolpagcaacoaaSGraphEccentricities
import Derived.Test.YtbpolpagcaacoaaMGraph2
namespace Go.Proofs.Ytbpolpagcaacoaa.P
open Go.RowKit Go.Proofs.YtbpolpagcaacoaaW.PrintWords Go.Proofs.YtbpolpagcaacoaaW.PrintMore
set_option linter.unusedVariables false
variable {ids : List Int} {P : List (List Lk)}
theorem ecc_ge (h : connG ids P = true) {a v : Nat} (ha : a < P.length) (hv : v < P.length) : dst P.length (adjB P) a v ≤ eccG ids P (a : Int) := by
  obtain ⟨V, hd⟩ := conn_all h
  unfold eccG
  rw [if_pos h, distG_true V ha]
  exact (fold_mx (dlist P a) (-1)).2.1 _ (List.mem_map.2 ⟨v, List.mem_range.2 hv, rfl⟩)
theorem ecc_at (h : connG ids P = true) {a : Nat} (ha : a < P.length) : ∃ v, v < P.length ∧ eccG ids P (a : Int) = dst P.length (adjB P) a v := by
  have h0 := ecc_nonneg h ha
  obtain ⟨V, hd⟩ := conn_all h
  unfold eccG at *
  rw [if_pos h, distG_true V ha] at *
  rcases (fold_mx (dlist P a) (-1)).2.2 with e | e
  · omega
  · obtain ⟨v, hv, e2⟩ := List.mem_map.1 e
    exact ⟨v, List.mem_range.1 hv, e2.symm⟩
theorem diam_ge (h : connG ids P = true) {a : Nat} (ha : a < P.length) : eccG ids P (a : Int) ≤ diamG ids P := by
  unfold diamG
  rw [if_pos h]
  exact (fold_mx (eccs ids P) (-1)).2.1 _ (List.mem_map.2 ⟨a, List.mem_range.2 ha, rfl⟩)
theorem diam_at (h : connG ids P = true) : ∃ a, a < P.length ∧ diamG ids P = eccG ids P (a : Int) := by
  obtain ⟨V, hd⟩ := conn_all h
  have h1 := diam_ge h (a := 0) V.1
  have h0 := ecc_nonneg h (a := 0) V.1
  unfold diamG at *
  rw [if_pos h] at *
  rcases (fold_mx (eccs ids P) (-1)).2.2 with e | e
  · omega
  · obtain ⟨v, hv, e2⟩ := List.mem_map.1 e
    exact ⟨v, List.mem_range.1 hv, e2.symm⟩
theorem diam_twice (h : connG ids P = true) {a : Nat} (ha : a < P.length) : diamG ids P ≤ 2 * eccG ids P (a : Int) := by
  obtain ⟨V, hd⟩ := conn_all h
  obtain ⟨u, hu, e1⟩ := diam_at h
  obtain ⟨v, hv, e2⟩ := ecc_at h hu
  have t := dst_triangle hu (adj_lt V) ha (hd u a hu ha) (hd a v ha hv)
  have g1 := ecc_ge h ha hu
  have g2 := ecc_ge h ha hv
  rw [dst_symm ha (adj_lt V) (adj_sym V) hu] at g1
  omega
theorem ecc_lt (h : connG ids P = true) {a : Nat} (ha : a < P.length) : eccG ids P (a : Int) < P.length := by
  obtain ⟨V, hd⟩ := conn_all h
  obtain ⟨v, hv, e⟩ := ecc_at h ha
  rw [e]
  exact dst_lt ha (adj_lt V) v
theorem ec_l0 (h : connG ids P = true) : ∀ (d v : Nat) (b : Bool), v + d = P.length → (b = true ↔ ∃ u, u < v ∧ eccG ids P (u : Int) = diamG ids P) → Ev (fun k => selfstablaw01_GraphEccentricities.l0 k (diamG ids P) b (v : Int) ids P) true := by
  obtain ⟨V, hd⟩ := conn_all h
  have hn := V.2.1
  intro d
  induction d with
  | zero =>
    intro v b hv hb
    refine Ev.step (fun k => by rw [selfstablaw01_GraphEccentricities.l0]) ?_
    simp only [if_neg (show ¬ (v : Int) < (P.length : Int) by omega)]
    refine Ev.bind awake_ev ?_
    obtain ⟨u, hu, e⟩ := diam_at h
    have : b = true := hb.2 ⟨u, by omega, e.symm⟩
    simp only [if_true, this]
    exact Ev.now _
  | succ d ih =>
    intro v b hv hb
    have h0 := ecc_nonneg h (a := v) (by omega)
    have h1 := diam_ge h (a := v) (by omega)
    have h2 := diam_twice h (a := v) (by omega)
    have h3 := ecc_lt h (a := v) (by omega)
    refine Ev.step (fun k => by rw [selfstablaw01_GraphEccentricities.l0]) ?_
    simp only [if_pos (show (v : Int) < (P.length : Int) by omega)]
    refine Ev.bind (ecc_ev _) ?_
    rw [wrap_id (2 * eccG ids P (v : Int)) (by omega) (by omega)]
    simp only [if_neg (show ¬ eccG ids P (v : Int) < 0 by omega), if_neg (show ¬ eccG ids P (v : Int) > diamG ids P by omega), if_neg (show ¬ 2 * eccG ids P (v : Int) < diamG ids P by omega), wrap_nat v (by omega)]
    cases b with
    | true =>
      simp only [if_true]
      obtain ⟨u, hu, e⟩ := hb.1 rfl
      exact ih (v + 1) true (by omega) ⟨fun _ => ⟨u, by omega, e⟩, fun _ => rfl⟩
    | false =>
      simp only [Bool.false_eq_true, if_false]
      refine ih (v + 1) _ (by omega) ?_
      rw [beq_iff_eq]
      constructor
      · intro e
        exact ⟨v, by omega, e⟩
      · rintro ⟨u, hu, e⟩
        by_cases huv : u = v
        · rw [← huv]; exact e
        · exact absurd (hb.2 ⟨u, by omega, e⟩) (by simp)
theorem Pure_GraphEccentricities : selfstablaw01_GraphEccentricities.Pure := by
  intro x _
  refine Ev.rounds ?_
  unfold selfstablaw01_GraphEccentricities.f
  obtain ⟨t, hb, hiff⟩ := fair_ev x.f0 x.f1
  refine Ev.bind hb ?_
  cases t with
  | false =>
    simp only [Bool.false_eq_true, if_false]
    refine Ev.bind awake_ev ?_
    exact Ev.now _
  | true =>
    obtain ⟨hL, V⟩ := hiff.1 rfl
    have hn := V.2.1
    simp only [if_true]
    refine Ev.bind (diam_ev (by unfold Big; omega)) ?_
    refine Ev.bind conn_ev ?_
    by_cases h : connG x.f0 x.f1 = true
    · simp only [if_pos h]
      exact ec_l0 h _ 0 false (Nat.zero_add _) (by simp)
    · simp only [if_neg h]
      refine Ev.bind awake_ev ?_
      have e1 : diamG x.f0 x.f1 = -1 := by unfold diamG; rw [if_neg h]
      have e2 : eccG x.f0 x.f1 0 = -1 := by unfold eccG; rw [if_neg h]
      simp only [if_true, e1]
      refine Ev.bind (ecc_ev _) ?_
      rw [e2]
      exact Ev.now _
end Go.Proofs.Ytbpolpagcaacoaa.P
