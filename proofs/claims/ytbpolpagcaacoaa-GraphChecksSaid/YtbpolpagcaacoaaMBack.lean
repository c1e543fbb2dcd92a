/- Back at any argument: the port of the neighbour that leads back. -/
import Derived.Test.YtbpolpagcaacoaaMGraph2
import Derived.Test.YtbpolpagcaacoaaP8
namespace Go.Proofs.Ytbpolpagcaacoaa.P
open Go.RowKit Go.Proofs.YtbpolpagcaacoaaW.PrintWords Go.Proofs.YtbpolpagcaacoaaW.PrintMore
set_option linter.unusedVariables false
section
variable {ids : List Int} {P : List (List Lk)}
theorem nodup_lk {n v : Nat} {l : List Lk} (h : okLinks n v l) {i j : Nat} (hij : i < j) (hj : j < l.length) : (lk l i).f0 ≠ (lk l j).f0 := by
  intro e
  have hm := (mem_take_lk l j (by omega) (lk l j).f0).2 ⟨i, hij, e⟩
  have hd := h.2
  rw [← List.take_append_drop j l, List.map_append, List.nodup_append] at hd
  refine hd.2.2 _ hm _ ?_ rfl
  rw [List.drop_eq_getElem_cons hj, ← lk_eq l j hj]
  simp
theorem back_l0 (v : Nat) (l : List Lk) (hl : l.length < Big) : ∀ d i : Nat, i + d = l.length → (∀ j, j < i → (lk l j).f0 ≠ v) →
    Ev (fun k => graph_Back.l0 k (v : Int) l (l.length : Int) (i : Int)) (portOf l v) := by
  unfold Big at hl
  intro d
  induction d with
  | zero =>
    intro i hi hj
    refine Ev.step (fun k => by rw [graph_Back.l0]) ?_
    simp only [if_neg (show ¬ (i : Int) < (l.length : Int) by omega)]
    rw [portOf_none (fun j h => hj j (by omega))]
    exact Ev.now _
  | succ d ih =>
    intro i hi hj
    refine Ev.step (fun k => by rw [graph_Back.l0]) ?_
    simp only [if_pos (show (i : Int) < (l.length : Int) by omega), if_pos (show 0 ≤ (i : Int) by omega), rdT_lk, wrap_nat i (by omega)]
    by_cases h : (lk l i).f0 = (v : Int)
    · simp only [if_pos h]
      rw [portOf_some (by omega) h hj]
      exact Ev.now _
    · simp only [if_neg h]
      refine ih (i + 1) (by omega) fun j hji => ?_
      by_cases e : j = i
      · subst e; exact h
      · exact hj j (by omega)
theorem back_in (V : ValidG ids P) {v i : Nat} (hv : v < P.length) (hi : i < (prt P v).length) : Ev (fun k => graph_Back.f k ids P (v : Int) (i : Int)) (portOf (prt P (lk (prt P v) i).f0.toNat) (v : Int)) := by
  obtain ⟨u, hu, hue, hadj⟩ := link_node V hv hi
  unfold graph_Back.f
  simp only [node_true V hv, Option.bind_some, if_true, if_neg (show ¬ (i : Int) < 0 by omega), if_pos (show 0 ≤ (v : Int) by omega), if_pos (show (v : Int) < (P.length : Int) by omega), rdR_prt, decide_eq_false (show ¬ (i : Int) ≥ ((prt P v).length : Int) by omega)]
  refine Ev.step (fun k => by rw [graph_Back.j0]) ?_
  simp only [Bool.false_eq_true, if_false, if_pos (show 0 ≤ (v : Int) by omega), if_pos (show (v : Int) < (P.length : Int) by omega), if_pos (show 0 ≤ (i : Int) by omega), rdR_prt, rdT_lk, if_pos (show (i : Int) < ((prt P v).length : Int) by omega), hue, if_pos (show 0 ≤ (u : Int) by omega), if_pos (show (u : Int) < (P.length : Int) by omega), Int.toNat_natCast]
  exact back_l0 v (prt P u) (by have := links_len V u; unfold Big; omega) _ 0 (Nat.zero_add _) (fun j h => absurd h (Nat.not_lt_zero _))
theorem back_out {v i : Int} (h : ¬ (ValidG ids P ∧ 0 ≤ v ∧ v < P.length ∧ 0 ≤ i ∧ i < (prt P v.toNat).length)) : Ev (fun k => graph_Back.f k ids P v i) (-1) := by
  have hj : Ev (fun k => graph_Back.j0 k v i true ids P) (-1) := by
    refine Ev.step (fun k => by rw [graph_Back.j0]) ?_
    simp only [if_true]
    exact Ev.now _
  unfold graph_Back.f
  by_cases h1 : ValidG ids P ∧ 0 ≤ v ∧ v < P.length
  · obtain ⟨V, h0, h1⟩ := h1
    have e : v = ((v.toNat : Nat) : Int) := by omega
    have hn := node_true V (a := v.toNat) (by omega)
    rw [← e] at hn
    simp only [hn, Option.bind_some, if_true]
    by_cases h2 : i < 0
    · simp only [if_pos h2]
      exact hj
    · have h3 : i ≥ ((rd_L2 P v).length : Int) := by
        rw [e, rdR_prt]
        by_cases h4 : i < ((prt P v.toNat).length : Int)
        · exact absurd ⟨V, h0, h1, by omega, h4⟩ h
        · omega
      simp only [if_neg h2, if_pos h0, if_pos h1, decide_eq_true h3]
      exact hj
  · simp only [node_false h1, Option.bind_some, Bool.false_eq_true, if_false]
    exact hj
/-- The port back, in a valid graph. -/
theorem port_back (V : ValidG ids P) {v i u : Nat} (hv : v < P.length) (hi : i < (prt P v).length) (hu : (lk (prt P v) i).f0 = (u : Int)) :
    ∃ j : Nat, portOf (prt P u) (v : Int) = (j : Int) ∧ j < (prt P u).length ∧ (lk (prt P u) j).f0 = (v : Int) ∧ portOf (prt P v) (u : Int) = (i : Int) := by
  obtain ⟨e', he', h1, _⟩ := V.2.2.2.2.2 v hv _ (lk_mem (prt P v) i hi)
  rw [hu, Int.toNat_natCast] at he'
  obtain ⟨j0, hj0, e⟩ := List.getElem_of_mem he'
  rcases portOf_cases (prt P u) (v : Int) with ⟨h2, h3⟩ | ⟨j, h2, h3, h4, h5⟩
  · exact absurd (by rw [lk_eq _ j0 hj0, e, h1]) (h3 j0 hj0)
  · refine ⟨j, h2, h3, h4, portOf_some hi hu fun k hk => ?_⟩
    rw [← hu]
    exact nodup_lk (V.2.2.2.2.1 v hv) hk hi
end
end Go.Proofs.Ytbpolpagcaacoaa.P
