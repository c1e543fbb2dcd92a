/- GraphDistancesAreSteps, the plain law. -/
import Derived.Test.YtbpolpagcaacoaaSGraphDistancesAreSteps
import Derived.Test.YtbpolpagcaacoaaMGraph2
namespace Go.Proofs.Ytbpolpagcaacoaa.P
open Go.RowKit Go.Proofs.YtbpolpagcaacoaaW.PrintWords Go.Proofs.YtbpolpagcaacoaaW.PrintMore
set_option linter.unusedVariables false
variable {ids : List Int} {P : List (List Lk)}
theorem st_l1 (V : ValidG ids P) {a v : Nat} (ha : a < P.length) (hv : v < P.length) (hr : Ev (fun k => selfstablaw01_GraphDistancesAreSteps.l0 k (a : Int) (dlist P a) ((v + 1 : Nat) : Int) ids P) true) :
    ∀ (d j : Nat) (b : Bool), j + d = (prt P v).length → (b = true ↔ ∃ i, i < j ∧ rd (dlist P a) (lk (prt P v) i).f0 = dst P.length (adjB P) a v - 1) →
    Ev (fun k => selfstablaw01_GraphDistancesAreSteps.l1 k (a : Int) (dlist P a) (v : Int) b (j : Int) ids P) true := by
  have hn := V.2.1
  have hlt := dst_lt ha (adj_lt V) v
  have hge := dst_ge (n := P.length) (adj := adjB P) a v
  have hlen := dlist_len (P := P) a
  have hll := links_len V v
  intro d
  induction d with
  | zero =>
    intro j b hj hb
    refine Ev.step (fun k => by rw [selfstablaw01_GraphDistancesAreSteps.l1]) ?_
    simp only [if_pos (show 0 ≤ (v : Int) by omega), if_pos (show (v : Int) < (P.length : Int) by omega), rdR_prt, if_neg (show ¬ (j : Int) < ((prt P v).length : Int) by omega), hlen, rd_dlist a hv, wrap_nat v (by omega)]
    by_cases h0 : dst P.length (adjB P) a v > 0
    · have hbt : b = true := by
        obtain ⟨u, hu, hadj, hd⟩ := dst_nearer ha (adj_lt V) h0
        obtain ⟨e, he, hef⟩ := adjB_iff.1 (adj_sym V u v hu hadj)
        obtain ⟨i, hi, hie⟩ := List.getElem_of_mem he
        refine hb.2 ⟨i, by omega, ?_⟩
        rw [lk_eq _ i hi, hie, hef, rd_dlist a hu, hd]
      simp only [if_pos h0, if_pos hbt]
      exact hr
    · simp only [if_neg h0]
      exact hr
  | succ d ih =>
    intro j b hj hb
    obtain ⟨u, hu, hue, hadj⟩ := link_node V hv (j := j) (by omega)
    have hltu := dst_lt ha (adj_lt V) u
    have hgeu := dst_ge (n := P.length) (adj := adjB P) a u
    have h1 := dst_link ha (adj_lt V) hv hadj
    have h2 := dst_link ha (adj_lt V) hu (adj_sym V v u hv hadj)
    refine Ev.step (fun k => by rw [selfstablaw01_GraphDistancesAreSteps.l1]) ?_
    have hne : ((decide (dst P.length (adjB P) a u < 0)) != (decide (dst P.length (adjB P) a v < 0))) = false := by
      by_cases hx : dst P.length (adjB P) a u < 0 <;> by_cases hy : dst P.length (adjB P) a v < 0 <;> simp [hx, hy] <;> omega
    simp only [if_pos (show 0 ≤ (v : Int) by omega), if_pos (show (v : Int) < (P.length : Int) by omega), rdR_prt, rdT_lk, if_pos (show (j : Int) < ((prt P v).length : Int) by omega), if_pos (show 0 ≤ (j : Int) by omega), hlen, rd_dlist a hv, hue, rd_dlist a hu, if_pos (show 0 ≤ (u : Int) by omega), if_pos (show (u : Int) < (P.length : Int) by omega), hne, Bool.false_eq_true, if_false, wrap_nat j (by omega)]
    rw [wrap_id (dst P.length (adjB P) a u - dst P.length (adjB P) a v) (by omega) (by omega), wrap_id (dst P.length (adjB P) a v - dst P.length (adjB P) a u) (by omega) (by omega), wrap_id (dst P.length (adjB P) a v - 1) (by omega) (by omega)]
    simp only [if_neg (show ¬ dst P.length (adjB P) a u - dst P.length (adjB P) a v > 1 by omega), if_neg (show ¬ dst P.length (adjB P) a v - dst P.length (adjB P) a u > 1 by omega)]
    cases b with
    | true =>
      simp only [if_true]
      refine ih (j + 1) true (by omega) ⟨fun _ => ?_, fun _ => rfl⟩
      obtain ⟨i, hi, he⟩ := hb.1 rfl
      exact ⟨i, by omega, he⟩
    | false =>
      simp only [Bool.false_eq_true, if_false]
      refine ih (j + 1) _ (by omega) ?_
      rw [beq_iff_eq]
      constructor
      · intro h
        exact ⟨j, by omega, by rw [hue, rd_dlist a hu, h]⟩
      · rintro ⟨i, hi, he⟩
        by_cases hij : i = j
        · subst hij
          rw [hue, rd_dlist a hu] at he
          exact he
        · exact absurd (hb.2 ⟨i, by omega, he⟩) (by simp)
theorem st_l0 (V : ValidG ids P) {a : Nat} (ha : a < P.length) :
    ∀ d v : Nat, v + d = P.length → Ev (fun k => selfstablaw01_GraphDistancesAreSteps.l0 k (a : Int) (dlist P a) (v : Int) ids P) true := by
  have hlen := dlist_len (P := P) a
  intro d
  induction d with
  | zero =>
    intro v hv
    refine Ev.step (fun k => by rw [selfstablaw01_GraphDistancesAreSteps.l0]) ?_
    simp only [hlen, if_neg (show ¬ (v : Int) < (P.length : Int) by omega)]
    refine Ev.bind awake_ev ?_
    exact Ev.now _
  | succ d ih =>
    intro v hv
    have hge := dst_ge (n := P.length) (adj := adjB P) a v
    refine Ev.step (fun k => by rw [selfstablaw01_GraphDistancesAreSteps.l0]) ?_
    have hz : ((dst P.length (adjB P) a v == 0) != ((v : Int) == (a : Int))) = false := by
      have := dst_self ha (adj_lt V) (v := v)
      by_cases hx : v = a
      · rw [this.2 hx, hx]; simp
      · have h1 : ¬ dst P.length (adjB P) a v = 0 := fun h => hx (this.1 h)
        have h2 : ¬ (v : Int) = (a : Int) := by omega
        rw [beq_eq_false_iff_ne.2 h1, beq_eq_false_iff_ne.2 h2]; rfl
    simp only [hlen, if_pos (show (v : Int) < (P.length : Int) by omega), if_pos (show 0 ≤ (v : Int) by omega), rd_dlist a (show v < P.length by omega), if_neg (show ¬ dst P.length (adjB P) a v < -1 by omega), hz]
    refine Ev.step (fun k => by rw [selfstablaw01_GraphDistancesAreSteps.j1]) ?_
    simp only [Bool.false_eq_true, if_false]
    exact st_l1 V ha (by omega) (ih (v + 1) (by omega)) _ 0 false (Nat.zero_add _) (by simp)
theorem Pure_GraphDistancesAreSteps : selfstablaw01_GraphDistancesAreSteps.Pure := by
  intro x a _ _
  refine Ev.rounds ?_
  unfold selfstablaw01_GraphDistancesAreSteps.f
  obtain ⟨b, hb, hiff⟩ := fair_ev x.f0 x.f1
  refine Ev.bind hb ?_
  cases b with
  | false =>
    simp only [Bool.false_eq_true, if_false]
    refine Ev.bind awake_ev ?_
    exact Ev.now _
  | true =>
    obtain ⟨hL, V⟩ := hiff.1 rfl
    obtain ⟨v, hv, hm⟩ := mod_eq a x.f1.length V.1 (by have := V.2.1; unfold Big; omega)
    simp only [if_true, hm, Option.bind_some]
    refine Ev.bind (dist_ev V hv) ?_
    simp only [dlist_len, if_true]
    exact st_l0 V hv _ 0 (Nat.zero_add _)
end Go.Proofs.Ytbpolpagcaacoaa.P
