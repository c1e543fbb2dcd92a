/- GraphIndependentParts, the plain law. -/
import Derived.Test.YtbpolpagcaacoaaSGraphIndependentParts
import Derived.Test.YtbpolpagcaacoaaMSets
namespace Go.Proofs.Ytbpolpagcaacoaa.P
open Go.RowKit Go.Proofs.YtbpolpagcaacoaaW.PrintWords Go.Proofs.YtbpolpagcaacoaaW.PrintMore
set_option linter.unusedVariables false
variable {ids : List Int} {P : List (List Lk)}
/-- Some link of the first v nodes, or of the first i ports of node v, has both ends in the set. -/
def hit (P : List (List Lk)) (m : Int) (v i : Nat) : Prop := (∃ w u, w < v ∧ bit m w = true ∧ adjB P w u = true ∧ bit m u = true) ∨ bit m v = true ∧ ∃ j, j < i ∧ bit m (lk (prt P v) j).f0.toNat = true
theorem hit_next {m : Int} (V : ValidG ids P) {v : Nat} (hv : v < P.length) : hit P m v (prt P v).length ↔ hit P m (v + 1) 0 := by
  unfold hit
  constructor
  · rintro (⟨w, u, h1, h2⟩ | ⟨h1, j, h2, h3⟩)
    · exact .inl ⟨w, u, by omega, h2⟩
    · obtain ⟨u, hu, hue, hadj⟩ := link_node V hv h2
      rw [hue, Int.toNat_natCast] at h3
      exact .inl ⟨v, u, by omega, h1, hadj, h3⟩
  · rintro (⟨w, u, h1, h2, h3, h4⟩ | ⟨_, j, h2, _⟩)
    · by_cases e : w = v
      · subst e
        obtain ⟨e, he, hef⟩ := adjB_iff.1 h3
        obtain ⟨j, hj, hje⟩ := List.getElem_of_mem he
        exact .inr ⟨h2, j, hj, by rw [lk_eq _ j hj, hje, hef, Int.toNat_natCast]; exact h4⟩
      · exact .inl ⟨w, u, by omega, h2, h3, h4⟩
    · omega
theorem ip_l1 (V : ValidG ids P) {m : Int} (hm : M32 m) (x : Bool) {v : Nat} (hv : v < P.length) (hr : ∀ b : Bool, (b = true ↔ hit P m (v + 1) 0) → Ev (fun k => selfstablaw01_GraphIndependentParts.l0 k m x b ((v + 1 : Nat) : Int) ids P) true) :
    ∀ (d i : Nat) (b : Bool), i + d = (prt P v).length → (b = true ↔ hit P m v i) → Ev (fun k => selfstablaw01_GraphIndependentParts.l1 k m x b (v : Int) (i : Int) ids P) true := by
  have hn := V.2.1
  have hll := links_len V v
  intro d
  induction d with
  | zero =>
    intro i b hi hb
    obtain rfl : i = (prt P v).length := by omega
    refine Ev.step (fun k => by rw [selfstablaw01_GraphIndependentParts.l1]) ?_
    simp only [if_pos (show 0 ≤ (v : Int) by omega), if_pos (show (v : Int) < (P.length : Int) by omega), rdR_prt, if_neg (show ¬ ((prt P v).length : Int) < ((prt P v).length : Int) by omega), wrap_nat v (by omega)]
    exact hr b (hb.trans (hit_next V hv))
  | succ d ih =>
    intro i b hi hb
    obtain ⟨u, hu, hue, hadj⟩ := link_node V hv (j := i) (by omega)
    have hstep : hit P m v (i + 1) ↔ hit P m v i ∨ (bit m v = true ∧ bit m u = true) := by
      unfold hit
      constructor
      · rintro (h | ⟨h1, j, h2, h3⟩)
        · exact .inl (.inl h)
        · by_cases e : j = i
          · subst e
            rw [hue, Int.toNat_natCast] at h3
            exact .inr ⟨h1, h3⟩
          · exact .inl (.inr ⟨h1, j, by omega, h3⟩)
      · rintro ((h | ⟨h1, j, h2, h3⟩) | ⟨h1, h2⟩)
        · exact .inl h
        · exact .inr ⟨h1, j, by omega, h3⟩
        · exact .inr ⟨h1, i, by omega, by rw [hue, Int.toNat_natCast]; exact h2⟩
    refine Ev.step (fun k => by rw [selfstablaw01_GraphIndependentParts.l1]) ?_
    simp only [if_pos (show 0 ≤ (v : Int) by omega), if_pos (show (v : Int) < (P.length : Int) by omega), rdR_prt, if_pos (show (i : Int) < ((prt P v).length : Int) by omega), wrap_nat i (by omega), has_eq hm, Option.bind_some, if_pos (show 0 ≤ (i : Int) by omega), rdT_lk, hue]
    cases b with
    | true =>
      simp only [if_true]
      exact ih (i + 1) true (by omega) ⟨fun _ => hstep.2 (.inl (hb.1 rfl)), fun _ => rfl⟩
    | false =>
      have hnot : ¬ hit P m v i := fun h => absurd (hb.2 h) (by simp)
      simp only [Bool.false_eq_true, if_false]
      cases hbv : bit m v with
      | true =>
        simp only [if_true]
        refine ih (i + 1) _ (by omega) ?_
        rw [hstep]
        exact ⟨fun h => .inr ⟨hbv, h⟩, fun h => h.elim (fun h => absurd h hnot) (fun h => h.2)⟩
      | false =>
        simp only [Bool.false_eq_true, if_false]
        refine ih (i + 1) _ (by omega) ?_
        rw [hstep]
        exact ⟨nofun, fun h => h.elim (fun h => absurd h hnot) (fun h => by rw [hbv] at h; exact absurd h.1 (by simp))⟩
theorem ip_l0 (V : ValidG ids P) {m : Int} (hm : M32 m) (x : Bool) (hx : x = true ↔ ¬ hit P m P.length 0) : ∀ (d v : Nat) (b : Bool), v + d = P.length → (b = true ↔ hit P m v 0) → Ev (fun k => selfstablaw01_GraphIndependentParts.l0 k m x b (v : Int) ids P) true := by
  intro d
  induction d with
  | zero =>
    intro v b hv hb
    obtain rfl : v = P.length := by omega
    refine Ev.step (fun k => by rw [selfstablaw01_GraphIndependentParts.l0]) ?_
    simp only [if_neg (show ¬ (P.length : Int) < (P.length : Int) by omega)]
    refine Ev.bind awake_ev ?_
    simp only [if_true]
    have e : (x == !b) = true := by
      cases b with
      | true =>
        have := hb.1 rfl
        cases x with
        | true => exact absurd this (hx.1 rfl)
        | false => rfl
      | false =>
        have : ¬ hit P m P.length 0 := fun h => absurd (hb.2 h) (by simp)
        rw [hx.2 this]; rfl
    rw [e]
    exact Ev.now _
  | succ d ih =>
    intro v b hv hb
    refine Ev.step (fun k => by rw [selfstablaw01_GraphIndependentParts.l0]) ?_
    simp only [if_pos (show (v : Int) < (P.length : Int) by omega)]
    exact ip_l1 V hm x (by omega) (fun b hb => ih (v + 1) b (by omega) hb) _ 0 b (Nat.zero_add _) hb
theorem Pure_GraphIndependentParts : selfstablaw01_GraphIndependentParts.Pure := by
  intro x m q _ hm' hq'
  have hm := M32_of hm'
  have hq := M32_of hq'
  refine Ev.rounds ?_
  unfold selfstablaw01_GraphIndependentParts.f
  obtain ⟨t, hb, hiff⟩ := fair_ev x.f0 x.f1
  refine Ev.bind hb ?_
  cases t with
  | false =>
    simp only [Bool.false_eq_true, if_false]
    refine Ev.bind awake_ev ?_
    exact Ev.now _
  | true =>
    obtain ⟨hL, V⟩ := hiff.1 rfl
    simp only [if_true]
    obtain ⟨r, hr, hrm, hrb⟩ := all_ev x.f1.length (by have := V.2.1; omega)
    refine Ev.bind hr ?_
    have hA := M32_and hm hrm
    have hB := M32_and hA.1 hq
    obtain ⟨b, hbe, hbi⟩ := indep_ev (ids := x.f0) (P := x.f1) hA.1
    refine Ev.bind hbe ?_
    have hin : ∀ j, bit (Go.bits .and .u32 m r) j = true → j < x.f1.length := fun j hj => by
      rw [hA.2, Bool.and_eq_true, hrb, decide_eq_true_iff] at hj
      exact hj.2
    have hl : b = true ↔ ¬ hit x.f1 (Go.bits .and .u32 m r) x.f1.length 0 := by
      rw [hbi]
      constructor
      · rintro h (⟨w, u, h1, h2, h3, h4⟩ | ⟨_, j, hj, _⟩)
        · rw [h.2.2 w u h2 h4] at h3; cases h3
        · omega
      · intro h
        refine ⟨V, hin, fun v u h1 h2 => ?_⟩
        cases h3 : adjB x.f1 v u
        · rfl
        · exact absurd (.inl ⟨v, u, hin v h1, h1, h3, h2⟩) h
    have hgo : Ev (fun k => selfstablaw01_GraphIndependentParts.j0 k (Go.bits .and .u32 m r) b false x.f0 x.f1) true := by
      refine Ev.step (fun k => by rw [selfstablaw01_GraphIndependentParts.j0]) ?_
      simp only [Bool.false_eq_true, if_false]
      refine ip_l0 V hA.1 b hl _ 0 false (Nat.zero_add _) ⟨nofun, ?_⟩
      rintro (⟨w, u, h1, _⟩ | ⟨_, j, hj, _⟩) <;> omega
    cases b with
    | false =>
      simp only [Bool.false_eq_true, if_false]
      exact hgo
    | true =>
      have hI := (hbi.1 rfl).2
      simp only [if_true]
      obtain ⟨c, hce, hci⟩ := indep_ev (ids := x.f0) (P := x.f1) hB.1
      have hc : c = true := hci.2 ⟨V, fun j hj => by
        rw [hB.2, Bool.and_eq_true] at hj
        exact hI.1 j hj.1, fun v u h1 h2 => by
        rw [hB.2, Bool.and_eq_true] at h1 h2
        exact hI.2 v u h1.1 h2.1⟩
      subst hc
      refine Ev.bind hce ?_
      exact hgo
end Go.Proofs.Ytbpolpagcaacoaa.P
