/- The reference's Degree, Back, Neighbours and Independent. -/
import Derived.Test.YtbpolpagcaacoaaMSets
import Derived.Test.YtbpolpagcaacoaaP14
import Derived.Test.YtbpolpagcaacoaaP14
import Derived.Test.YtbpolpagcaacoaaP14
import Derived.Test.YtbpolpagcaacoaaP14
namespace Go.Proofs.Ytbpolpagcaacoaa.P
open Go.RowKit Go.Proofs.YtbpolpagcaacoaaW.PrintWords Go.Proofs.YtbpolpagcaacoaaW.PrintMore
set_option linter.unusedVariables false
section
variable {ids : List Int} {P : List (List Lk)}
theorem in_below (n : Nat) (h1 : n < Big) (a : Int) : selfstabref01_In.f a 0 (wrap64 ((n : Int) - 1)) = some (decide (0 ≤ a ∧ a < n)) := by
  unfold Big at h1
  rw [in_eq, wrap_id _ (by omega) (by omega)]
  congr 1
  exact decide_eq_decide.2 (by omega)
/-- Degree at any argument. -/
def degG (ids : List Int) (P : List (List Lk)) (a : Int) : Int := if validB ids P = true ∧ 0 ≤ a ∧ a < P.length then ((prt P a.toNat).length : Int) else 0
theorem deg_all (a : Int) : graph_Degree.f ids P a = some (degG ids P a) := by
  unfold degG
  by_cases h : ValidG ids P ∧ 0 ≤ a ∧ a < P.length
  · obtain ⟨V, h0, h1⟩ := h
    have e : a = ((a.toNat : Nat) : Int) := by omega
    rw [if_pos ⟨validB_true V, h0, h1⟩]
    have := degree_eq V (a := a.toNat) (by omega)
    rw [← e] at this
    exact this
  · rw [if_neg (fun hh => h ⟨validB_iff.1 hh.1, hh.2⟩)]
    exact degree_none h
theorem refDeg_ev (hb : ∀ v, (prt P v).length < Big) (a : Int) : Ev (fun k => selfstabref01_Degree.f k ids P a) (degG ids P a) := by
  unfold selfstabref01_Degree.f degG
  refine Ev.bind (refValid_ev ids P hb) ?_
  by_cases h : validB ids P = true
  · have V := validB_iff.1 h
    have hn := V.2.1
    simp only [h, if_true, in_below P.length (by unfold Big; omega), Option.bind_some, true_and]
    by_cases h2 : 0 ≤ a ∧ a < (P.length : Int)
    · have e : a = ((a.toNat : Nat) : Int) := by omega
      simp only [if_pos h2, decide_eq_true h2, if_pos h2.1, if_pos h2.2, if_true]
      rw [e, rdR_prt]
      exact Ev.now _
    · simp only [if_neg h2, decide_eq_false h2, Bool.false_eq_true, if_false]
      exact Ev.now _
  · simp only [if_neg h]
    rw [if_neg (fun hh => h hh.1)]
    exact Ev.now _
/-- Back at any argument: the program and the reference answer the same. -/
theorem refBack_ev (hb : ∀ v, (prt P v).length < Big) (v i : Int) : ∃ r, Ev (fun k => graph_Back.f k ids P v i) r ∧ Ev (fun k => selfstabref01_Back.f k ids P v i) r := by
  unfold selfstabref01_Back.f
  by_cases h : ValidG ids P ∧ 0 ≤ v ∧ v < P.length ∧ 0 ≤ i ∧ i < (prt P v.toNat).length
  · obtain ⟨V, h0, h1, h2, h3⟩ := h
    have ev : v = ((v.toNat : Nat) : Int) := by omega
    have ei : i = ((i.toNat : Nat) : Int) := by omega
    generalize v.toNat = v' at *
    generalize i.toNat = i' at *
    subst ev ei
    have hv : v' < P.length := by omega
    have hi : i' < (prt P v').length := by omega
    obtain ⟨u, hu, hue, hadj⟩ := link_node V hv hi
    have hbk := back_in V hv hi
    rw [hue, Int.toNat_natCast] at hbk
    refine ⟨_, hbk, ?_⟩
    refine Ev.bind (refDeg_ev hb _) ?_
    have hd : degG ids P (v' : Int) = ((prt P v').length : Int) := by
      unfold degG
      rw [if_pos ⟨validB_true V, h0, h1⟩, Int.toNat_natCast]
    simp only [hd, in_below _ (hb v'), Option.bind_some, decide_eq_true (show 0 ≤ (i' : Int) ∧ (i' : Int) < ((prt P v').length : Int) by omega), if_true, if_pos h0, if_pos h1, if_pos h2, rdR_prt, if_pos (show (i' : Int) < ((prt P v').length : Int) by omega), rdT_lk, hue]
    refine Ev.bind (port_ev ids P u (v' : Int) hu (hb u)) ?_
    exact Ev.now _
  · refine ⟨_, back_out h, ?_⟩
    refine Ev.bind (refDeg_ev hb _) ?_
    have hd : selfstabref01_In.f i 0 (wrap64 (degG ids P v - 1)) = some false := by
      unfold degG
      by_cases h2 : validB ids P = true ∧ 0 ≤ v ∧ v < P.length
      · rw [if_pos h2, in_below _ (hb _), decide_eq_false (fun hh => h ⟨validB_iff.1 h2.1, h2.2.1, h2.2.2, hh.1, by omega⟩)]
      · rw [if_neg h2, in_eq, decide_eq_false]
        rw [wrap_id _ (by omega) (by omega)]
        omega
    simp only [hd, Option.bind_some, Bool.false_eq_true, if_false]
    exact Ev.now _
theorem rn_l1 (V : ValidG ids P) {m : Int} (hm : M32 m) {v : Nat} (hv : v < P.length) {Q : Int → Prop} (hr : ∀ x, M32 x → (∀ j, bit x j = true ↔ j < v + 1 ∧ nb P m j) → ∃ r, Ev (fun k => selfstabref01_Neighbours.l0 k m x ((v + 1 : Nat) : Int) ids P) r ∧ Q r) :
    ∀ (d i : Nat) (x : Int), i + d = (prt P v).length → M32 x → (∀ j, bit x j = true ↔ (j < v ∧ nb P m j) ∨ (j = v ∧ ∃ p, p < i ∧ bit m (lk (prt P v) p).f0.toNat = true)) →
    ∃ r, Ev (fun k => selfstabref01_Neighbours.l1 k m x (v : Int) (i : Int) ids P) r ∧ Q r := by
  have hn := V.2.1
  have hll := links_len V v
  intro d
  induction d with
  | zero =>
    intro i x hi hx hb
    obtain ⟨r, h1, h2⟩ := hr x hx (fun j => by
      rw [hb]
      constructor
      · rintro (⟨h1, h2⟩ | ⟨rfl, p, h1, h2⟩)
        · exact ⟨by omega, h2⟩
        · obtain ⟨u, hu, hue, hadj⟩ := link_node V hv (j := p) (by omega)
          rw [hue, Int.toNat_natCast] at h2
          exact ⟨by omega, u, hadj, h2⟩
      · rintro ⟨h1, u, h2, h3⟩
        by_cases e : j = v
        · subst e
          obtain ⟨e, he, hef⟩ := adjB_iff.1 h2
          obtain ⟨p, hp, hpe⟩ := List.getElem_of_mem he
          exact .inr ⟨rfl, p, by omega, by rw [lk_eq _ p hp, hpe, hef, Int.toNat_natCast]; exact h3⟩
        · exact .inl ⟨by omega, u, h2, h3⟩)
    refine ⟨r, Ev.step (fun k => by rw [selfstabref01_Neighbours.l1]) ?_, h2⟩
    simp only [if_pos (show 0 ≤ (v : Int) by omega), if_pos (show (v : Int) < (P.length : Int) by omega), rdR_prt, if_neg (show ¬ (i : Int) < ((prt P v).length : Int) by omega), wrap_nat v (by omega)]
    exact h1
  | succ d ih =>
    intro i x hi hx hb
    obtain ⟨u, hu, hue, hadj⟩ := link_node V hv (j := i) (by omega)
    by_cases h : bit m u = true
    · have hs := M32_shl (v := v) (by omega)
      have ho := M32_or hx hs.1
      obtain ⟨r, h1, h2⟩ := ih (i + 1) _ (by omega) ho.1 (fun j => by
        rw [ho.2, hs.2, Bool.or_eq_true, hb, decide_eq_true_iff]
        constructor
        · rintro ((h1 | ⟨h1, p, h2, h3⟩) | rfl)
          · exact .inl h1
          · exact .inr ⟨h1, p, by omega, h3⟩
          · exact .inr ⟨rfl, i, by omega, by rw [hue, Int.toNat_natCast]; exact h⟩
        · rintro (h1 | ⟨h1, _⟩)
          · exact .inl (.inl h1)
          · exact .inr h1)
      refine ⟨r, Ev.step (fun k => by rw [selfstabref01_Neighbours.l1]) ?_, h2⟩
      simp only [if_pos (show 0 ≤ (v : Int) by omega), if_pos (show (v : Int) < (P.length : Int) by omega), rdR_prt, if_pos (show (i : Int) < ((prt P v).length : Int) by omega), if_pos (show 0 ≤ (i : Int) by omega), rdT_lk, hue, has_eq hm, Option.bind_some, h, if_true, u64_nat v (by omega), wrap_nat i (by omega)]
      exact h1
    · obtain ⟨r, h1, h2⟩ := ih (i + 1) x (by omega) hx (fun j => by
        rw [hb]
        constructor
        · rintro (h1 | ⟨h1, p, h2, h3⟩)
          · exact .inl h1
          · exact .inr ⟨h1, p, by omega, h3⟩
        · rintro (h1 | ⟨h1, p, h2, h3⟩)
          · exact .inl h1
          · refine .inr ⟨h1, p, ?_, h3⟩
            by_cases e : p = i
            · subst e
              rw [hue, Int.toNat_natCast] at h3
              exact absurd h3 h
            · omega)
      refine ⟨r, Ev.step (fun k => by rw [selfstabref01_Neighbours.l1]) ?_, h2⟩
      simp only [if_pos (show 0 ≤ (v : Int) by omega), if_pos (show (v : Int) < (P.length : Int) by omega), rdR_prt, if_pos (show (i : Int) < ((prt P v).length : Int) by omega), if_pos (show 0 ≤ (i : Int) by omega), rdT_lk, hue, has_eq hm, Option.bind_some, if_neg h, wrap_nat i (by omega)]
      exact h1
theorem rn_l0 (V : ValidG ids P) {m : Int} (hm : M32 m) : ∀ (d v : Nat) (x : Int), v + d = P.length → M32 x → (∀ j, bit x j = true ↔ j < v ∧ nb P m j) →
    ∃ r, Ev (fun k => selfstabref01_Neighbours.l0 k m x (v : Int) ids P) r ∧ (M32 r ∧ ∀ j, bit r j = true ↔ j < P.length ∧ nb P m j) := by
  intro d
  induction d with
  | zero =>
    intro v x hv hx hb
    obtain rfl : v = P.length := by omega
    refine ⟨x, Ev.step (fun k => by rw [selfstabref01_Neighbours.l0]) ?_, hx, hb⟩
    simp only [if_neg (show ¬ (P.length : Int) < (P.length : Int) by omega)]
    exact Ev.now _
  | succ d ih =>
    intro v x hv hx hb
    obtain ⟨r, h1, h2⟩ := rn_l1 V hm (show v < P.length by omega) (fun x hx hb => ih (v + 1) x (by omega) hx hb) _ 0 x (Nat.zero_add _) hx (fun j => by
      rw [hb]
      exact ⟨fun h => .inl h, fun h => h.elim id (fun h => by obtain ⟨_, p, hp, _⟩ := h; omega)⟩)
    refine ⟨r, Ev.step (fun k => by rw [selfstabref01_Neighbours.l0]) ?_, h2⟩
    simp only [if_pos (show (v : Int) < (P.length : Int) by omega)]
    exact h1
/-- Neighbours: the program and the reference answer the same. -/
theorem refNe_ev (hb : ∀ v, (prt P v).length < Big) {m : Int} (hm : M32 m) : ∃ r, Ev (fun k => graph_Neighbours.f k ids P m) r ∧ Ev (fun k => selfstabref01_Neighbours.f k ids P m) r ∧ M32 r ∧ (ValidG ids P → ∀ j, bit r j = true ↔ j < P.length ∧ nb P m j) := by
  unfold selfstabref01_Neighbours.f
  by_cases V : ValidG ids P
  · obtain ⟨r, h1, h2, h3⟩ := ne_ev V hm
    obtain ⟨s, k1, k2, k3⟩ := rn_l0 V hm _ 0 0 (Nat.zero_add _) M32_zero.1 (fun j => by rw [M32_zero.2]; simp)
    have e : s = r := M32_ext k2 h2 fun v hv => by
      rw [Bool.eq_iff_iff, k3, h3]
    subst e
    refine ⟨s, h1, ?_, h2, fun _ => h3⟩
    refine Ev.bind (refValid_ev ids P hb) ?_
    simp only [validB_true V, if_true]
    exact k1
  · refine ⟨0, ne_none V, ?_, M32_zero.1, fun h => absurd h V⟩
    refine Ev.bind (refValid_ev ids P hb) ?_
    simp only [validB_false V, Bool.false_eq_true, if_false]
    exact Ev.now _
theorem refIndep_ev (hb : ∀ v, (prt P v).length < Big) {m : Int} (hm : M32 m) : ∃ b, Ev (fun k => graph_Independent.f k ids P m) b ∧ Ev (fun k => selfstabref01_Independent.f k ids P m) b := by
  obtain ⟨b, h1, h2⟩ := indep_ev (ids := ids) (P := P) hm
  refine ⟨b, h1, ?_⟩
  unfold selfstabref01_Independent.f
  refine Ev.bind (refValid_ev ids P hb) ?_
  by_cases V : ValidG ids P
  · simp only [validB_true V, if_true]
    obtain ⟨r, hr, hrm, hrb⟩ := all_ev P.length (by have := V.2.1; omega)
    refine Ev.bind hr ?_
    have hA := M32_andNot hm hrm
    have hin : Go.bits .andNot .u32 m r = 0 ↔ ∀ j, bit m j = true → j < P.length := by
      rw [M32_eq_zero hA.1]
      constructor
      · intro h j hj
        have hl : j < 32 := by
          rcases Nat.lt_or_ge j 32 with h2 | h2
          · exact h2
          · rw [bit_big hm h2] at hj; cases hj
        have := h j hl
        rw [hA.2, hj, hrb] at this
        simpa using this
      · intro h j hj
        rw [hA.2, hrb]
        cases hm2 : bit m j
        · rfl
        · rw [decide_eq_true (h j hm2)]; rfl
    by_cases h : Go.bits .andNot .u32 m r = 0
    · simp only [if_pos h]
      obtain ⟨s, k1, k2, k3, k4⟩ := refNe_ev (ids := ids) hb hm
      refine Ev.bind k2 ?_
      refine Ev_cast (Ev.now _) ?_
      rw [Bool.eq_iff_iff, h2, nb_none hm k3 (hin.1 h) (k4 V)]
      exact ⟨fun hh => ⟨V, hin.1 h, hh⟩, fun hh => hh.2.2⟩
    · simp only [if_neg h]
      have e : b = false := by
        cases b
        · rfl
        · exact absurd (hin.2 (h2.1 rfl).2.1) h
      rw [e]
      exact Ev.now _
  · simp only [validB_false V, Bool.false_eq_true, if_false]
    have e : b = false := by
      cases b
      · rfl
      · exact absurd (h2.1 rfl).1 V
    rw [e]
    exact Ev.now _
end
end Go.Proofs.Ytbpolpagcaacoaa.P
