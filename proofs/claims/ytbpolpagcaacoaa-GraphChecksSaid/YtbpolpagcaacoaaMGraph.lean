/- The program's distances are the distances: node, around, Distances. -/
import Derived.Test.YtbpolpagcaacoaaMValid
import Derived.Test.YtbpolpagcaacoaaMDist
import Derived.Test.YtbpolpagcaacoaaMBits
import Derived.Test.YtbpolpagcaacoaaP3
namespace Go.Proofs.Ytbpolpagcaacoaa.P
open Go.RowKit Go.Proofs.YtbpolpagcaacoaaW.PrintWords Go.Proofs.YtbpolpagcaacoaaW.PrintMore
set_option linter.unusedVariables false
/-- Does node u have a link to v? -/
def adjB (P : List (List Lk)) (u v : Nat) : Bool := (prt P u).any (fun e => e.f0 == (v : Int))
theorem adjB_iff {P : List (List Lk)} {u v : Nat} : adjB P u v = true ↔ ∃ e ∈ prt P u, e.f0 = (v : Int) := by simp [adjB]
section
variable {ids : List Int} {P : List (List Lk)}
theorem adj_lt (V : ValidG ids P) : ∀ u v, adjB P u v = true → v < P.length := by
  intro u v h
  obtain ⟨e, he, hv⟩ := adjB_iff.1 h
  by_cases hu : u < P.length
  · have := (V.2.2.2.2.1 u hu).1 e he; omega
  · rw [prt_big P u (by omega)] at he; simp at he
theorem adj_src {u v : Nat} (h : adjB P u v = true) : u < P.length := by
  obtain ⟨e, he, hv⟩ := adjB_iff.1 h
  by_cases hu : u < P.length
  · exact hu
  · rw [prt_big P u (by omega)] at he; simp at he
theorem adj_sym (V : ValidG ids P) : ∀ u v, u < P.length → adjB P u v = true → adjB P v u = true := by
  intro u v hu h
  obtain ⟨e, he, hv⟩ := adjB_iff.1 h
  obtain ⟨e', he', h1, _⟩ := V.2.2.2.2.2 u hu e he
  rw [hv, Int.toNat_natCast] at he'
  exact adjB_iff.2 ⟨e', he', h1⟩
theorem links_len (V : ValidG ids P) (v : Nat) : (prt P v).length ≤ 24 := by
  by_cases hv : v < P.length
  · exact Nat.le_trans (okLinks_le (V.2.2.2.2.1 v hv)) V.2.1
  · rw [prt_big P v (by omega)]; simp
/-- The distances from a node, as a list. -/
def dlist (P : List (List Lk)) (a : Nat) : List Int := (List.range P.length).map (dst P.length (adjB P) a)
theorem node_true (V : ValidG ids P) {a : Nat} (ha : a < P.length) : graph_node.f ids P (a : Int) = some true := by
  unfold graph_node.f graph_Valid.f
  rw [if_pos (by omega), if_pos (by omega), validB_true V]
  rfl
theorem node_false {a : Int} (h : ¬ (ValidG ids P ∧ 0 ≤ a ∧ a < P.length)) : graph_node.f ids P a = some false := by
  unfold graph_node.f graph_Valid.f
  by_cases h1 : a ≥ 0
  · rw [if_pos h1]
    by_cases h2 : a < (P.length : Int)
    · rw [if_pos h2, validB_false (fun V => h ⟨V, h1, h2⟩)]
      rfl
    · rw [if_neg h2]
  · rw [if_neg h1]
/-! ### around -/
theorem around_l0 (l : List Lk) (hl : l.length < Big) (hr : ∀ e ∈ l, 0 ≤ e.f0 ∧ e.f0 < 32) : ∀ (d i : Nat) (m : Int), i + d = l.length → M32 m →
    ∃ r, Ev (fun k => graph_around.l0 k m l (l.length : Int) (i : Int)) r ∧ M32 r ∧ ∀ j, bit r j = (bit m j || (l.drop i).any (fun e => e.f0 == (j : Int))) := by
  unfold Big at hl
  intro d
  induction d with
  | zero =>
    intro i m hi hm
    refine ⟨m, Ev.step (fun k => by rw [graph_around.l0]) ?_, hm, fun j => by rw [List.drop_of_length_le (by omega)]; simp⟩
    simp only [if_neg (show ¬ (i : Int) < (l.length : Int) by omega)]
    exact Ev.now _
  | succ d ih =>
    intro i m hi hm
    have hilt : i < l.length := by omega
    obtain ⟨t, ht⟩ : ∃ t : Nat, (lk l i).f0 = t := ⟨(lk l i).f0.toNat, by have := hr _ (lk_mem l i hilt); omega⟩
    have ht32 : t < 32 := by have := hr _ (lk_mem l i hilt); omega
    have hs := M32_shl ht32
    have ho := M32_or hm hs.1
    obtain ⟨r, hr', hrm, hrb⟩ := ih (i + 1) _ (by omega) ho.1
    refine ⟨r, Ev.step (fun k => by rw [graph_around.l0]) ?_, hrm, fun j => ?_⟩
    · simp only [if_pos (show (i : Int) < (l.length : Int) by omega), if_pos (show 0 ≤ (i : Int) by omega), rdT_lk, ht, if_pos (show 0 ≤ (t : Int) by omega), wrap_nat i (by omega)]
      exact hr'
    · rw [hrb, ho.2, hs.2, List.drop_eq_getElem_cons hilt, List.any_cons, ← lk_eq l i hilt, ht]
      by_cases e : j = t
      · simp [e]
      · have : ((t : Int) == (j : Int)) = false := by simp; omega
        simp [e, this]
theorem around_ev (V : ValidG ids P) {v : Nat} (hv : v < P.length) : ∃ r, Ev (fun k => graph_around.f k ids P (v : Int)) r ∧ M32 r ∧ ∀ j, bit r j = adjB P v j := by
  obtain ⟨r, h1, h2, h3⟩ := around_l0 (prt P v) (by have := links_len V v; unfold Big; omega) (fun e he => by have := (V.2.2.2.2.1 v hv).1 e he; have := V.2.1; omega) (prt P v).length 0 0 (by omega) M32_zero.1
  refine ⟨r, ?_, h2, fun j => by rw [h3, M32_zero.2]; simp [adjB]⟩
  unfold graph_around.f
  simp only [if_pos (show 0 ≤ (v : Int) by omega), if_pos (show (v : Int) < (P.length : Int) by omega), rdR_prt]
  exact h1
/-! ### Distances -/
/-- What is known of the distances after d rounds. -/
def fj (P : List (List Lk)) (a d j : Nat) : Int := if 0 ≤ dst P.length (adjB P) a j ∧ dst P.length (adjB P) a j < (d : Int) then dst P.length (adjB P) a j else -1
theorem fj_succ (V : ValidG ids P) {a : Nat} (ha : a < P.length) (d j : Nat) : (ex P.length (adjB P) a d j → fj P a (d + 1) j = d) ∧ (¬ ex P.length (adjB P) a d j → fj P a (d + 1) j = fj P a d j) := by
  rw [← dst_eq ha (adj_lt V)]
  unfold fj
  constructor
  · intro h
    rw [h, if_pos (by omega)]
  · intro h
    by_cases h1 : 0 ≤ dst P.length (adjB P) a j ∧ dst P.length (adjB P) a j < (d : Int)
    · rw [if_pos h1, if_pos (by omega)]
    · rw [if_neg h1, if_neg (by omega)]
theorem gd_l0 (ids : List Int) (P : List (List Lk)) (hn : P.length ≤ 24) (a : Nat) {r : List Int} (hr : Ev (fun k => graph_Distances.l1 k ((List.range P.length).map fun _ => (-1 : Int)) 0 0 (shl .u32 1 (a : Int)) ids P) r) : ∀ d i : Nat, i + d = P.length →
    Ev (fun k => graph_Distances.l0 k (a : Int) ((List.range P.length).map fun j => if j < i then (-1 : Int) else 0) (P.length : Int) (i : Int) ids P) r := by
  intro d
  induction d with
  | zero =>
    intro i hi
    refine Ev.step (fun k => by rw [graph_Distances.l0]) ?_
    simp only [if_neg (show ¬ (i : Int) < (P.length : Int) by omega), if_pos (show 0 ≤ (a : Int) by omega)]
    rw [map_congr_n (g := fun _ => (-1 : Int)) (fun j hj => if_pos (by omega))]
    exact hr
  | succ d ih =>
    intro i hi
    refine Ev.step (fun k => by rw [graph_Distances.l0]) ?_
    simp only [if_pos (show (i : Int) < (P.length : Int) by omega), if_pos (show 0 ≤ (i : Int) by omega), len_map, Int.toNat_natCast, set_map, wrap_nat i (by omega)]
    have e : (fun j => if j = i then (-1 : Int) else if j < i then -1 else 0) = fun j => if j < i + 1 then -1 else 0 := by
      funext j
      by_cases h1 : j = i
      · rw [if_pos h1, if_pos (by omega)]
      · rw [if_neg h1]
        by_cases h2 : j < i
        · rw [if_pos h2, if_pos (by omega)]
        · rw [if_neg h2, if_neg (by omega)]
    rw [e]
    exact ih (i + 1) (by omega)
theorem gd_l2 (V : ValidG ids P) {a : Nat} (ha : a < P.length) (d : Nat) (x7 x9 : Int) (hx9 : M32 x9) (h9 : ∀ j, bit x9 j = true ↔ ex P.length (adjB P) a d j) {r : List Int}
    (hr : ∀ nx, M32 nx → (∀ j, bit nx j = true ↔ ∃ u, u < P.length ∧ ex P.length (adjB P) a d u ∧ adjB P u j = true) → Ev (fun k => graph_Distances.l1 k ((List.range P.length).map (fj P a (d + 1))) x7 (wrap64 ((d : Int) + 1)) (Go.bits .andNot .u32 nx x7) ids P) r) :
    ∀ (c v : Nat) (nx : Int), v + c = P.length → M32 nx → (∀ j, bit nx j = true ↔ ∃ u, u < v ∧ ex P.length (adjB P) a d u ∧ adjB P u j = true) →
    Ev (fun k => graph_Distances.l2 k ((List.range P.length).map fun j => if j < v then fj P a (d + 1) j else fj P a d j) x7 (d : Int) x9 nx (P.length : Int) (v : Int) ids P) r := by
  have hn := V.2.1
  intro c
  induction c with
  | zero =>
    intro v nx hv hnx hb
    obtain rfl : v = P.length := by omega
    refine Ev.step (fun k => by rw [graph_Distances.l2]) ?_
    simp only [if_neg (show ¬ (P.length : Int) < (P.length : Int) by omega)]
    rw [map_congr_n (g := fj P a (d + 1)) (fun j hj => if_pos hj)]
    exact hr nx hnx hb
  | succ c ih =>
    intro v nx hv hnx hb
    have hvn : v < P.length := by omega
    by_cases hex : ex P.length (adjB P) a d v
    · obtain ⟨m, hm, hmm, hmb⟩ := around_ev V hvn
      have ho := M32_or hnx hmm
      refine Ev.step (fun k => by rw [graph_Distances.l2]) ?_
      simp only [if_pos (show (v : Int) < (P.length : Int) by omega), if_pos (show 0 ≤ (v : Int) by omega), shr_test hx9 v, (h9 v).2 hex, if_true, len_map, Int.toNat_natCast, set_map, wrap_nat v (by omega)]
      refine Ev.bind hm ?_
      have e : (fun j => if j = v then (d : Int) else if j < v then fj P a (d + 1) j else fj P a d j) = fun j => if j < v + 1 then fj P a (d + 1) j else fj P a d j := by
        funext j
        by_cases h1 : j = v
        · subst h1; rw [if_pos rfl, if_pos (by omega), (fj_succ V ha d j).1 hex]
        · rw [if_neg h1]
          by_cases h2 : j < v
          · rw [if_pos h2, if_pos (by omega)]
          · rw [if_neg h2, if_neg (by omega)]
      rw [e]
      refine ih (v + 1) _ (by omega) ho.1 fun j => ?_
      rw [ho.2, Bool.or_eq_true, hb, hmb]
      constructor
      · rintro (⟨u, h1, h2, h3⟩ | h)
        · exact ⟨u, by omega, h2, h3⟩
        · exact ⟨v, by omega, hex, h⟩
      · rintro ⟨u, h1, h2, h3⟩
        by_cases e : u = v
        · subst e; exact .inr h3
        · exact .inl ⟨u, by omega, h2, h3⟩
    · have hf : bit x9 v = false := by
        cases h : bit x9 v
        · rfl
        · exact absurd ((h9 v).1 h) hex
      refine Ev.step (fun k => by rw [graph_Distances.l2]) ?_
      simp only [if_pos (show (v : Int) < (P.length : Int) by omega), if_pos (show 0 ≤ (v : Int) by omega), shr_test hx9 v, hf, Bool.false_eq_true, if_false, show ¬ ((0 : Int) = 1) by omega, wrap_nat v (by omega)]
      have e : (fun j => if j < v then fj P a (d + 1) j else fj P a d j) = fun j => if j < v + 1 then fj P a (d + 1) j else fj P a d j := by
        funext j
        by_cases h1 : j = v
        · subst h1; rw [if_neg (by omega), if_pos (by omega), (fj_succ V ha d j).2 hex]
        · by_cases h2 : j < v
          · rw [if_pos h2, if_pos (by omega)]
          · rw [if_neg h2, if_neg (by omega)]
      rw [e]
      refine ih (v + 1) _ (by omega) hnx fun j => ?_
      rw [hb]
      constructor
      · rintro ⟨u, h1, h2, h3⟩
        exact ⟨u, by omega, h2, h3⟩
      · rintro ⟨u, h1, h2, h3⟩
        by_cases e : u = v
        · subst e; exact absurd h2 hex
        · exact ⟨u, by omega, h2, h3⟩
theorem gd_l1 (V : ValidG ids P) {a : Nat} (ha : a < P.length) : ∀ (c d : Nat) (x7 x9 : Int), d + c = P.length + 1 → M32 x7 → M32 x9 → (∀ j, bit x7 j = true ↔ ∃ e, e < d ∧ ex P.length (adjB P) a e j) → (∀ j, bit x9 j = true ↔ ex P.length (adjB P) a d j) →
    Ev (fun k => graph_Distances.l1 k ((List.range P.length).map (fj P a d)) x7 (d : Int) x9 ids P) (dlist P a) := by
  have hn := V.2.1
  intro c
  induction c with
  | zero =>
    intro d x7 x9 hd h7 h9 hb7 hb9
    have hz : x9 = 0 := (M32_eq_zero h9).2 fun v _ => by
      cases h : bit x9 v
      · rfl
      · have := ex_lt ha (adj_lt V) ((hb9 v).1 h); omega
    refine Ev.step (fun k => by rw [graph_Distances.l1]) ?_
    simp only [if_pos hz]
    have e : (List.range P.length).map (fj P a d) = dlist P a := map_congr_n fun j hj => by
      unfold fj
      have h1 := dst_lt ha (adj_lt V) j
      have h2 := dst_ge (n := P.length) (adj := adjB P) a j
      by_cases h3 : 0 ≤ dst P.length (adjB P) a j
      · rw [if_pos ⟨h3, by omega⟩]
      · rw [if_neg (by omega)]; omega
    rw [e]
    exact Ev.now _
  | succ c ih =>
    intro d x7 x9 hd h7 h9 hb7 hb9
    by_cases hz : x9 = 0
    · refine Ev.step (fun k => by rw [graph_Distances.l1]) ?_
      simp only [if_pos hz]
      have hno : ∀ j, ¬ ex P.length (adjB P) a d j := fun j h => by
        have := (hb9 j).2 h
        rw [hz, M32_zero.2] at this
        cases this
      have e : (List.range P.length).map (fj P a d) = dlist P a := map_congr_n fun j hj => by
        unfold fj
        rcases dst_cases (n := P.length) (adj := adjB P) a j with h | ⟨e, h⟩
        · rw [if_neg (by omega), h]
        · by_cases hed : e < d
          · rw [if_pos (by omega)]
          · exfalso
            obtain ⟨l, hl, hi⟩ := levels ha (adj_lt V) ((dst_eq ha (adj_lt V)).1 h)
            exact hno _ (hi d _ (List.getElem?_eq_getElem (by omega)))
      rw [e]
      exact Ev.now _
    · have ho := M32_or h7 h9
      have hb7' : ∀ j, bit (Go.bits .or .u32 x7 x9) j = true ↔ ∃ e, e < d + 1 ∧ ex P.length (adjB P) a e j := fun j => by
        rw [ho.2, Bool.or_eq_true, hb7, hb9]
        constructor
        · rintro (⟨e, h1, h2⟩ | h)
          · exact ⟨e, by omega, h2⟩
          · exact ⟨d, by omega, h⟩
        · rintro ⟨e, h1, h2⟩
          by_cases hed : e = d
          · subst hed; exact .inr h2
          · exact .inl ⟨e, by omega, h2⟩
      refine Ev.step (fun k => by rw [graph_Distances.l1]) ?_
      simp only [if_neg hz, len_map]
      have key := gd_l2 V ha d (Go.bits .or .u32 x7 x9) x9 h9 hb9 (r := dlist P a) (fun nx hnx hb => by
        have hA := M32_andNot hnx ho.1
        rw [wrap_nat d (by omega)]
        refine ih (d + 1) _ _ (by omega) ho.1 hA.1 hb7' fun j => ?_
        rw [hA.2, Bool.and_eq_true, hb, Bool.not_eq_true', ex_succ]
        constructor
        · rintro ⟨⟨u, h1, h2, h3⟩, h4⟩
          refine ⟨?_, u, h1, h2, h3⟩
          cases hbl : ball P.length (adjB P) a d j
          · rfl
          · obtain ⟨e, he, hx⟩ := ex_of_ball hbl
            have := (hb7' j).2 ⟨e, by omega, hx⟩
            rw [h4] at this; cases this
        · rintro ⟨h0, u, h1, h2, h3⟩
          refine ⟨⟨u, h1, h2, h3⟩, ?_⟩
          cases hbl : bit (Go.bits .or .u32 x7 x9) j
          · rfl
          · obtain ⟨e, he, hx⟩ := (hb7' j).1 hbl
            have := ball_le hx.1 (show e ≤ d by omega)
            rw [h0] at this; cases this) P.length 0 0 (by omega) M32_zero.1 (fun j => by rw [M32_zero.2]; simp)
      rw [map_congr_n (g := fun j => if j < 0 then fj P a (d + 1) j else fj P a d j) (fun j hj => (if_neg (Nat.not_lt_zero _)).symm)]
      exact key
theorem dist_ev (V : ValidG ids P) {a : Nat} (ha : a < P.length) : Ev (fun k => graph_Distances.f k ids P (a : Int)) (dlist P a) := by
  have hn := V.2.1
  unfold graph_Distances.f
  simp only [node_true V ha, Option.bind_some, if_true, if_pos (show 0 ≤ (P.length : Int) by omega), Int.toNat_natCast, if_pos (show P.length ≤ 35184372088832 by omega), List.length_replicate]
  have hs := M32_shl (v := a) (by omega)
  have h1 := gd_l1 V ha (P.length + 1) 0 0 (shl .u32 1 (a : Int)) (by omega) M32_zero.1 hs.1 (fun j => by rw [M32_zero.2]; simp) (fun j => by rw [hs.2, ex_zero]; simp)
  rw [map_congr_n (f := fj P a 0) (g := fun _ => (-1 : Int)) (fun j hj => by unfold fj; exact if_neg (by omega))] at h1
  have h0 := gd_l0 ids P hn a h1 P.length 0 (by omega)
  rw [replicate_map, map_congr_n (f := fun _ => (0 : Int)) (g := fun j => if j < 0 then (-1 : Int) else 0) (fun j hj => (if_neg (Nat.not_lt_zero _)).symm)]
  exact h0
theorem dist_none {a : Int} (h : ¬ (ValidG ids P ∧ 0 ≤ a ∧ a < P.length)) : Ev (fun k => graph_Distances.f k ids P a) [] := by
  unfold graph_Distances.f
  simp only [node_false h, Option.bind_some, Bool.false_eq_true, if_false]
  exact Ev.now _
end
end Go.Proofs.Ytbpolpagcaacoaa.P
