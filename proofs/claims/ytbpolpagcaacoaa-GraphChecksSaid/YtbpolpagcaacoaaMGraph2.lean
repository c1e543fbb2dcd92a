/- Distances at any argument, Connected, Eccentricity, Diameter, Degree, Mod; 'awake' and 'fair'. -/
import Derived.Test.YtbpolpagcaacoaaMGraph
import Derived.Test.YtbpolpagcaacoaaMValid2
import Derived.Test.YtbpolpagcaacoaaP4
import Derived.Test.YtbpolpagcaacoaaP5
import Derived.Test.YtbpolpagcaacoaaP7
namespace Go.Proofs.Ytbpolpagcaacoaa.P
open Go.RowKit Go.Proofs.YtbpolpagcaacoaaW.PrintWords Go.Proofs.YtbpolpagcaacoaaW.PrintMore
set_option linter.unusedVariables false
theorem drop_rd (l : List Int) (i : Nat) (h : i < l.length) : l.drop i = rd l (i : Int) :: l.drop (i + 1) := by
  rw [List.drop_eq_getElem_cons h, rd_getD, List.getD_eq_getElem?_getD, List.getElem?_eq_getElem h]; rfl
theorem mx_le (a b : Int) : a ≤ mx a b ∧ b ≤ mx a b ∧ (mx a b = a ∨ mx a b = b) := by unfold mx; by_cases h : a < b <;> simp [h] <;> omega
theorem fold_mx (l : List Int) : ∀ c : Int, c ≤ l.foldl mx c ∧ (∀ x ∈ l, x ≤ l.foldl mx c) ∧ (l.foldl mx c = c ∨ l.foldl mx c ∈ l) := by
  induction l with
  | nil => intro c; exact ⟨Int.le_refl _, nofun, .inl rfl⟩
  | cons y l ih =>
    intro c
    obtain ⟨h1, h2, h3⟩ := ih (mx c y)
    obtain ⟨m1, m2, m3⟩ := mx_le c y
    rw [List.foldl_cons]
    refine ⟨by omega, fun x hx => ?_, ?_⟩
    · rcases List.mem_cons.1 hx with rfl | hx
      · omega
      · exact h2 x hx
    · rcases h3 with h3 | h3
      · rcases m3 with m3 | m3
        · left; omega
        · right; rw [h3, m3]; simp
      · right; exact List.mem_cons_of_mem _ h3
section
variable {ids : List Int} {P : List (List Lk)}
/-- What Distances answers at any argument. -/
def distG (ids : List Int) (P : List (List Lk)) (a : Int) : List Int := if validB ids P = true ∧ 0 ≤ a ∧ a < P.length then dlist P a.toNat else []
theorem validB_iff : validB ids P = true ↔ ValidG ids P := by unfold validB; exact decide_eq_true_iff
theorem distG_true (V : ValidG ids P) {a : Nat} (ha : a < P.length) : distG ids P (a : Int) = dlist P a := by
  unfold distG
  rw [if_pos ⟨validB_true V, by omega, by omega⟩, Int.toNat_natCast]
theorem dlist_len (a : Nat) : (dlist P a).length = P.length := len_map _ _
theorem distG_len (a : Int) : (distG ids P a).length ≤ 24 := by
  unfold distG
  split
  · rename_i h
    rw [dlist_len]
    exact (validB_iff.1 h.1).2.1
  · simp
theorem dist_all (a : Int) : Ev (fun k => graph_Distances.f k ids P a) (distG ids P a) := by
  by_cases h : ValidG ids P ∧ 0 ≤ a ∧ a < P.length
  · obtain ⟨V, h0, h1⟩ := h
    have e : a = ((a.toNat : Nat) : Int) := by omega
    have := dist_ev V (a := a.toNat) (by omega)
    rw [← distG_true V (by omega), ← e] at this
    exact this
  · have e : distG ids P a = [] := by
      unfold distG
      rw [if_neg (fun hh => h ⟨validB_iff.1 hh.1, hh.2⟩)]
    rw [e]
    exact dist_none h
theorem rd_dlist (a : Nat) {v : Nat} (hv : v < P.length) : rd (dlist P a) (v : Int) = dst P.length (adjB P) a v := rd_map _ _ _ hv
/-- A link of a valid graph, read as a node. -/
theorem link_node (V : ValidG ids P) {v j : Nat} (hv : v < P.length) (hj : j < (prt P v).length) : ∃ u : Nat, u < P.length ∧ (lk (prt P v) j).f0 = (u : Int) ∧ adjB P v u = true := by
  have hm := lk_mem (prt P v) j hj
  have := (V.2.2.2.2.1 v hv).1 _ hm
  exact ⟨(lk (prt P v) j).f0.toNat, by omega, by omega, adjB_iff.2 ⟨_, hm, by omega⟩⟩
/-! ### Connected -/
def connOf (l : List Int) : Bool := l.all (fun x => decide (0 ≤ x)) && decide (0 < l.length)
def connG (ids : List Int) (P : List (List Lk)) : Bool := connOf (distG ids P 0)
theorem conn_l0 (l : List Int) (hl : l.length < Big) : ∀ d i : Nat, i + d = l.length → Ev (fun k => graph_Connected.l0 k l l (l.length : Int) (i : Int)) ((l.drop i).all (fun x => decide (0 ≤ x)) && decide (0 < l.length)) := by
  unfold Big at hl
  intro d
  induction d with
  | zero =>
    intro i hi
    refine Ev.step (fun k => by rw [graph_Connected.l0]) ?_
    simp only [if_neg (show ¬ (i : Int) < (l.length : Int) by omega)]
    rw [List.drop_of_length_le (by omega)]
    simp
    exact Ev.now _
  | succ d ih =>
    intro i hi
    refine Ev.step (fun k => by rw [graph_Connected.l0]) ?_
    simp only [if_pos (show (i : Int) < (l.length : Int) by omega), if_pos (show 0 ≤ (i : Int) by omega), wrap_nat i (by omega)]
    rw [drop_rd l i (by omega), List.all_cons]
    by_cases h : rd l (i : Int) < 0
    · simp only [if_pos h, decide_eq_false (show ¬ 0 ≤ rd l (i : Int) by omega), Bool.false_and]
      exact Ev.now _
    · simp only [if_neg h, decide_eq_true (show 0 ≤ rd l (i : Int) by omega), Bool.true_and]
      exact ih (i + 1) (by omega)
theorem conn_ev : Ev (fun k => graph_Connected.f k ids P) (connG ids P) := by
  unfold graph_Connected.f
  refine Ev.bind (dist_all 0) ?_
  have := conn_l0 (distG ids P 0) (by have := distG_len (ids := ids) (P := P) 0; unfold Big; omega) _ 0 (Nat.zero_add _)
  exact this
theorem conn_all (h : connG ids P = true) : ValidG ids P ∧ ∀ a v, a < P.length → v < P.length → 0 ≤ dst P.length (adjB P) a v := by
  unfold connG connOf at h
  rw [Bool.and_eq_true, decide_eq_true_iff] at h
  by_cases V : ValidG ids P
  · have hn : 0 < P.length := V.1
    have e := distG_true V hn
    rw [show ((0 : Nat) : Int) = 0 from rfl] at e
    rw [e] at h
    have h0 : ∀ v, v < P.length → 0 ≤ dst P.length (adjB P) 0 v := fun v hv => by
      have := List.all_eq_true.1 h.1 _ (List.mem_map.2 ⟨v, List.mem_range.2 hv, rfl⟩)
      simpa using this
    refine ⟨V, fun a v ha hv => ?_⟩
    have h1 : 0 ≤ dst P.length (adjB P) a 0 := by
      rw [dst_symm ha (adj_lt V) (adj_sym V) hn]
      exact h0 a ha
    exact (dst_triangle ha (adj_lt V) hn h1 (h0 v hv)).1
  · exfalso
    have e : distG ids P 0 = [] := by unfold distG; rw [if_neg (fun hh => V (validB_iff.1 hh.1))]
    rw [e] at h
    simp at h
/-! ### Eccentricity, Diameter -/
def eccG (ids : List Int) (P : List (List Lk)) (a : Int) : Int := if connG ids P = true then (distG ids P a).foldl mx (-1) else -1
theorem ecc_l0 (l : List Int) (hl : l.length < Big) : ∀ d i : Nat, i + d = l.length → ∀ m : Int, Ev (fun k => graph_Eccentricity.l0 k m l (l.length : Int) (i : Int)) ((l.drop i).foldl mx m) := by
  unfold Big at hl
  intro d
  induction d with
  | zero =>
    intro i hi m
    refine Ev.step (fun k => by rw [graph_Eccentricity.l0]) ?_
    simp only [if_neg (show ¬ (i : Int) < (l.length : Int) by omega)]
    rw [List.drop_of_length_le (by omega)]
    exact Ev.now _
  | succ d ih =>
    intro i hi m
    refine Ev.step (fun k => by rw [graph_Eccentricity.l0]) ?_
    simp only [if_pos (show (i : Int) < (l.length : Int) by omega), if_pos (show 0 ≤ (i : Int) by omega), wrap_nat i (by omega)]
    rw [drop_rd l i (by omega), List.foldl_cons]
    exact ih (i + 1) (by omega) _
theorem ecc_ev (a : Int) : Ev (fun k => graph_Eccentricity.f k ids P a) (eccG ids P a) := by
  unfold graph_Eccentricity.f
  refine Ev.bind conn_ev ?_
  unfold eccG
  by_cases h : connG ids P = true
  · simp only [h, if_true]
    refine Ev.bind (dist_all a) ?_
    exact ecc_l0 (distG ids P a) (by have := distG_len (ids := ids) (P := P) a; unfold Big; omega) _ 0 (Nat.zero_add _) (-1)
  · simp only [if_neg h]
    exact Ev.now _
def eccs (ids : List Int) (P : List (List Lk)) : List Int := (List.range P.length).map fun a => eccG ids P (a : Nat)
def diamG (ids : List Int) (P : List (List Lk)) : Int := if connG ids P = true then (eccs ids P).foldl mx (-1) else -1
theorem ecc_nonneg (h : connG ids P = true) {a : Nat} (ha : a < P.length) : 0 ≤ eccG ids P (a : Int) := by
  obtain ⟨V, hd⟩ := conn_all h
  unfold eccG
  rw [if_pos h, distG_true V ha]
  have := (fold_mx (dlist P a) (-1)).2.1 _ (List.mem_map.2 ⟨a, List.mem_range.2 ha, rfl⟩)
  have := hd a a ha ha
  omega
theorem diam_l0 (h : connG ids P = true) (hn : P.length < Big) : ∀ d i : Nat, i + d = P.length → ∀ m : Int, Ev (fun k => graph_Diameter.l0 k m (P.length : Int) (i : Int) ids P) (((eccs ids P).drop i).foldl mx m) := by
  unfold Big at hn
  have hle : (eccs ids P).length = P.length := len_map _ _
  intro d
  induction d with
  | zero =>
    intro i hi m
    refine Ev.step (fun k => by rw [graph_Diameter.l0]) ?_
    simp only [if_neg (show ¬ (i : Int) < (P.length : Int) by omega)]
    rw [List.drop_of_length_le (by omega)]
    exact Ev.now _
  | succ d ih =>
    intro i hi m
    refine Ev.step (fun k => by rw [graph_Diameter.l0]) ?_
    simp only [if_pos (show (i : Int) < (P.length : Int) by omega), wrap_nat i (by omega)]
    refine Ev.bind (ecc_ev _) ?_
    have h0 := ecc_nonneg h (a := i) (by omega)
    have hm := (mx_le m (eccG ids P (i : Int))).2.1
    simp only [if_neg (show ¬ mx m (eccG ids P (i : Int)) < 0 by omega)]
    rw [drop_rd _ i (by omega), List.foldl_cons, show rd (eccs ids P) (i : Int) = eccG ids P (i : Int) from rd_map (fun a => eccG ids P (a : Nat)) P.length i (by omega)]
    exact ih (i + 1) (by omega) _
theorem diam_ev (hn : P.length < Big) : Ev (fun k => graph_Diameter.f k ids P) (diamG ids P) := by
  unfold graph_Diameter.f diamG
  by_cases h : connG ids P = true
  · rw [if_pos h]
    exact diam_l0 h hn _ 0 (Nat.zero_add _) (-1)
  · rw [if_neg h]
    refine Ev.step (fun k => by rw [graph_Diameter.l0]) ?_
    by_cases h0 : (0 : Int) < P.length
    · simp only [if_pos h0]
      refine Ev.bind (ecc_ev _) ?_
      have e : eccG ids P 0 = -1 := by unfold eccG; rw [if_neg h]
      rw [e]
      exact Ev.now _
    · simp only [if_neg h0]
      exact Ev.now _
/-! ### Degree, Mod -/
theorem degree_eq (V : ValidG ids P) {a : Nat} (ha : a < P.length) : graph_Degree.f ids P (a : Int) = some ((prt P a).length : Int) := by
  unfold graph_Degree.f
  rw [node_true V ha, Option.bind_some, if_pos rfl, if_pos (by omega), if_pos (by omega), rdR_prt]
theorem degree_none {a : Int} (h : ¬ (ValidG ids P ∧ 0 ≤ a ∧ a < P.length)) : graph_Degree.f ids P a = some 0 := by
  unfold graph_Degree.f
  rw [node_false h, Option.bind_some, if_neg (by simp)]
theorem mod_eq (a : Int) (n : Nat) (h0 : 0 < n) (h1 : n < Big) : ∃ v : Nat, v < n ∧ selfstabmade_Mod.f a (n : Int) = some (v : Int) := by
  unfold Big at h1
  have hlt := Int.tmod_lt_of_pos a (show (0 : Int) < n by omega)
  have hgt : -(n : Int) < Int.tmod a n := by
    have := Int.lt_tmod_of_pos a (show (0 : Int) < n by omega)
    omega
  unfold selfstabmade_Mod.f
  rw [if_neg (by omega)]
  by_cases h : Int.tmod a n < 0
  · rw [if_pos h, wrap_id _ (by omega) (by omega)]
    exact ⟨(Int.tmod a n + n).toNat, by omega, by rw [Int.toNat_of_nonneg (by omega)]⟩
  · rw [if_neg h]
    exact ⟨(Int.tmod a n).toNat, by omega, by rw [Int.toNat_of_nonneg (by omega)]⟩
end
/-! ### awake, fair -/
theorem awake_ev : Ev (fun k => selfstablaw01_awake.f k) true := by
  unfold selfstablaw01_awake.f
  simp only [Option.bind_some]
  have hv : validB [7, 3] [[⟨1, 5⟩], [⟨0, 5⟩]] = true := by decide
  have V := validB_iff.1 hv
  simp only [graph_Valid.f, hv, Option.bind_some, if_true]
  refine Ev.bind (diam_ev (by decide)) ?_
  have e : diamG [7, 3] [[⟨1, 5⟩], [⟨0, 5⟩]] = 1 := by decide
  simp only [e, if_true]
  exact Ev_eq fun k => by rw [show graph_Degree.f [7, 3] [[⟨1, 5⟩], [⟨0, 5⟩]] 1 = some 1 from degree_eq V (a := 1) (by decide)]; rfl
theorem fair_ev (ids : List Int) (P : List (List Lk)) : ∃ b, Ev (fun k => selfstablaw01_fair.f k ids P) b ∧ (b = true ↔ Light ids P ∧ ValidG ids P) := by
  obtain ⟨b, hb, hiff⟩ := light_ev ids P
  unfold selfstablaw01_fair.f
  cases b with
  | true =>
    have hL := hiff.1 rfl
    refine ⟨validB ids P, ?_, by rw [validB_iff]; exact ⟨fun h => ⟨hL, h⟩, fun h => h.2⟩⟩
    refine Ev.bind hb ?_
    simp only [if_true]
    refine Ev.bind (refValid_ev ids P hL.big) ?_
    exact Ev.now _
  | false =>
    refine ⟨false, ?_, ⟨nofun, fun h => absurd (hiff.2 h.1) (by simp)⟩⟩
    refine Ev.bind hb ?_
    simp only [Bool.false_eq_true, if_false]
    exact Ev.now _
end Go.Proofs.Ytbpolpagcaacoaa.P
