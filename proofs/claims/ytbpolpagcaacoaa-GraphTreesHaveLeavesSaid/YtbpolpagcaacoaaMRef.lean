/- The reference's Distances, Connected, Eccentricity, Diameter; Size and Tree of both. -/
import Derived.Test.YtbpolpagcaacoaaMGraph2
import Derived.Test.YtbpolpagcaacoaaP6
import Derived.Test.YtbpolpagcaacoaaP7
import Derived.Test.YtbpolpagcaacoaaP7
import Derived.Test.YtbpolpagcaacoaaP7
import Derived.Test.YtbpolpagcaacoaaP7
import Derived.Test.YtbpolpagcaacoaaP5
import Derived.Test.YtbpolpagcaacoaaP7
namespace Go.Proofs.Ytbpolpagcaacoaa.P
open Go.RowKit Go.Proofs.YtbpolpagcaacoaaW.PrintWords Go.Proofs.YtbpolpagcaacoaaW.PrintMore
set_option linter.unusedVariables false
section
variable {ids : List Int} {P : List (List Lk)}
/-- The reference's list in round s, behind node v. -/
def mv (P : List (List Lk)) (a s v : Nat) : List Int := (List.range P.length).map fun j => if j < v then fj P a (s + 1) j else fj P a s j
theorem rd_mv (a s v : Nat) {j : Nat} (hj : j < P.length) : rd (mv P a s v) (j : Int) = if j < v then fj P a (s + 1) j else fj P a s j := rd_map _ _ _ hj
theorem mv_len (a s v : Nat) : (mv P a s v).length = P.length := len_map _ _
theorem mv_next (a s v : Nat) (h : fj P a (s + 1) v = fj P a s v) : mv P a s v = mv P a s (v + 1) := by
  refine map_congr_n fun j hj => ?_
  by_cases h1 : j < v
  · rw [if_pos h1, if_pos (by omega)]
  · rw [if_neg h1]
    by_cases h2 : j = v
    · subst h2; rw [if_pos (by omega), h]
    · rw [if_neg (by omega)]
theorem mv_set (a s v : Nat) (h : fj P a (s + 1) v = (s : Int)) : (mv P a s v).set v (s : Int) = mv P a s (v + 1) := by
  unfold mv
  rw [set_map]
  refine map_congr_n fun j hj => ?_
  by_cases h2 : j = v
  · subst h2; rw [if_pos rfl, if_pos (by omega), h]
  · rw [if_neg h2]
    by_cases h1 : j < v
    · rw [if_pos h1, if_pos (by omega)]
    · rw [if_neg h1, if_neg (by omega)]
theorem mv_zero (a s : Nat) : (List.range P.length).map (fj P a s) = mv P a s 0 := map_congr_n fun j hj => (if_neg (Nat.not_lt_zero _)).symm
theorem mv_full (a s : Nat) : mv P a s P.length = mv P a (s + 1) 0 := by
  rw [← mv_zero]
  exact map_congr_n fun j hj => if_pos hj
/-- 'one below': which entries of the list in round s are s - 1. -/
theorem mv_eq {a s v u : Nat} (hs : 1 ≤ s) (hu : u < P.length) : rd (mv P a s v) (u : Int) = ((s - 1 : Nat) : Int) ↔ dst P.length (adjB P) a u = ((s - 1 : Nat) : Int) := by
  rw [rd_mv a s v hu]
  unfold fj
  by_cases h1 : u < v
  · rw [if_pos h1]
    by_cases h2 : 0 ≤ dst P.length (adjB P) a u ∧ dst P.length (adjB P) a u < ((s + 1 : Nat) : Int)
    · rw [if_pos h2]
    · rw [if_neg h2]; omega
  · rw [if_neg h1]
    by_cases h2 : 0 ≤ dst P.length (adjB P) a u ∧ dst P.length (adjB P) a u < (s : Int)
    · rw [if_pos h2]
    · rw [if_neg h2]; omega
theorem rf_l3 (V : ValidG ids P) {a s v : Nat} (ha : a < P.length) (hs : 1 ≤ s) (hs2 : s < 1000) (hv : v < P.length) {r : List Int} (hr : Ev (fun k => selfstabref01_Distances.l2 k (P.length : Int) (mv P a s (v + 1)) (s : Int) ((v + 1 : Nat) : Int) ids P) r) (hf : fj P a s v = -1) :
    ∀ d i : Nat, i + d = (prt P v).length → (∀ j, j < i → ∀ u : Nat, (lk (prt P v) j).f0 = (u : Int) → dst P.length (adjB P) a u ≠ ((s - 1 : Nat) : Int)) →
    Ev (fun k => selfstabref01_Distances.l3 k (P.length : Int) (mv P a s v) (s : Int) (v : Int) (i : Int) ids P) r := by
  have hn := V.2.1
  have hll := links_len V v
  have hlen := mv_len (P := P) a s v
  intro d
  induction d with
  | zero =>
    intro i hi hj
    have hne : dst P.length (adjB P) a v ≠ (s : Int) := fun h => by
      obtain ⟨u, hu, hadj, hd⟩ := dst_nearer ha (adj_lt V) (v := v) (by omega)
      obtain ⟨e, he, hef⟩ := adjB_iff.1 (adj_sym V u v hu hadj)
      obtain ⟨j, hjl, hje⟩ := List.getElem_of_mem he
      exact hj j (by omega) u (by rw [lk_eq _ j hjl, hje, hef]) (by omega)
    have hz : fj P a (s + 1) v = fj P a s v := (fj_succ V ha s v).2 fun h => hne ((dst_eq ha (adj_lt V)).2 h)
    refine Ev.step (fun k => by rw [selfstabref01_Distances.l3]) ?_
    simp only [if_pos (show 0 ≤ (v : Int) by omega), if_pos (show (v : Int) < (P.length : Int) by omega), rdR_prt, if_neg (show ¬ (i : Int) < ((prt P v).length : Int) by omega)]
    refine Ev.step (fun k => by rw [selfstabref01_Distances.j5]) ?_
    simp only [Bool.false_eq_true, if_false, wrap_nat v (by omega)]
    rw [mv_next a s v hz]
    exact hr
  | succ d ih =>
    intro i hi hj
    obtain ⟨u, hu, hue, hadj⟩ := link_node V hv (j := i) (by omega)
    have hrd : rd (mv P a s v) (v : Int) = -1 := by rw [rd_mv a s v hv, if_neg (by omega), hf]
    refine Ev.step (fun k => by rw [selfstabref01_Distances.l3]) ?_
    simp only [if_pos (show 0 ≤ (v : Int) by omega), if_pos (show (v : Int) < (P.length : Int) by omega), rdR_prt, if_pos (show (i : Int) < ((prt P v).length : Int) by omega), hlen, hrd]
    refine Ev.step (fun k => by rw [selfstabref01_Distances.j5]) ?_
    simp only [if_pos (show 0 ≤ (v : Int) by omega), if_pos (show (v : Int) < (P.length : Int) by omega), rdR_prt, if_pos (show 0 ≤ (i : Int) by omega), if_pos (show (i : Int) < ((prt P v).length : Int) by omega), hlen, rdT_lk, hue, if_pos (show 0 ≤ (u : Int) by omega), if_pos (show (u : Int) < (P.length : Int) by omega), show decide ((-1 : Int) < 0) = true from rfl, if_true, wrap_nat i (by omega), Int.toNat_natCast]
    rw [show wrap64 ((s : Int) - 1) = ((s - 1 : Nat) : Int) by rw [wrap_id _ (by omega) (by omega)]; omega]
    by_cases h : dst P.length (adjB P) a u = ((s - 1 : Nat) : Int)
    · simp only [if_pos ((mv_eq hs hu).2 h)]
      have h1 := dst_link ha (adj_lt V) hu (adj_sym V v u hv hadj) (by omega)
      have hds : dst P.length (adjB P) a v = (s : Int) := by
        have hf2 := hf
        unfold fj at hf2
        by_cases h2 : 0 ≤ dst P.length (adjB P) a v ∧ dst P.length (adjB P) a v < (s : Int)
        · rw [if_pos h2] at hf2; omega
        · omega
      have hfs := (fj_succ V ha s v).1 ((dst_eq ha (adj_lt V)).1 hds)
      rw [mv_set a s v hfs]
      have hlen2 := mv_len (P := P) a s (v + 1)
      have hrd2 : rd (mv P a s (v + 1)) (v : Int) = (s : Int) := by rw [rd_mv a s (v + 1) hv, if_pos (by omega), hfs]
      refine Ev.step (fun k => by rw [selfstabref01_Distances.l3]) ?_
      simp only [if_pos (show 0 ≤ (v : Int) by omega), if_pos (show (v : Int) < (P.length : Int) by omega), rdR_prt, hlen2, hrd2, decide_eq_false (show ¬ (s : Int) < 0 by omega)]
      have hjr : Ev (fun k => selfstabref01_Distances.j5 k (P.length : Int) (mv P a s (v + 1)) (s : Int) (v : Int) ((i + 1 : Nat) : Int) false ids P) r := by
        refine Ev.step (fun k => by rw [selfstabref01_Distances.j5]) ?_
        simp only [Bool.false_eq_true, if_false, wrap_nat v (by omega)]
        exact hr
      by_cases hx : ((i + 1 : Nat) : Int) < ((prt P v).length : Int)
      · simp only [if_pos hx]; exact hjr
      · simp only [if_neg hx]; exact hjr
    · simp only [if_neg (fun h2 => h ((mv_eq hs hu).1 h2))]
      refine ih (i + 1) (by omega) fun j hji w hw => ?_
      by_cases e : j = i
      · subst e
        rw [hue] at hw
        obtain rfl : u = w := by omega
        exact h
      · exact hj j (by omega) w hw
theorem rf_l2 (V : ValidG ids P) {a s : Nat} (ha : a < P.length) (hs : 1 ≤ s) (hs2 : s < 1000) {r : List Int} (hr : Ev (fun k => selfstabref01_Distances.l1 k (P.length : Int) (mv P a (s + 1) 0) ((s + 1 : Nat) : Int) ids P) r) :
    ∀ d v : Nat, v + d = P.length → Ev (fun k => selfstabref01_Distances.l2 k (P.length : Int) (mv P a s v) (s : Int) (v : Int) ids P) r := by
  have hn := V.2.1
  intro d
  induction d with
  | zero =>
    intro v hv
    obtain rfl : v = P.length := by omega
    refine Ev.step (fun k => by rw [selfstabref01_Distances.l2]) ?_
    simp only [if_neg (show ¬ (P.length : Int) < (P.length : Int) by omega), wrap_nat s (by omega)]
    rw [mv_full]
    exact hr
  | succ d ih =>
    intro v hv
    have hv' : v < P.length := by omega
    refine Ev.step (fun k => by rw [selfstabref01_Distances.l2]) ?_
    simp only [if_pos (show (v : Int) < (P.length : Int) by omega)]
    by_cases hf : fj P a s v = -1
    · exact rf_l3 V ha hs hs2 hv' (ih (v + 1) (by omega)) hf _ 0 (Nat.zero_add _) (fun j h => absurd h (Nat.not_lt_zero _))
    · have h2 : 0 ≤ dst P.length (adjB P) a v ∧ dst P.length (adjB P) a v < (s : Int) := by
        refine Classical.byContradiction fun h2 => hf ?_
        unfold fj
        rw [if_neg h2]
      have hz : fj P a (s + 1) v = fj P a s v := by
        unfold fj
        rw [if_pos h2, if_pos (by omega)]
      have hlen := mv_len (P := P) a s v
      have hrd : rd (mv P a s v) (v : Int) = dst P.length (adjB P) a v := by
        rw [rd_mv a s v hv', if_neg (by omega)]
        unfold fj
        rw [if_pos h2]
      have hjr : Ev (fun k => selfstabref01_Distances.j5 k (P.length : Int) (mv P a s v) (s : Int) (v : Int) 0 false ids P) r := by
        refine Ev.step (fun k => by rw [selfstabref01_Distances.j5]) ?_
        simp only [Bool.false_eq_true, if_false, wrap_nat v (by omega)]
        rw [mv_next a s v hz]
        exact ih (v + 1) (by omega)
      refine Ev.step (fun k => by rw [selfstabref01_Distances.l3]) ?_
      simp only [if_pos (show 0 ≤ (v : Int) by omega), if_pos (show (v : Int) < (P.length : Int) by omega), rdR_prt, hlen, hrd, decide_eq_false (show ¬ dst P.length (adjB P) a v < 0 by omega)]
      by_cases hx : (0 : Int) < ((prt P v).length : Int)
      · simp only [if_pos hx]; exact hjr
      · simp only [if_neg hx]; exact hjr
theorem rf_l1 (V : ValidG ids P) {a : Nat} (ha : a < P.length) : ∀ d s : Nat, 1 ≤ s → s + d = P.length + 1 → s ≤ P.length → Ev (fun k => selfstabref01_Distances.l1 k (P.length : Int) (mv P a s 0) (s : Int) ids P) (dlist P a) := by
  have hn := V.2.1
  intro d
  induction d with
  | zero => intro s hs h1 h2; omega
  | succ d ih =>
    intro s hs h1 h2
    refine Ev.step (fun k => by rw [selfstabref01_Distances.l1]) ?_
    by_cases h : s < P.length
    · simp only [if_pos (show (s : Int) < (P.length : Int) by omega)]
      exact rf_l2 V ha hs (by omega) (ih (s + 1) (by omega) (by omega) (by omega)) _ 0 (Nat.zero_add _)
    · obtain rfl : s = P.length := by omega
      simp only [if_neg (show ¬ (P.length : Int) < (P.length : Int) by omega)]
      have e : mv P a P.length 0 = dlist P a := by
        rw [← mv_zero]
        refine map_congr_n fun j hj => ?_
        have h1 := dst_lt ha (adj_lt V) j
        have h2 := dst_ge (n := P.length) (adj := adjB P) a j
        unfold fj
        by_cases h3 : 0 ≤ dst P.length (adjB P) a j ∧ dst P.length (adjB P) a j < (P.length : Int)
        · rw [if_pos h3]
        · rw [if_neg h3]; omega
      rw [e]
      exact Ev.now _
theorem rf_l0 (V : ValidG ids P) {a : Nat} (ha : a < P.length) : ∀ d i : Nat, i + d = P.length → Ev (fun k => selfstabref01_Distances.l0 k (a : Int) (P.length : Int) (List.replicate i (-1)) (i : Int) ids P) (dlist P a) := by
  have hn := V.2.1
  intro d
  induction d with
  | zero =>
    intro i hi
    obtain rfl : i = P.length := by omega
    refine Ev.step (fun k => by rw [selfstabref01_Distances.l0]) ?_
    simp only [if_neg (show ¬ (P.length : Int) < (P.length : Int) by omega), List.length_replicate, if_pos (show 0 ≤ (a : Int) by omega), if_pos (show (a : Int) < (P.length : Int) by omega), Int.toNat_natCast]
    have e : (List.replicate P.length (-1 : Int)).set a 0 = mv P a 1 0 := by
      rw [replicate_map, set_map, ← mv_zero]
      refine map_congr_n fun j hj => ?_
      have h1 := dst_self ha (adj_lt V) (v := j)
      have h2 := dst_ge (n := P.length) (adj := adjB P) a j
      unfold fj
      by_cases hja : j = a
      · rw [if_pos hja, h1.2 hja]; rfl
      · rw [if_neg hja, if_neg (fun h => hja (h1.1 (by omega)))]
    rw [e]
    exact rf_l1 V ha _ 1 (Nat.le_refl _) (Nat.add_comm _ _) V.1
  | succ d ih =>
    intro i hi
    refine Ev.step (fun k => by rw [selfstabref01_Distances.l0]) ?_
    simp only [if_pos (show (i : Int) < (P.length : Int) by omega), List.length_replicate, if_pos (show i < 17592186044416 by omega), wrap_nat i (by omega), ← List.replicate_succ']
    exact ih (i + 1) (by omega)
theorem in_n (n : Nat) (h1 : n < Big) (a : Int) : selfstabref01_In.f a 0 (wrap64 ((n : Int) - 1)) = some (decide (0 ≤ a ∧ a < n)) := by
  unfold Big at h1
  rw [in_eq, wrap_id _ (by omega) (by omega)]
  congr 1
  exact decide_eq_decide.2 (by omega)
theorem refDist_ev (hb : ∀ v, (prt P v).length < Big) (a : Int) : Ev (fun k => selfstabref01_Distances.f k ids P a) (distG ids P a) := by
  unfold selfstabref01_Distances.f
  refine Ev.bind (refValid_ev ids P hb) ?_
  have hemp : Ev (fun k => selfstabref01_Distances.j0 k a true ids P) [] := by
    refine Ev.step (fun k => by rw [selfstabref01_Distances.j0]) ?_
    simp only [if_true]
    exact Ev.now _
  unfold distG
  by_cases h : validB ids P = true
  · have V := validB_iff.1 h
    have hn := V.2.1
    simp only [h, if_true, in_n P.length (by unfold Big; omega), Option.bind_some, true_and]
    by_cases h2 : 0 ≤ a ∧ a < (P.length : Int)
    · simp only [if_pos h2, decide_eq_true h2, Bool.not_true]
      have e : a = ((a.toNat : Nat) : Int) := by omega
      refine Ev.step (fun k => by rw [selfstabref01_Distances.j0]) ?_
      simp only [Bool.false_eq_true, if_false]
      have := rf_l0 V (a := a.toNat) (by omega) _ 0 (Nat.zero_add _)
      rw [← e] at this
      exact this
    · simp only [if_neg h2, decide_eq_false h2, Bool.not_false]
      exact hemp
  · rw [if_neg (fun hh => h hh.1)]
    simp only [if_neg h]
    exact hemp
/-! ### greatest -/
def greatOf (l : List Int) (m : Int) : Int := if l.all (fun x => decide (0 ≤ x)) = true then l.foldl mx m else -1
theorem great_l0 (l : List Int) (hl : l.length < Big) : ∀ d i : Nat, i + d = l.length → ∀ m : Int, Ev (fun k => selfstabref01_greatest.l0 k l m (i : Int)) (greatOf (l.drop i) m) := by
  unfold Big at hl
  intro d
  induction d with
  | zero =>
    intro i hi m
    refine Ev.step (fun k => by rw [selfstabref01_greatest.l0]) ?_
    simp only [if_neg (show ¬ (i : Int) < (l.length : Int) by omega)]
    rw [List.drop_of_length_le (by omega)]
    exact Ev.now _
  | succ d ih =>
    intro i hi m
    refine Ev.step (fun k => by rw [selfstabref01_greatest.l0]) ?_
    simp only [if_pos (show (i : Int) < (l.length : Int) by omega), if_pos (show 0 ≤ (i : Int) by omega), wrap_nat i (by omega)]
    unfold greatOf
    rw [drop_rd l i (by omega), List.all_cons, List.foldl_cons]
    by_cases h : rd l (i : Int) < 0
    · simp only [if_pos h, decide_eq_false (show ¬ 0 ≤ rd l (i : Int) by omega), Bool.false_and, Bool.false_eq_true, if_false]
      exact Ev.now _
    · simp only [if_neg h, decide_eq_true (show 0 ≤ rd l (i : Int) by omega), Bool.true_and]
      exact ih (i + 1) (by omega) _
theorem great_ev (a : Int) : Ev (fun k => selfstabref01_greatest.f k (distG ids P a)) (greatOf (distG ids P a) (-1)) := by
  unfold selfstabref01_greatest.f
  exact great_l0 (distG ids P a) (by have := distG_len (ids := ids) (P := P) a; unfold Big; omega) _ 0 (Nat.zero_add _) (-1)
theorem refConn_ev (hb : ∀ v, (prt P v).length < Big) : Ev (fun k => selfstabref01_Connected.f k ids P) (connG ids P) := by
  unfold selfstabref01_Connected.f
  refine Ev.bind (refDist_ev hb 0) ?_
  refine Ev.bind (great_ev 0) ?_
  refine Ev_cast (Ev.now _) ?_
  unfold connG connOf greatOf
  cases hl : distG ids P 0 with
  | nil => decide
  | cons x l =>
    by_cases h : ((x :: l).all (fun x => decide (0 ≤ x))) = true
    · rw [if_pos h, h]
      have h0 : 0 ≤ x := by
        have := List.all_eq_true.1 h x (by simp)
        simpa using this
      have := (fold_mx (x :: l) (-1)).2.1 x (by simp)
      simp
      simp at this
      omega
    · rw [if_neg h]
      rw [Bool.not_eq_true] at h
      rw [h]
      rfl
theorem refEcc_ev (hb : ∀ v, (prt P v).length < Big) (a : Int) : Ev (fun k => selfstabref01_Eccentricity.f k ids P a) (eccG ids P a) := by
  unfold selfstabref01_Eccentricity.f
  refine Ev.bind (refDist_ev hb a) ?_
  refine Ev.bind (great_ev a) ?_
  refine Ev_cast (Ev.now _) ?_
  unfold eccG greatOf
  by_cases h : ValidG ids P ∧ 0 ≤ a ∧ a < P.length
  · obtain ⟨V, h0, h1⟩ := h
    have e : a = ((a.toNat : Nat) : Int) := by omega
    have ha : a.toNat < P.length := by omega
    rw [e, distG_true V ha]
    by_cases hc : connG ids P = true
    · obtain ⟨_, hd⟩ := conn_all hc
      rw [if_pos hc, if_pos]
      refine List.all_eq_true.2 fun x hx => ?_
      obtain ⟨v, hv, rfl⟩ := List.mem_map.1 hx
      exact decide_eq_true (hd _ v ha (List.mem_range.1 hv))
    · rw [if_neg hc, if_neg]
      intro hall
      refine hc ?_
      have hd : ∀ v, v < P.length → 0 ≤ dst P.length (adjB P) a.toNat v := fun v hv => by
        have := List.all_eq_true.1 hall _ (List.mem_map.2 ⟨v, List.mem_range.2 hv, rfl⟩)
        simpa using this
      have hn : 0 < P.length := V.1
      unfold connG connOf
      rw [show (0 : Int) = ((0 : Nat) : Int) from rfl, distG_true V hn, dlist_len, decide_eq_true hn, Bool.and_true]
      refine List.all_eq_true.2 fun x hx => ?_
      obtain ⟨v, hv, rfl⟩ := List.mem_map.1 hx
      have h1 : 0 ≤ dst P.length (adjB P) 0 a.toNat := by
        rw [dst_symm hn (adj_lt V) (adj_sym V) ha]
        exact hd 0 hn
      exact decide_eq_true (dst_triangle hn (adj_lt V) ha h1 (hd v (List.mem_range.1 hv))).1
  · have e : distG ids P a = [] := by unfold distG; rw [if_neg (fun hh => h ⟨validB_iff.1 hh.1, hh.2⟩)]
    rw [e]
    by_cases hc : connG ids P = true
    · rw [if_pos hc]; rfl
    · rw [if_neg hc]; rfl
theorem refDiam_l0 (hb : ∀ v, (prt P v).length < Big) (hn : P.length < Big) : ∀ d i : Nat, i + d = P.length → ∀ m : Int, Ev (fun k => selfstabref01_Diameter.l0 k m (i : Int) ids P) (((eccs ids P).drop i).foldl mx m) := by
  unfold Big at hn
  have hle : (eccs ids P).length = P.length := len_map _ _
  intro d
  induction d with
  | zero =>
    intro i hi m
    refine Ev.step (fun k => by rw [selfstabref01_Diameter.l0]) ?_
    simp only [if_neg (show ¬ (i : Int) < (P.length : Int) by omega)]
    rw [List.drop_of_length_le (by omega)]
    exact Ev.now _
  | succ d ih =>
    intro i hi m
    refine Ev.step (fun k => by rw [selfstabref01_Diameter.l0]) ?_
    simp only [if_pos (show (i : Int) < (P.length : Int) by omega), wrap_nat i (by omega)]
    refine Ev.bind (refEcc_ev hb _) ?_
    rw [drop_rd _ i (by omega), List.foldl_cons, show rd (eccs ids P) (i : Int) = eccG ids P (i : Int) from rd_map (fun a => eccG ids P (a : Nat)) P.length i (by omega)]
    exact ih (i + 1) (by omega) _
theorem refDiam_ev (hb : ∀ v, (prt P v).length < Big) (hn : P.length < Big) : Ev (fun k => selfstabref01_Diameter.f k ids P) (diamG ids P) := by
  unfold selfstabref01_Diameter.f
  refine Ev.bind (refConn_ev hb) ?_
  unfold diamG
  by_cases h : connG ids P = true
  · simp only [if_pos h]
    refine Ev_cast (refDiam_l0 hb hn _ 0 (Nat.zero_add _) 0) ?_
    rw [List.drop_zero]
    obtain ⟨V, hd⟩ := conn_all h
    cases hl : eccs ids P with
    | nil =>
      have : (eccs ids P).length = P.length := len_map _ _
      rw [hl] at this
      have := V.1
      simp at *
      omega
    | cons x l =>
      rw [List.foldl_cons, List.foldl_cons]
      have hx : 0 ≤ x := by
        have hm : x ∈ eccs ids P := by rw [hl]; simp
        obtain ⟨a, ha, rfl⟩ := List.mem_map.1 hm
        exact ecc_nonneg h (List.mem_range.1 ha)
      congr 1
      unfold mx
      split <;> split <;> omega
  · simp only [if_neg h]
    exact Ev.now _
/-! ### Size, Tree -/
/-- The number of ports of the first i nodes. -/
def szN (P : List (List Lk)) : Nat → Nat
  | 0 => 0
  | i + 1 => szN P i + (prt P i).length
theorem szN_le (V : ValidG ids P) (i : Nat) : szN P i ≤ 24 * i := by
  induction i with
  | zero => exact Nat.le_refl _
  | succ i ih => have := links_len V i; simp only [szN]; omega
theorem size_l0 (V : ValidG ids P) : ∀ d i : Nat, i + d = P.length → Ev (fun k => graph_Size.l0 k (szN P i : Int) P (P.length : Int) (i : Int) ids P) ((P.length : Int), ((szN P P.length / 2 : Nat) : Int)) := by
  have hn := V.2.1
  intro d
  induction d with
  | zero =>
    intro i hi
    obtain rfl : i = P.length := by omega
    have := szN_le V P.length
    refine Ev.step (fun k => by rw [graph_Size.l0]) ?_
    simp only [if_neg (show ¬ (P.length : Int) < (P.length : Int) by omega)]
    rw [show (2 : Int) = ((2 : Nat) : Int) from rfl, ← Int.ofNat_tdiv, wrap_id _ (by omega) (by omega)]
    exact Ev.now _
  | succ d ih =>
    intro i hi
    have h1 := szN_le V i
    have h2 := links_len V i
    refine Ev.step (fun k => by rw [graph_Size.l0]) ?_
    simp only [if_pos (show (i : Int) < (P.length : Int) by omega), if_pos (show 0 ≤ (i : Int) by omega), wrap_nat i (by omega), rdR_prt]
    rw [wrap_id ((szN P i : Int) + ((prt P i).length : Int)) (by omega) (by omega), show (szN P i : Int) + ((prt P i).length : Int) = ((szN P (i + 1) : Nat) : Int) by simp [szN]]
    exact ih (i + 1) (by omega)
theorem refSize_l0 (V : ValidG ids P) : ∀ d i : Nat, i + d = P.length → Ev (fun k => selfstabref01_Size.l0 k (szN P i : Int) (i : Int) ids P) ((P.length : Int), ((szN P P.length / 2 : Nat) : Int)) := by
  have hn := V.2.1
  intro d
  induction d with
  | zero =>
    intro i hi
    obtain rfl : i = P.length := by omega
    have := szN_le V P.length
    refine Ev.step (fun k => by rw [selfstabref01_Size.l0]) ?_
    simp only [if_neg (show ¬ (P.length : Int) < (P.length : Int) by omega)]
    rw [show (2 : Int) = ((2 : Nat) : Int) from rfl, ← Int.ofNat_tdiv, wrap_id _ (by omega) (by omega)]
    exact Ev.now _
  | succ d ih =>
    intro i hi
    have h1 := szN_le V i
    have h2 := links_len V i
    refine Ev.step (fun k => by rw [selfstabref01_Size.l0]) ?_
    simp only [if_pos (show (i : Int) < (P.length : Int) by omega), if_pos (show 0 ≤ (i : Int) by omega), wrap_nat i (by omega), rdR_prt]
    rw [wrap_id ((szN P i : Int) + ((prt P i).length : Int)) (by omega) (by omega), show (szN P i : Int) + ((prt P i).length : Int) = ((szN P (i + 1) : Nat) : Int) by simp [szN]]
    exact ih (i + 1) (by omega)
def sizeG (ids : List Int) (P : List (List Lk)) : Int × Int := if validB ids P = true then ((P.length : Int), ((szN P P.length / 2 : Nat) : Int)) else (0, 0)
theorem size_ev : Ev (fun k => graph_Size.f k ids P) (sizeG ids P) := by
  unfold graph_Size.f graph_Valid.f sizeG
  simp only [Option.bind_some]
  by_cases h : validB ids P = true
  · simp only [if_pos h]
    exact size_l0 (validB_iff.1 h) _ 0 (Nat.zero_add _)
  · simp only [if_neg h]
    exact Ev.now _
theorem refSize_ev (hb : ∀ v, (prt P v).length < Big) : Ev (fun k => selfstabref01_Size.f k ids P) (sizeG ids P) := by
  unfold selfstabref01_Size.f sizeG
  refine Ev.bind (refValid_ev ids P hb) ?_
  by_cases h : validB ids P = true
  · simp only [if_pos h]
    exact refSize_l0 (validB_iff.1 h) _ 0 (Nat.zero_add _)
  · simp only [if_neg h]
    exact Ev.now _
def treeG (ids : List Int) (P : List (List Lk)) : Bool := if connG ids P = true then ((sizeG ids P).2 == wrap64 ((sizeG ids P).1 - 1)) else false
theorem tree_ev : Ev (fun k => graph_Tree.f k ids P) (treeG ids P) := by
  unfold graph_Tree.f treeG
  refine Ev.bind size_ev ?_
  refine Ev.bind conn_ev ?_
  by_cases h : connG ids P = true
  · simp only [if_pos h]
    exact Ev.now _
  · simp only [if_neg h]
    exact Ev.now _
theorem refTree_ev (hb : ∀ v, (prt P v).length < Big) : Ev (fun k => selfstabref01_Tree.f k ids P) (treeG ids P) := by
  unfold selfstabref01_Tree.f treeG
  refine Ev.bind (refSize_ev hb) ?_
  refine Ev.bind (refConn_ev hb) ?_
  by_cases h : connG ids P = true
  · simp only [if_pos h]
    exact Ev.now _
  · simp only [if_neg h]
    exact Ev.now _
theorem same_l0 (l : List Int) (hl : l.length < Big) : ∀ d i : Nat, i + d = l.length → Ev (fun k => selfstabref01_SameInts.l0 k l l (i : Int)) true := by
  unfold Big at hl
  intro d
  induction d with
  | zero =>
    intro i hi
    refine Ev.step (fun k => by rw [selfstabref01_SameInts.l0]) ?_
    simp only [if_neg (show ¬ (i : Int) < (l.length : Int) by omega)]
    exact Ev.now _
  | succ d ih =>
    intro i hi
    refine Ev.step (fun k => by rw [selfstabref01_SameInts.l0]) ?_
    simp only [if_pos (show (i : Int) < (l.length : Int) by omega), if_pos (show 0 ≤ (i : Int) by omega), wrap_nat i (by omega), if_true]
    exact ih (i + 1) (by omega)
theorem same_ev (l : List Int) (hl : l.length < Big) : Ev (fun k => selfstabref01_SameInts.f k l l) true := by
  unfold selfstabref01_SameInts.f
  simp only [if_true]
  exact same_l0 l hl _ 0 (Nat.zero_add _)
end
end Go.Proofs.Ytbpolpagcaacoaa.P
