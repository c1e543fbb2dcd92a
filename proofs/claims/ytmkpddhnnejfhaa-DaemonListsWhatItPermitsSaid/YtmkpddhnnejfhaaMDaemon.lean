/- What the daemons permit, of the program and of the reference. -/
import Derived.Test.YtmkpddhnnejfhaaMSet15
import Derived.Test.YtmkpddhnnejfhaaMLeast
import Derived.Test.YtmkpddhnnejfhaaP3
import Derived.Test.YtmkpddhnnejfhaaP3
import Derived.Test.YtmkpddhnnejfhaaP3
import Derived.Test.YtmkpddhnnejfhaaP4
import Derived.Test.YtmkpddhnnejfhaaP4
import Derived.Test.YtmkpddhnnejfhaaP6
import Derived.Test.YtmkpddhnnejfhaaP4
import Derived.Test.YtmkpddhnnejfhaaP6
import Derived.Test.YtmkpddhnnejfhaaP4
namespace Go.Proofs.Ytmkpddhnnejfhaa.P
open Go.RowKit Go.Proofs.YtmkpddhnnejfhaaW.PrintWords Go.Proofs.YtmkpddhnnejfhaaW.PrintMore
set_option linter.unusedVariables false
variable {ids : List Int} {P : List (List Lk)}
/-- All elements are nodes. -/
def InG (P : List (List Lk)) (m : Int) : Prop := ∀ v, bit m v = true → v < P.length
def inB (P : List (List Lk)) (m : Int) : Bool := decide (Lib.bitLen m.toNat ≤ P.length)
theorem inB_iff {m : Int} (hm : M32 m) : inB P m = true ↔ InG P m := by
  unfold inB InG
  rw [decide_eq_true_iff, bitLen_le hm]
  constructor
  · intro h v hv
    rcases Nat.lt_or_ge v P.length with h1 | h1
    · exact h1
    · rw [h v h1] at hv; cases hv
  · intro h v hv
    cases hb : bit m v with
    | false => rfl
    | true => have := h v hb; omega
theorem len32_eq {m : Int} (hm : M32 m) : bits_Len32.f m = some (Lib.bitLen m.toNat : Int) := by
  unfold bits_Len32.f
  rw [if_pos ⟨hm.1, by have := hm.2; omega⟩]
theorem nodes_eq {m : Int} (hm : M32 m) : daemon_nodes.f ids P m = some (inB P m) := by
  unfold daemon_nodes.f
  rw [len32_eq hm, Option.bind_some]
  unfold inB
  congr 1
  exact decide_eq_decide.2 (by omega)
theorem dvalid_eq (k : Int) : daemon_Valid.f k = some (decide (1 ≤ k ∧ k ≤ 4)) := by
  unfold daemon_Valid.f
  by_cases h : k ≥ 1
  · rw [if_pos h]; congr 1; exact decide_eq_decide.2 (by omega)
  · rw [if_neg h, decide_eq_false (by omega)]
theorem rvalid15_eq (k : Int) : selfstabref15_Valid.f k = some (decide (1 ≤ k ∧ k ≤ 4)) := by
  unfold selfstabref15_Valid.f
  by_cases h : k ≥ 1
  · rw [if_pos h]; congr 1; exact decide_eq_decide.2 (by omega)
  · rw [if_neg h, decide_eq_false (by omega)]
/-- Is a a part of b? -/
def Part (a b : Int) : Prop := ∀ v, bit a v = true → bit b v = true
theorem part_iff {a b : Int} (ha : M32 a) (hb : M32 b) : Go.bits .andNot .u32 a b = 0 ↔ Part a b := by
  obtain ⟨h1, h2⟩ := M32_andNot ha hb
  rw [M32_eq_zero h1]
  constructor
  · intro h v hv
    rcases Nat.lt_or_ge v 32 with hl | hl
    · have := h v hl
      rw [h2, hv] at this
      simpa using this
    · rw [bit_big ha hl] at hv; cases hv
  · intro h v _
    rw [h2]
    cases hb : bit a v with
    | false => rfl
    | true => rw [h v hb]; rfl
/-- What a daemon permits, at a valid graph. -/
def PermP (P : List (List Lk)) (kind en ch : Int) : Prop := ch ≠ 0 ∧ Part ch en ∧ (kind = 1 → ch = leastS ch) ∧ (kind = 2 → Indep P ch) ∧ (kind = 4 → ch = en)
theorem permits_j0 (V : ValidG ids P) (kind : Int) {en ch : Int} (he : M32 en) (hc : M32 ch) : ∃ b, Ev (fun k => daemon_permits.j0 k kind en ch false ids P) b ∧ (b = true ↔ (kind = 1 → ch = leastS ch) ∧ (kind = 2 → Indep P ch) ∧ (kind = 4 → ch = en)) := by
  by_cases k1 : kind = 1
  · refine ⟨ch == leastS ch, Ev.step (fun k => by rw [daemon_permits.j0]) ?_, ?_⟩
    · simp only [Bool.false_eq_true, if_false, if_pos k1, daemon_least.f, Option.bind_some]
      exact Ev.now _
    · rw [beq_iff_eq]
      exact ⟨fun h => ⟨fun _ => h, fun h2 => by omega, fun h4 => by omega⟩, fun h => h.1 k1⟩
  by_cases k2 : kind = 2
  · obtain ⟨b, hb, hiff⟩ := indep_ev (ids := ids) (P := P) hc
    refine ⟨b, Ev.step (fun k => by rw [daemon_permits.j0]) ?_, ?_⟩
    · simp only [Bool.false_eq_true, if_false, if_neg k1, if_pos k2]
      refine Ev.bind hb ?_
      exact Ev.now _
    · rw [hiff]
      exact ⟨fun h => ⟨fun h1 => absurd h1 k1, fun _ => h.2, fun h4 => by omega⟩, fun h => ⟨V, h.2.1 k2⟩⟩
  by_cases k4 : kind = 4
  · refine ⟨ch == en, Ev.step (fun k => by rw [daemon_permits.j0]) ?_, ?_⟩
    · simp only [Bool.false_eq_true, if_false, if_neg k1, if_neg k2, if_pos k4]
      exact Ev.now _
    · rw [beq_iff_eq]
      exact ⟨fun h => ⟨fun h1 => absurd h1 k1, fun h2 => absurd h2 k2, fun _ => h⟩, fun h => h.2.2 k4⟩
  · refine ⟨true, Ev.step (fun k => by rw [daemon_permits.j0]) ?_, ?_⟩
    · simp only [Bool.false_eq_true, if_false, if_neg k1, if_neg k2, if_neg k4]
      exact Ev.now _
    · exact ⟨fun _ => ⟨fun h1 => absurd h1 k1, fun h2 => absurd h2 k2, fun h4 => absurd h4 k4⟩, fun _ => rfl⟩
theorem permits_ev (V : ValidG ids P) (kind : Int) {en ch : Int} (he : M32 en) (hc : M32 ch) : ∃ b, Ev (fun k => daemon_permits.f k ids P kind en ch) b ∧ (b = true ↔ PermP P kind en ch) := by
  have hf : Ev (fun k => daemon_permits.j0 k kind en ch true ids P) false := Ev.step (fun k => by rw [daemon_permits.j0]) (by simp only [if_true]; exact Ev.now _)
  unfold daemon_permits.f PermP
  by_cases h0 : ch = 0
  · simp only [if_pos h0]
    exact ⟨false, hf, nofun, fun h => absurd h0 h.1⟩
  · simp only [if_neg h0]
    by_cases hp : Go.bits .andNot .u32 ch en = 0
    · simp only [bne_eq_false_iff_eq.mpr hp]
      obtain ⟨b, hb, hiff⟩ := permits_j0 V kind he hc
      exact ⟨b, hb, hiff.trans ⟨fun h => ⟨h0, (part_iff hc he).1 hp, h⟩, fun h => h.2.2⟩⟩
    · simp only [bne_iff_ne.mpr hp]
      exact ⟨false, hf, nofun, fun h => absurd ((part_iff hc he).2 h.2.1) hp⟩
/-- Permits of the program. -/
def PermG (ids : List Int) (P : List (List Lk)) (kind en ch : Int) : Prop := ValidG ids P ∧ (1 ≤ kind ∧ kind ≤ 4) ∧ InG P en ∧ PermP P kind en ch
theorem Permits_ev (ids : List Int) (P : List (List Lk)) (kind : Int) {en ch : Int} (he : M32 en) (hc : M32 ch) : ∃ b, Ev (fun k => daemon_Permits.f k ids P kind en ch) b ∧ (b = true ↔ PermG ids P kind en ch) := by
  unfold daemon_Permits.f PermG
  simp only [graph_Valid.f, Option.bind_some]
  cases hv : validB ids P with
  | false =>
    simp only [Bool.false_eq_true, if_false]
    exact ⟨false, Ev.now _, nofun, fun h => by rw [validB_true h.1] at hv; cases hv⟩
  | true =>
    have V := validB_iff.1 hv
    simp only [if_true, dvalid_eq, Option.bind_some]
    by_cases hk : 1 ≤ kind ∧ kind ≤ 4
    · simp only [decide_eq_true hk, if_true, nodes_eq he, Option.bind_some]
      cases hi : inB P en with
      | false =>
        simp only [Bool.false_eq_true, if_false]
        exact ⟨false, Ev.now _, nofun, fun h => by rw [(inB_iff he).2 h.2.2.1] at hi; cases hi⟩
      | true =>
        obtain ⟨b, hb, hiff⟩ := permits_ev V kind he hc
        refine ⟨b, ?_, hiff.trans ⟨fun h => ⟨V, hk, (inB_iff he).1 hi, h⟩, fun h => h.2.2.2⟩⟩
        simp only [if_true]
        exact Ev.bind hb (Ev.now _)
    · simp only [decide_eq_false hk, Bool.false_eq_true, if_false]
      exact ⟨false, Ev.now _, nofun, fun h => absurd h.2.1 hk⟩
/-! ### the reference -/
/-- How many elements a set has. -/
def card (m : Int) : Nat := (List.range 32).countP (bit m)
theorem count_l0 {m : Int} (hm : M32 m) : ∀ d i c : Nat, i + d = 32 → c ≤ i → Ev (fun k => selfstabref15_Count.l0 k m (c : Int) (i : Int)) ((c + ((List.range' i d).countP (bit m)) : Nat) : Int)
  | 0, i, c, hi, hc => by
    refine Ev.step (fun k => by rw [selfstabref15_Count.l0]) ?_
    simp only [if_neg (show ¬ (i : Int) < 32 by omega)]
    exact Ev.now _
  | d + 1, i, c, hi, hc => by
    refine Ev.step (fun k => by rw [selfstabref15_Count.l0]) ?_
    simp only [if_pos (show (i : Int) < 32 by omega), has_eq hm, Option.bind_some]
    rw [List.range'_succ, List.countP_cons]
    cases hb : bit m i with
    | true =>
      simp only [if_true, wrap_nat i (by omega), wrap_nat c (by omega)]
      refine Ev_cast (count_l0 hm d (i + 1) (c + 1) (by omega) (by omega)) ?_
      congr 1; omega
    | false =>
      simp only [Bool.false_eq_true, if_false, wrap_nat i (by omega)]
      exact count_l0 hm d (i + 1) c (by omega) (by omega)
theorem count_ev {m : Int} (hm : M32 m) : Ev (fun k => selfstabref15_Count.f k m) (card m : Int) := by
  unfold selfstabref15_Count.f card
  rw [List.range_eq_range']
  exact Ev_cast (count_l0 hm 32 0 0 rfl (Nat.le_refl _)) (by rw [Nat.zero_add])
theorem countP_one {p : Nat → Bool} {n t : Nat} (ht : t < n) (hp : p t = true) (hu : ∀ i, i < n → p i = true → i = t) : (List.range n).countP p = 1 := by
  induction n with
  | zero => omega
  | succ n ih =>
    rw [List.range_succ, List.countP_append]
    by_cases h : n = t
    · subst h
      have : (List.range n).countP p = 0 := List.countP_eq_zero.2 fun i hi hpi => by have := List.mem_range.1 hi; have := hu i (by omega) hpi; omega
      rw [this]
      simp [hp]
    · rw [ih (by omega) (fun i hi hpi => hu i (by omega) hpi)]
      have : ¬ p n = true := fun hpn => h (hu n (by omega) hpn)
      simp [this]
theorem card_one {m : Int} (hm : M32 m) (h0 : m ≠ 0) : card m = 1 ↔ m = leastS m := by
  obtain ⟨t, ht, h1, h2⟩ := bit_lowest hm h0
  obtain ⟨l1, l2⟩ := least_bits hm h1 h2
  constructor
  · intro hc
    refine M32_ext hm l1 fun v hv => ?_
    rw [l2]
    by_cases e : v = t
    · rw [e, h1]; simp
    · rw [decide_eq_false e]
      cases hb : bit m v with
      | false => rfl
      | true =>
        exfalso
        unfold card at hc
        have h3 : (([t, v] : List Nat).countP (bit m)) ≤ (List.range 32).countP (bit m) := by
          rcases Nat.lt_or_ge t v with hl | hl
          · have hs : List.Sublist [t, v] (List.range 32) := by
              have e1 : List.range 32 = List.range' 0 (t + 1) ++ List.range' (t + 1) (31 - t) := by rw [List.range_eq_range', show (32 : Nat) = (t + 1) + (31 - t) by omega, ← List.range'_append_1]; simp
              rw [e1, show ([t, v] : List Nat) = [t] ++ [v] from rfl]
              exact List.Sublist.append (List.singleton_sublist.2 (List.mem_range'_1.2 (by omega))) (List.singleton_sublist.2 (List.mem_range'_1.2 (by omega)))
            exact hs.countP_le
          · have hs : List.Sublist [v, t] (List.range 32) := by
              have e1 : List.range 32 = List.range' 0 (v + 1) ++ List.range' (v + 1) (31 - v) := by rw [List.range_eq_range', show (32 : Nat) = (v + 1) + (31 - v) by omega, ← List.range'_append_1]; simp
              rw [e1, show ([v, t] : List Nat) = [v] ++ [t] from rfl]
              exact List.Sublist.append (List.singleton_sublist.2 (List.mem_range'_1.2 (by omega))) (List.singleton_sublist.2 (List.mem_range'_1.2 (by omega)))
            have := hs.countP_le (p := bit m)
            simp [h1, hb] at this ⊢
            exact this
        rw [hc] at h3
        simp [h1, hb] at h3
  · intro e
    refine countP_one ht h1 fun i hi hb => ?_
    rw [e, l2] at hb
    simpa using hb
theorem possible_ev (hb : ∀ v, (prt P v).length < Big) (hl : P.length ≤ 30) (kind : Int) {en : Int} (he : M32 en) : ∃ b, Ev (fun k => selfstabref15_possible.f k ids P kind en) b ∧ (b = true ↔ ValidG ids P ∧ (1 ≤ kind ∧ kind ≤ 4) ∧ InG P en) := by
  unfold selfstabref15_possible.f
  cases hv : validB ids P with
  | false =>
    refine ⟨false, Ev.bind (refValid_ev ids P hb) ?_, nofun, fun h => by rw [validB_true h.1] at hv; cases hv⟩
    rw [hv]
    simp only [Bool.false_eq_true, if_false]
    exact Ev.now _
  | true =>
    have V := validB_iff.1 hv
    by_cases hk : 1 ≤ kind ∧ kind ≤ 4
    · obtain ⟨r, hr, hm, hbit⟩ := all_ev P.length (by omega)
      refine ⟨Go.bits .andNot .u32 en r == 0, Ev.bind (refValid_ev ids P hb) ?_, ?_⟩
      · rw [hv]
        simp only [if_true, rvalid15_eq, Option.bind_some, decide_eq_true hk]
        exact Ev.bind hr (Ev.now _)
      · rw [beq_iff_eq, part_iff he hm]
        unfold Part InG
        simp only [hbit, decide_eq_true_iff]
        exact ⟨fun h => ⟨V, hk, h⟩, fun h => h.2.2⟩
    · refine ⟨false, Ev.bind (refValid_ev ids P hb) ?_, nofun, fun h => absurd h.2.1 hk⟩
      rw [hv]
      simp only [if_true, rvalid15_eq, Option.bind_some, decide_eq_false hk, Bool.false_eq_true, if_false]
      exact Ev.now _
theorem rpermits_j0 (V : ValidG ids P) (hb : ∀ v, (prt P v).length < Big) (kind : Int) {en ch : Int} (he : M32 en) (hc : M32 ch) (h0 : ch ≠ 0) : ∃ b, Ev (fun k => selfstabref15_Permits.j0 k kind en ch false ids P) b ∧ (b = true ↔ (kind = 1 → ch = leastS ch) ∧ (kind = 2 → Indep P ch) ∧ (kind = 4 → ch = en)) := by
  by_cases k1 : kind = 1
  · refine ⟨(card ch : Int) == 1, Ev.step (fun k => by rw [selfstabref15_Permits.j0]) ?_, ?_⟩
    · simp only [Bool.false_eq_true, if_false, if_pos k1]
      exact Ev.bind (count_ev hc) (Ev.now _)
    · rw [beq_iff_eq]
      have := card_one hc h0
      exact ⟨fun h => ⟨fun _ => this.1 (by omega), fun h2 => by omega, fun h4 => by omega⟩, fun h => by have := this.2 (h.1 k1); omega⟩
  by_cases k2 : kind = 2
  · obtain ⟨b, hb1, hb2⟩ := refIndep_ev (ids := ids) hb hc
    obtain ⟨b', hb', hiff⟩ := indep_ev (ids := ids) (P := P) hc
    obtain rfl := Ev_uniq hb1 hb'
    refine ⟨b, Ev.step (fun k => by rw [selfstabref15_Permits.j0]) ?_, ?_⟩
    · simp only [Bool.false_eq_true, if_false, if_neg k1, if_pos k2]
      exact Ev.bind hb2 (Ev.now _)
    · rw [hiff]
      exact ⟨fun h => ⟨fun h1 => absurd h1 k1, fun _ => h.2, fun h4 => by omega⟩, fun h => ⟨V, h.2.1 k2⟩⟩
  by_cases k4 : kind = 4
  · refine ⟨ch == en, Ev.step (fun k => by rw [selfstabref15_Permits.j0]) ?_, ?_⟩
    · simp only [Bool.false_eq_true, if_false, if_neg k1, if_neg k2, if_pos k4]
      exact Ev.now _
    · rw [beq_iff_eq]
      exact ⟨fun h => ⟨fun h1 => absurd h1 k1, fun h2 => absurd h2 k2, fun _ => h⟩, fun h => h.2.2 k4⟩
  · refine ⟨true, Ev.step (fun k => by rw [selfstabref15_Permits.j0]) ?_, ?_⟩
    · simp only [Bool.false_eq_true, if_false, if_neg k1, if_neg k2, if_neg k4]
      exact Ev.now _
    · exact ⟨fun _ => ⟨fun h1 => absurd h1 k1, fun h2 => absurd h2 k2, fun h4 => absurd h4 k4⟩, fun _ => rfl⟩
theorem rPermits_ev (hb : ∀ v, (prt P v).length < Big) (hl : P.length ≤ 30) (kind : Int) {en ch : Int} (he : M32 en) (hc : M32 ch) : ∃ b, Ev (fun k => selfstabref15_Permits.f k ids P kind en ch) b ∧ (b = true ↔ PermG ids P kind en ch) := by
  have hf : Ev (fun k => selfstabref15_Permits.j0 k kind en ch true ids P) false := Ev.step (fun k => by rw [selfstabref15_Permits.j0]) (by simp only [if_true]; exact Ev.now _)
  unfold selfstabref15_Permits.f PermG PermP
  obtain ⟨p, hp, hpiff⟩ := possible_ev (ids := ids) hb hl kind he
  cases p with
  | false =>
    refine ⟨false, Ev.bind hp ?_, nofun, fun h => by have := hpiff.2 ⟨h.1, h.2.1, h.2.2.1⟩; cases this⟩
    simp only [Bool.false_eq_true, if_false]
    exact hf
  | true =>
    obtain ⟨V, hk, hi⟩ := hpiff.1 rfl
    by_cases h0 : ch = 0
    · refine ⟨false, Ev.bind hp ?_, nofun, fun h => absurd h0 h.2.2.2.1⟩
      simp only [if_true, if_pos h0]
      exact hf
    · by_cases hpt : Go.bits .andNot .u32 ch en = 0
      · obtain ⟨b, hb2, hiff⟩ := rpermits_j0 V hb kind he hc h0
        refine ⟨b, Ev.bind hp ?_, hiff.trans ⟨fun h => ⟨V, hk, hi, h0, (part_iff hc he).1 hpt, h⟩, fun h => h.2.2.2.2.2⟩⟩
        simp only [if_true, if_neg h0, bne_eq_false_iff_eq.mpr hpt]
        exact hb2
      · refine ⟨false, Ev.bind hp ?_, nofun, fun h => absurd ((part_iff hc he).2 h.2.2.2.2.1) hpt⟩
        simp only [if_true, if_neg h0, bne_iff_ne.mpr hpt]
        exact hf
theorem within_eq (a b : Int) : selfstabref15_Within.f a b = daemon_Within.f a b := by
  unfold selfstabref15_Within.f daemon_Within.f
  simp only [rvalid15_eq, dvalid_eq]
end Go.Proofs.Ytmkpddhnnejfhaa.P
