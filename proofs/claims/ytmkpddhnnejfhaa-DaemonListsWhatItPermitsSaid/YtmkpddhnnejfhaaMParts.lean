/- The parts of a set, ascending. No program in sight. -/
import Derived.Test.YtmkpddhnnejfhaaMLeast
namespace Go.Proofs.Ytmkpddhnnejfhaa.P
open Go.RowKit Go.Proofs.YtmkpddhnnejfhaaW.PrintWords Go.Proofs.YtmkpddhnnejfhaaW.PrintMore
set_option linter.unusedVariables false
theorem sub_bits : ∀ (n E s : Nat), E < 2 ^ n → (∀ i, s.testBit i = true → E.testBit i = true) → s ≤ E ∧ ∀ i, (E - s).testBit i = (E.testBit i && !s.testBit i)
  | 0, E, s, hE, h => by
    have hE : E = 0 := by simpa using hE
    subst hE
    have hs : s = 0 := Nat.eq_of_testBit_eq fun i => by
      cases hb : s.testBit i with
      | false => simp
      | true => have := h i hb; simp at this
    subst hs
    simp
  | n + 1, E, s, hE, h => by
    obtain ⟨h1, h2⟩ := sub_bits n (E / 2) (s / 2) (by rw [Nat.pow_succ] at hE; omega) (fun i hi => by rw [← Nat.testBit_succ] at hi ⊢; exact h (i + 1) hi)
    have h0 := h 0
    simp only [Nat.testBit_zero, decide_eq_true_iff] at h0
    have hle : s ≤ E := by omega
    refine ⟨hle, fun i => ?_⟩
    cases i with
    | zero =>
      simp only [Nat.testBit_zero]
      rcases Nat.mod_two_eq_zero_or_one s with hs | hs
      · rw [show (E - s) % 2 = E % 2 by omega, hs]; simp
      · have := h0 hs
        rw [show (E - s) % 2 = 0 by omega, hs]; simp
    | succ i =>
      rw [Nat.testBit_succ, show (E - s) / 2 = E / 2 - s / 2 by omega, h2, Nat.testBit_succ, Nat.testBit_succ]
theorem hi_diff : ∀ (n a b : Nat), b < 2 ^ n → a < b → ∃ i, a.testBit i = false ∧ b.testBit i = true ∧ ∀ j, i < j → a.testBit j = b.testBit j
  | 0, a, b, hb, h => by simp at hb; omega
  | n + 1, a, b, hb, h => by
    by_cases h1 : a / 2 < b / 2
    · obtain ⟨i, h2, h3, h4⟩ := hi_diff n (a / 2) (b / 2) (by rw [Nat.pow_succ] at hb; omega) h1
      refine ⟨i + 1, by rw [Nat.testBit_succ]; exact h2, by rw [Nat.testBit_succ]; exact h3, fun j hj => ?_⟩
      obtain ⟨j, rfl⟩ : ∃ m, j = m + 1 := ⟨j - 1, by omega⟩
      rw [Nat.testBit_succ, Nat.testBit_succ]
      exact h4 j (by omega)
    · have e : a / 2 = b / 2 := by omega
      refine ⟨0, by rw [Nat.testBit_zero]; simp; omega, by rw [Nat.testBit_zero]; simp; omega, fun j hj => ?_⟩
      obtain ⟨j, rfl⟩ : ∃ m, j = m + 1 := ⟨j - 1, by omega⟩
      rw [Nat.testBit_succ, Nat.testBit_succ, e]
theorem lt_of_bits : ∀ (i a b : Nat), a.testBit i = false → b.testBit i = true → (∀ j, i < j → a.testBit j = b.testBit j) → a < b
  | 0, a, b, h1, h2, h3 => by
    rw [Nat.testBit_zero] at h1 h2
    simp at h1 h2
    have e : a / 2 = b / 2 := Nat.eq_of_testBit_eq fun j => by rw [← Nat.testBit_succ, ← Nat.testBit_succ]; exact h3 (j + 1) (by omega)
    omega
  | i + 1, a, b, h1, h2, h3 => by
    rw [Nat.testBit_succ] at h1 h2
    have := lt_of_bits i (a / 2) (b / 2) h1 h2 (fun j hj => by rw [← Nat.testBit_succ, ← Nat.testBit_succ]; exact h3 (j + 1) (by omega))
    omega
def SubN (s E : Nat) : Prop := ∀ i, s.testBit i = true → E.testBit i = true
/-- The next part of a set, as the code reckons it. -/
def nextN (E s : Nat) : Nat := (2 ^ 32 - (E - s)) &&& E
theorem next_bits {E s : Nat} (hE : E < 2 ^ 32) (hs : SubN s E) (hne : s ≠ E) : ∃ t, E.testBit t = true ∧ s.testBit t = false ∧ (∀ i, i < t → E.testBit i = true → s.testBit i = true) ∧ ∀ i, (nextN E s).testBit i = if i < t then false else if i = t then true else s.testBit i := by
  obtain ⟨hle, hD⟩ := sub_bits 32 E s hE hs
  obtain ⟨t, ht, h1, h2⟩ := lowest 32 (E - s) (by omega) (by omega)
  have h1' := h1
  rw [hD] at h1'
  simp only [Bool.and_eq_true, Bool.not_eq_true'] at h1'
  refine ⟨t, h1'.1, h1'.2, fun i hi he => ?_, fun i => ?_⟩
  · have := h2 i hi
    rw [hD, he] at this
    simpa using this
  · unfold nextN
    rw [Nat.testBit_and, show 2 ^ 32 - (E - s) = 2 ^ 32 - ((E - s - 1) + 1) by omega, Nat.testBit_two_pow_sub_succ (by omega), pred_bits t (E - s) h1 h2 i]
    by_cases c1 : i < t
    · simp [c1]
    · by_cases c2 : i = t
      · subst c2; simp [h1'.1, ht]
      · simp only [if_neg c1, if_neg c2, hD]
        cases hsb : s.testBit i with
        | true =>
          have he := hs i hsb
          have hi : i < 32 := by
            rcases Nat.lt_or_ge i 32 with h | h
            · exact h
            · rw [Nat.testBit_lt_two_pow (Nat.lt_of_lt_of_le hE (Nat.pow_le_pow_right (by decide) h))] at he; cases he
          simp [he, hi]
        | false => cases E.testBit i <;> simp
theorem le_of_sub {a b : Nat} (hb : b < 2 ^ 32) (h : SubN a b) : a ≤ b := (sub_bits 32 b a hb h).1
theorem next_spec {E s : Nat} (hE : E < 2 ^ 32) (hs : SubN s E) (hne : s ≠ E) : SubN (nextN E s) E ∧ s < nextN E s ∧ nextN E s ≤ E ∧ ∀ t, SubN t E → s < t → nextN E s ≤ t := by
  obtain ⟨t0, h1, h2, h3, h4⟩ := next_bits hE hs hne
  have hsub : SubN (nextN E s) E := fun i hi => by
    rw [h4] at hi
    by_cases c1 : i < t0
    · simp [c1] at hi
    · by_cases c2 : i = t0
      · rw [c2]; exact h1
      · simp only [if_neg c1, if_neg c2] at hi; exact hs i hi
  have hlt : s < nextN E s := lt_of_bits t0 _ _ h2 (by rw [h4]; simp) (fun j hj => by rw [h4, if_neg (by omega), if_neg (by omega)])
  refine ⟨hsub, hlt, le_of_sub hE hsub, fun t ht hst => ?_⟩
  have htE := le_of_sub hE ht
  obtain ⟨i, a1, a2, a3⟩ := hi_diff 32 s t (by omega) hst
  have hi : t0 ≤ i := by
    rcases Nat.lt_or_ge i t0 with h | h
    · have := h3 i h (ht i a2); rw [a1] at this; cases this
    · exact h
  rcases Nat.lt_or_ge t0 i with h | h
  · refine Nat.le_of_lt (lt_of_bits i _ _ ?_ a2 fun j hj => ?_)
    · rw [h4, if_neg (by omega), if_neg (by omega)]; exact a1
    · rw [h4, if_neg (by omega), if_neg (by omega)]; exact a3 j hj
  · obtain rfl : i = t0 := by omega
    refine le_of_sub (by omega) fun j hj => ?_
    rw [h4] at hj
    by_cases c1 : j < i
    · simp [c1] at hj
    · by_cases c2 : j = i
      · rw [c2]; exact a2
      · simp only [if_neg c1, if_neg c2] at hj
        rw [← a3 j (by omega)]; exact hj
theorem next_end (E : Nat) (hE : E < 2 ^ 32) : nextN E E = 0 := by
  unfold nextN
  rw [Nat.sub_self, Nat.sub_zero]
  refine Nat.eq_of_testBit_eq fun i => ?_
  rw [Nat.testBit_and, Nat.testBit_two_pow, Nat.zero_testBit]
  by_cases h : 32 = i
  · subst h
    rw [Nat.testBit_lt_two_pow hE]; simp
  · simp [h]
/-- The next part, in the numbers of the print. -/
theorem next_eq {E s : Nat} (hE : E < 2 ^ 32) (hs : s ≤ E) : Go.bits .and .u32 (((s : Int) - (E : Int)) % 4294967296) (E : Int) = (nextN E s : Int) := by
  by_cases he : s = E
  · subst he
    rw [Int.sub_self, next_end s hE]
    have := (M32_and (a := 0) (b := (s : Int)) M32_zero.1 ⟨by omega, by omega⟩)
    exact (M32_eq_zero this.1).2 fun v _ => by show bit (Go.bits .and .u32 0 (s : Int)) v = false; rw [this.2, M32_zero.2]; rfl
  · have e : ((s : Int) - (E : Int)) % 4294967296 = ((2 ^ 32 - (E - s) : Nat) : Int) := by omega
    rw [e, (bits_nat .u32 32 (by decide) (fun n h0 h1 => u32_id n h0 h1) _ E (by omega) hE).1]
    rfl
theorem next_zero {E : Nat} (hE : E < 2 ^ 32) : Go.bits .and .u32 ((-(E : Int)) % 4294967296) (E : Int) = (nextN E 0 : Int) := by
  have := next_eq (E := E) (s := 0) hE (Nat.zero_le _)
  rw [← this]
  simp
def subB (E x : Nat) : Bool := x &&& E == x
theorem subB_iff {E x : Nat} : subB E x = true ↔ SubN x E := by
  unfold subB SubN
  rw [beq_iff_eq]
  constructor
  · intro h i hi
    rw [← h, Nat.testBit_and] at hi
    simp at hi; exact hi.2
  · intro h
    refine Nat.eq_of_testBit_eq fun i => ?_
    rw [Nat.testBit_and]
    cases hb : x.testBit i with
    | false => rfl
    | true => rw [h i hb]; rfl
/-- The parts of a set from s on, ascending. -/
def subsN (E s : Nat) : List Int := ((List.range' s (E + 1 - s)).filter (subB E)).map fun x : Nat => (x : Int)
theorem subs_skip {E s n : Nat} (hn : n ≤ E + 1) (hs : s ≤ n) (h : ∀ x, s ≤ x → x < n → ¬ SubN x E) : subsN E s = subsN E n := by
  unfold subsN
  rw [show E + 1 - s = (n - s) + (E + 1 - n) by omega, ← List.range'_append_1, List.filter_append, show s + (n - s) = n by omega]
  rw [List.filter_eq_nil_iff.2 (fun x hx hb => ?_), List.nil_append]
  have := List.mem_range'_1.1 hx
  exact h x (by omega) (by omega) (subB_iff.1 hb)
theorem subs_last {E : Nat} : subsN E E = [(E : Int)] := by
  unfold subsN
  rw [show E + 1 - E = 1 by omega]
  have : subB E E = true := subB_iff.2 fun i h => h
  simp [this]
theorem subs_step {E s : Nat} (hE : E < 2 ^ 32) (hs : SubN s E) (hne : s ≠ E) : subsN E s = (s : Int) :: subsN E (nextN E s) := by
  obtain ⟨h1, h2, h3, h4⟩ := next_spec hE hs hne
  have hle := le_of_sub hE hs
  have e : subsN E s = (s : Int) :: subsN E (s + 1) := by
    unfold subsN
    rw [show E + 1 - s = (E + 1 - (s + 1)) + 1 by omega, List.range'_succ, List.filter_cons, if_pos (subB_iff.2 hs), List.map_cons]
  rw [e, subs_skip (n := nextN E s) (by omega) (by omega) fun x hx hxn hsub => by have := h4 x hsub (by omega); omega]
theorem subs_first {E : Nat} (hE : E < 2 ^ 32) (h0 : 0 < E) : subsN E 1 = subsN E (nextN E 0) := by
  have hz : SubN 0 E := fun i hi => by simp at hi
  obtain ⟨h1, h2, h3, h4⟩ := next_spec hE hz (by omega)
  exact subs_skip (by omega) (by omega) fun x hx hxn hsub => by have := h4 x hsub (by omega); omega
theorem mem_subs {E : Nat} {s : Nat} {x : Int} : x ∈ subsN E s ↔ ∃ y : Nat, x = y ∧ s ≤ y ∧ y ≤ E ∧ SubN y E := by
  unfold subsN
  simp only [List.mem_map, List.mem_filter, List.mem_range'_1, subB_iff]
  constructor
  · rintro ⟨y, ⟨h1, h2⟩, rfl⟩; exact ⟨y, rfl, by omega, by omega, h2⟩
  · rintro ⟨y, rfl, h1, h2, h3⟩; exact ⟨y, ⟨by omega, h3⟩, rfl⟩
theorem subs_sorted (E s : Nat) : (subsN E s).Pairwise (· < ·) := by
  unfold subsN
  rw [List.pairwise_map]
  refine List.Pairwise.imp ?_ ((List.pairwise_lt_range' (s := s) (n := E + 1 - s)).filter _)
  intro a b h; omega
theorem subs_len (E s : Nat) : (subsN E s).length ≤ E + 1 - s := by
  unfold subsN
  rw [List.length_map]
  exact Nat.le_trans (List.length_filter_le _ _) (by simp)
theorem popAux_eq : ∀ (f x : Nat), Lib.popAux f x = (List.range f).countP (fun i => x.testBit i)
  | 0, x => rfl
  | f + 1, x => by
    rw [List.range_succ_eq_map, List.countP_cons, List.countP_map, Lib.popAux, popAux_eq f (x / 2)]
    have : ((fun i => x.testBit i) ∘ Nat.succ) = fun i => (x / 2).testBit i := by funext i; exact Nat.testBit_succ x i
    rw [this, Nat.testBit_zero]
    rcases Nat.mod_two_eq_zero_or_one x with h | h <;> simp [h] <;> omega
end Go.Proofs.Ytmkpddhnnejfhaa.P
