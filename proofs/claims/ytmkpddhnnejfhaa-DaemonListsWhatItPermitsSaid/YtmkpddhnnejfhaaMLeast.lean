/- The least element of a set of 32 bits, and the elements one after the other. No program in sight. -/
import Derived.Test.YtmkpddhnnejfhaaMBits
namespace Go.Proofs.Ytmkpddhnnejfhaa.P
open Go.RowKit Go.Proofs.YtmkpddhnnejfhaaW.PrintWords Go.Proofs.YtmkpddhnnejfhaaW.PrintMore
set_option linter.unusedVariables false
/-- The least element of a set, as a set. -/
def leastS (v : Int) : Int := Go.bits .and .u32 v ((-v) % 4294967296)
/-- The sets of one element, ascending: at most n of them. -/
def eachL : Nat → Int → List Int
  | 0, _ => []
  | n + 1, v => if v = 0 then [] else leastS v :: eachL n (Go.bits .andNot .u32 v (leastS v))
def eachDone : Nat → Int → Prop
  | 0, v => v = 0
  | n + 1, v => v = 0 ∨ eachDone n (Go.bits .andNot .u32 v (leastS v))
/-- The set of one node. -/
def pw (i : Nat) : Int := shl .u32 1 (i : Int)
theorem lowest : ∀ (n a : Nat), 0 < a → a < 2 ^ n → ∃ t, t < n ∧ a.testBit t = true ∧ ∀ i, i < t → a.testBit i = false
  | 0, a, h, hl => by simp at hl; omega
  | n + 1, a, h, hl => by
    by_cases h0 : a.testBit 0 = true
    · exact ⟨0, by omega, h0, fun i hi => absurd hi (by omega)⟩
    · have h1 : a % 2 = 0 := by rw [Nat.testBit_zero] at h0; simp at h0; omega
      obtain ⟨t, ht, h2, h3⟩ := lowest n (a / 2) (by omega) (by rw [Nat.pow_succ] at hl; omega)
      refine ⟨t + 1, by omega, by rw [Nat.testBit_succ]; exact h2, fun i hi => ?_⟩
      cases i with
      | zero => simpa using h0
      | succ i => rw [Nat.testBit_succ]; exact h3 i (by omega)
theorem pred_bits : ∀ (t a : Nat), a.testBit t = true → (∀ i, i < t → a.testBit i = false) → ∀ i, (a - 1).testBit i = if i < t then true else if i = t then false else a.testBit i
  | 0, a, h, _, i => by
    rw [Nat.testBit_zero] at h
    have h : a % 2 = 1 := by simpa using h
    rw [if_neg (by omega)]
    cases i with
    | zero => rw [if_pos rfl, Nat.testBit_zero]; simp; omega
    | succ i => rw [if_neg (by omega), Nat.testBit_succ, Nat.testBit_succ, show (a - 1) / 2 = a / 2 by omega]
  | t + 1, a, h, hl, i => by
    have h0 := hl 0 (by omega)
    rw [Nat.testBit_zero] at h0
    have h0 : a % 2 = 0 := by simp at h0; omega
    have ha : 0 < a := by
      rcases Nat.eq_zero_or_pos a with h1 | h1
      · rw [h1] at h; simp at h
      · exact h1
    have ih := pred_bits t (a / 2) (by rw [Nat.testBit_succ] at h; exact h) (fun i hi => by rw [← Nat.testBit_succ]; exact hl (i + 1) (by omega))
    cases i with
    | zero => rw [if_pos (by omega), Nat.testBit_zero]; simp; omega
    | succ i =>
      rw [Nat.testBit_succ, show (a - 1) / 2 = a / 2 - 1 by omega, ih i, Nat.testBit_succ]
      by_cases h1 : i < t
      · rw [if_pos h1, if_pos (show i + 1 < t + 1 by omega)]
      · rw [if_neg h1, if_neg (show ¬ i + 1 < t + 1 by omega)]
        by_cases h2 : i = t
        · rw [if_pos h2, if_pos (show i + 1 = t + 1 by omega)]
        · rw [if_neg h2, if_neg (show ¬ i + 1 = t + 1 by omega)]
theorem bit_lowest {v : Int} (hv : M32 v) (h : v ≠ 0) : ∃ t, t < 32 ∧ bit v t = true ∧ ∀ i, i < t → bit v i = false := by
  obtain ⟨a, rfl, ha⟩ := hv.nat
  obtain ⟨t, h1, h2, h3⟩ := lowest 32 a (by omega) ha
  exact ⟨t, h1, h2, h3⟩
theorem neg_bits {v : Int} (hv : M32 v) (h : v ≠ 0) : M32 ((-v) % 4294967296) ∧ ∀ i, bit ((-v) % 4294967296) i = (decide (i < 32) && !(v.toNat - 1).testBit i) := by
  obtain ⟨a, rfl, ha⟩ := hv.nat
  have e : (-(a : Int)) % 4294967296 = ((2 ^ 32 - ((a - 1) + 1) : Nat) : Int) := by omega
  refine ⟨⟨by omega, by omega⟩, fun i => ?_⟩
  rw [e]
  show (2 ^ 32 - ((a - 1) + 1)).testBit i = _
  rw [Nat.testBit_two_pow_sub_succ (by omega)]
  rfl
theorem least_bits {v : Int} (hv : M32 v) {t : Nat} (ht : bit v t = true) (hl : ∀ i, i < t → bit v i = false) : M32 (leastS v) ∧ ∀ i, bit (leastS v) i = decide (i = t) := by
  have h0 : v ≠ 0 := by rintro rfl; simp [bit] at ht
  obtain ⟨n1, n2⟩ := neg_bits hv h0
  obtain ⟨m1, m2⟩ := M32_and hv n1
  refine ⟨m1, fun i => ?_⟩
  show bit (Go.bits .and .u32 v _) i = _
  rw [m2, n2, pred_bits t v.toNat ht hl i]
  have ht32 : t < 32 := by
    rcases Nat.lt_or_ge t 32 with h | h
    · exact h
    · rw [bit_big hv h] at ht; cases ht
  by_cases h1 : i < t
  · rw [if_pos h1, hl i h1]; simp; omega
  · rw [if_neg h1]
    by_cases h2 : i = t
    · rw [if_pos h2, h2, ht]; simp [ht32]
    · rw [if_neg h2]
      show (bit v i && (decide (i < 32) && !bit v i)) = _
      cases bit v i <;> simp [h2]
theorem M32_least {v : Int} (hv : M32 v) : M32 (leastS v) := by
  by_cases h : v = 0
  · subst h
    have : leastS 0 = 0 := by decide
    rw [this]; exact M32_zero.1
  · obtain ⟨t, _, h1, h2⟩ := bit_lowest hv h
    exact (least_bits hv h1 h2).1
theorem pw_bits {i : Nat} (hi : i < 32) : M32 (pw i) ∧ ∀ u, bit (pw i) u = decide (u = i) := M32_shl hi
theorem least_pw {v : Int} (hv : M32 v) {t : Nat} (ht : bit v t = true) (hl : ∀ i, i < t → bit v i = false) : leastS v = pw t := by
  have ht32 : t < 32 := by
    rcases Nat.lt_or_ge t 32 with h | h
    · exact h
    · rw [bit_big hv h] at ht; cases ht
  obtain ⟨a, b⟩ := least_bits hv ht hl
  obtain ⟨c, d⟩ := pw_bits ht32
  exact M32_ext a c fun u _ => by rw [b, d]
theorem rest_bits {v : Int} (hv : M32 v) {t : Nat} (ht : bit v t = true) (hl : ∀ i, i < t → bit v i = false) : M32 (Go.bits .andNot .u32 v (leastS v)) ∧ ∀ i, bit (Go.bits .andNot .u32 v (leastS v)) i = (bit v i && !decide (i = t)) := by
  obtain ⟨a, b⟩ := least_bits hv ht hl
  obtain ⟨c, d⟩ := M32_andNot hv a
  exact ⟨c, fun i => by rw [d, b]⟩
theorem rest_lt {v : Int} (hv : M32 v) (h : v ≠ 0) : M32 (Go.bits .andNot .u32 v (leastS v)) ∧ Go.bits .andNot .u32 v (leastS v) < v := by
  obtain ⟨t, _, h1, h2⟩ := bit_lowest hv h
  obtain ⟨a, b⟩ := rest_bits hv h1 h2
  refine ⟨a, ?_⟩
  obtain ⟨x, hx, hx2⟩ := a.nat
  obtain ⟨y, hy, hy2⟩ := hv.nat
  rw [hx] at b ⊢
  subst hy
  have e : x &&& y = x := Nat.eq_of_testBit_eq fun i => by
    have := b i
    simp only [bit, Int.toNat_natCast] at this
    rw [Nat.testBit_and, this]
    cases y.testBit i <;> simp
  have hle : x ≤ y := by rw [← e]; exact Nat.and_le_right
  have hne : x ≠ y := by
    rintro rfl
    have := b t
    rw [h1] at this
    simp at this
  omega
theorem each_from : ∀ (d s : Nat) (v : Int), s + d = 32 → M32 v → (∀ i, i < s → bit v i = false) → ∀ n, d ≤ n → eachL n v = ((List.range' s d).filter (bit v)).map pw ∧ eachDone n v
  | 0, s, v, hs, hv, hl, n, _ => by
    have h0 : v = 0 := (M32_eq_zero hv).2 fun i hi => hl i (by omega)
    subst h0
    cases n with
    | zero => exact ⟨rfl, rfl⟩
    | succ n => exact ⟨by simp [eachL], .inl rfl⟩
  | d + 1, s, v, hs, hv, hl, n, hn => by
    rw [List.range'_succ]
    by_cases h : bit v s = true
    · obtain ⟨n, rfl⟩ : ∃ m, n = m + 1 := ⟨n - 1, by omega⟩
      have h0 : v ≠ 0 := by rintro rfl; simp [bit] at h
      obtain ⟨r1, r2⟩ := rest_bits hv h hl
      obtain ⟨e1, e2⟩ := each_from d (s + 1) _ (by omega) r1 (fun i hi => by
        rw [r2]
        by_cases e : i = s
        · simp [e]
        · rw [hl i (by omega)]; rfl) n (by omega)
      refine ⟨?_, .inr e2⟩
      rw [List.filter_cons, if_pos h, List.map_cons]
      show (if v = 0 then [] else leastS v :: eachL n _) = _
      rw [if_neg h0, e1]
      refine congr (congrArg List.cons (least_pw hv h hl)) ?_
      congr 1
      refine List.filter_congr fun i hi => ?_
      have := List.mem_range'.1 hi
      rw [r2]
      simp [show ¬ i = s by omega]
    · have h : bit v s = false := by simpa using h
      rw [List.filter_cons, if_neg (by rw [h]; decide)]
      exact each_from d (s + 1) v (by omega) hv (fun i hi => by
        by_cases e : i = s
        · rw [e]; exact h
        · exact hl i (by omega)) n (by omega)
/-- The elements of a set, ascending. -/
theorem each_all {v : Int} (hv : M32 v) : eachL 32 v = ((List.range 32).filter (bit v)).map pw ∧ eachDone 32 v := by
  have := each_from 32 0 v rfl hv (fun i hi => absurd hi (by omega)) 32 (Nat.le_refl _)
  rwa [← List.range_eq_range'] at this
end Go.Proofs.Ytmkpddhnnejfhaa.P
