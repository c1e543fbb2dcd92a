/- Sets of nodes as numbers of 32 bits: which bits the operations leave. No program in sight. -/
import Derived.Test.YtmkpddhnnejfhaaP0
import Derived.Lib.BitFns
namespace Go.Proofs.Ytmkpddhnnejfhaa.P
open Go.RowKit Go.Proofs.YtmkpddhnnejfhaaW.PrintWords Go.Proofs.YtmkpddhnnejfhaaW.PrintMore
set_option linter.unusedVariables false

/-- A number of 32 bits. -/
def M32 (m : Int) : Prop := 0 ≤ m ∧ m < 4294967296
/-- Is node v in the set? -/
def bit (m : Int) (v : Nat) : Bool := m.toNat.testBit v
theorem M32.nat {m : Int} (h : M32 m) : ∃ a : Nat, m = a ∧ a < 2 ^ 32 := ⟨m.toNat, by have := h.1; omega, by have := h.1; have := h.2; omega⟩
theorem u32_id (n : Int) (h0 : 0 ≤ n) (h1 : n < 2 ^ 32) : IntKind.u32.wrap n = n := by rw [IntKind.wrap_u32]; omega
theorem M32_or {a b : Int} (ha : M32 a) (hb : M32 b) : M32 (Go.bits .or .u32 a b) ∧ ∀ v, bit (Go.bits .or .u32 a b) v = (bit a v || bit b v) := by
  obtain ⟨a, rfl, ha2⟩ := ha.nat
  obtain ⟨b, rfl, hb2⟩ := hb.nat
  rw [(bits_nat .u32 32 (by decide) (fun n h0 h1 => u32_id n h0 h1) a b ha2 hb2).2]
  have := Nat.or_lt_two_pow ha2 hb2
  exact ⟨⟨by omega, by omega⟩, fun v => by simp [bit]⟩
theorem M32_and {a b : Int} (ha : M32 a) (hb : M32 b) : M32 (Go.bits .and .u32 a b) ∧ ∀ v, bit (Go.bits .and .u32 a b) v = (bit a v && bit b v) := by
  obtain ⟨a, rfl, ha2⟩ := ha.nat
  obtain ⟨b, rfl, hb2⟩ := hb.nat
  rw [(bits_nat .u32 32 (by decide) (fun n h0 h1 => u32_id n h0 h1) a b ha2 hb2).1]
  have := Nat.and_lt_two_pow a hb2
  exact ⟨⟨by omega, by omega⟩, fun v => by simp [bit]⟩
theorem M32_andNot {a b : Int} (ha : M32 a) (hb : M32 b) : M32 (Go.bits .andNot .u32 a b) ∧ ∀ v, bit (Go.bits .andNot .u32 a b) v = (bit a v && !bit b v) := by
  obtain ⟨a, rfl, ha2⟩ := ha.nat
  obtain ⟨b, rfl, hb2⟩ := hb.nat
  have e : Go.bits .andNot .u32 (a : Int) (b : Int) = (((BitVec.ofNat 32 a &&& ~~~BitVec.ofNat 32 b).toNat : Nat) : Int) := by
    show IntKind.u32.wrap (((BitVec.ofInt 32 (a : Int) &&& ~~~BitVec.ofInt 32 (b : Int)).toNat : Nat) : Int) = _
    rw [BitVec.ofInt_natCast, BitVec.ofInt_natCast]
    have := (BitVec.ofNat 32 a &&& ~~~BitVec.ofNat 32 b).isLt
    exact u32_id _ (by omega) (by omega)
  rw [e]
  have hl := (BitVec.ofNat 32 a &&& ~~~BitVec.ofNat 32 b).isLt
  refine ⟨⟨by omega, by omega⟩, fun v => ?_⟩
  show ((BitVec.ofNat 32 a &&& ~~~BitVec.ofNat 32 b).toNat).testBit v = _
  rw [BitVec.testBit_toNat, BitVec.getLsbD_and, BitVec.getLsbD_not, BitVec.getLsbD_ofNat, BitVec.getLsbD_ofNat]
  simp only [bit, Int.toNat_natCast]
  by_cases hv : v < 32
  · simp [hv]
  · have h1 : a.testBit v = false := Nat.testBit_lt_two_pow (Nat.lt_of_lt_of_le ha2 (Nat.pow_le_pow_right (n := 2) (by decide) (show 32 ≤ v by omega)))
    simp [hv, h1]
theorem M32_shl {v : Nat} (hv : v < 32) : M32 (shl .u32 1 (v : Int)) ∧ ∀ u, bit (shl .u32 1 (v : Int)) u = decide (u = v) := by
  have hp : 2 ^ v < 2 ^ 32 := Nat.pow_lt_pow_right (by decide) hv
  have e : shl .u32 1 (v : Int) = ((2 ^ v : Nat) : Int) := by
    unfold shl
    rw [show min (v : Int).toNat IntKind.u32.bits = v by simp [IntKind.bits]; omega, Int.one_mul, show (2 : Int) ^ v = ((2 ^ v : Nat) : Int) by simp]
    exact u32_id _ (Int.natCast_nonneg _) (by omega)
  have hM : M32 ((2 ^ v : Nat) : Int) := ⟨Int.natCast_nonneg _, by omega⟩
  rw [e]
  refine ⟨hM, fun u => ?_⟩
  show (2 ^ v).testBit u = _
  rw [Nat.testBit_two_pow]
  by_cases h : v = u <;> simp [h, eq_comm]
theorem M32_zero : M32 0 ∧ ∀ v, bit 0 v = false := ⟨⟨by omega, by omega⟩, fun v => by simp [bit]⟩
theorem shr_test {m : Int} (hm : M32 m) (v : Nat) : Go.bits .and .u32 (shr .u32 m (v : Int)) 1 = if bit m v then 1 else 0 := by
  obtain ⟨a, rfl, ha⟩ := hm.nat
  have e : shr .u32 (a : Int) (v : Int) = ((a / 2 ^ min v 32 : Nat) : Int) := by
    unfold shr
    simp [IntKind.bits]
  have hlt : a / 2 ^ min v 32 < 2 ^ 32 := Nat.lt_of_le_of_lt (Nat.div_le_self _ _) ha
  rw [e, show (1 : Int) = ((1 : Nat) : Int) from rfl, (bits_nat .u32 32 (by decide) (fun n h0 h1 => u32_id n h0 h1) _ 1 hlt (by decide)).1]
  have hb : bit (a : Int) v = (a / 2 ^ min v 32).testBit 0 := by
    simp only [bit, Int.toNat_natCast]
    by_cases hv : v ≤ 32
    · rw [Nat.min_eq_left hv, Nat.testBit_div_two_pow]; simp
    · rw [Nat.min_eq_right (by omega), Nat.div_eq_of_lt ha]
      simp [Nat.testBit_lt_two_pow (Nat.lt_of_lt_of_le ha (Nat.pow_le_pow_right (by decide) (by omega : 32 ≤ v)))]
  rw [hb, Nat.testBit_zero]
  rw [Nat.and_one_is_mod]
  rcases Nat.mod_two_eq_zero_or_one (a / 2 ^ min v 32) with h | h <;> simp [h]
theorem bit_big {m : Int} (hm : M32 m) {v : Nat} (hv : 32 ≤ v) : bit m v = false := by
  obtain ⟨a, rfl, ha⟩ := hm.nat
  exact Nat.testBit_lt_two_pow (Nat.lt_of_lt_of_le ha (Nat.pow_le_pow_right (by decide) hv))
theorem M32_ext {a b : Int} (ha : M32 a) (hb : M32 b) (h : ∀ v, v < 32 → bit a v = bit b v) : a = b := by
  have e : a.toNat = b.toNat := Nat.eq_of_testBit_eq fun v => by
    by_cases hv : v < 32
    · exact h v hv
    · have h1 := bit_big ha (v := v) (by omega)
      have h2 := bit_big hb (v := v) (by omega)
      exact h1.trans h2.symm
  have := ha.1
  have := hb.1
  omega
theorem M32_eq_zero {a : Int} (ha : M32 a) : a = 0 ↔ ∀ v, v < 32 → bit a v = false :=
  ⟨fun h v _ => by rw [h]; exact M32_zero.2 v, fun h => M32_ext ha M32_zero.1 fun v hv => (h v hv).trans (M32_zero.2 v).symm⟩
theorem gb_aux : ∀ (f x n : Nat), x < 2 ^ f → (Lib.bitLenAux f x ≤ n ↔ x < 2 ^ n)
  | 0, x, n, h => by
    have : x = 0 := by simpa using h
    subst this
    simp [Lib.bitLenAux]
    exact Nat.two_pow_pos n
  | f + 1, x, n, h => by
    unfold Lib.bitLenAux
    split
    · rename_i h0
      subst h0
      simp
      exact Nat.two_pow_pos n
    · rename_i h0
      have h2 : x / 2 < 2 ^ f := by rw [Nat.pow_succ] at h; omega
      cases n with
      | zero => simp; omega
      | succ n =>
        have ih := gb_aux f (x / 2) n h2
        rw [Nat.pow_succ]
        omega
theorem gb_len (x n : Nat) (h : x < 4294967296) : Lib.bitLen x ≤ n ↔ x < 2 ^ n := gb_aux 64 x n (Nat.lt_trans h (by decide))
/-- A set below n bits. -/
theorem bitLen_le {m : Int} (hm : M32 m) (n : Nat) : (Lib.bitLen m.toNat ≤ n) ↔ ∀ v, n ≤ v → bit m v = false := by
  rw [gb_len m.toNat n (by have := hm.1; have := hm.2; omega)]
  constructor
  · intro h v hv
    exact Nat.testBit_lt_two_pow (Nat.lt_of_lt_of_le h (Nat.pow_le_pow_right (n := 2) (by decide) hv))
  · intro h
    exact Nat.lt_pow_two_of_testBit _ h
end Go.Proofs.Ytmkpddhnnejfhaa.P
