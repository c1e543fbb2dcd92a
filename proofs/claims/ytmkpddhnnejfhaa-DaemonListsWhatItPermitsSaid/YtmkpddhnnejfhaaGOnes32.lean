/- math/bits.OnesCount32 in the printed form. -/
import Derived.Test.YtmkpddhnnejfhaaP0
import Derived.Shelf.Small.Bits
import Derived.Shelf.RegionOpenPlain
namespace Go.Proofs.Ytmkpddhnnejfhaa.P
open Go.RowKit Go.Proofs.YtmkpddhnnejfhaaW.PrintWords
set_option linter.unusedVariables false
theorem and_255 (y : Int) (h0 : 0 ≤ y) (h1 : y < 4294967296) : Go.bits .and .u32 y 255 = y % 256 := by
  obtain ⟨n, rfl⟩ : ∃ n : Nat, y = n := ⟨y.toNat, by omega⟩
  have e : n &&& 255 = n % 256 := Nat.and_two_pow_sub_one_eq_mod n 8
  have h := (bits_nat .u32 32 (by decide) (fun n h0 h1 => by rw [IntKind.wrap_u32]; omega) n 255 (by omega) (by decide)).1
  rw [show ((255 : Nat) : Int) = 255 from rfl, e] at h
  rw [h]
  omega
theorem pop_byte (y : Int) (h0 : 0 ≤ y) (h1 : y ≤ 255) : Lib.pop8 y = (Lib.onesCount y.toNat : Int) ∧ Lib.onesCount y.toNat ≤ 8 := by
  have e := Lib.pop8_eq ⟨y.toNat, by omega⟩
  have l := Lib.onesCount_le8 ⟨y.toNat, by omega⟩
  simp only [Int.toNat_of_nonneg h0] at e
  exact ⟨e, l⟩
theorem ret_sum (a b c d : Int) (na nb nc nd : Nat) (ha : a = na ∧ na ≤ 8) (hb : b = nb ∧ nb ≤ 8) (hc : c = nc ∧ nc ≤ 8) (hd : d = nd ∧ nd ≤ 8) :
    Ending.returned (.int .i64 (IntKind.i64.wrap (IntKind.u8.wrap (IntKind.u8.wrap (IntKind.u8.wrap (a + b) + c) + d)))) = .returned (.int .i64 ((na : Int) + nb + nc + nd)) := by
  have e : IntKind.i64.wrap (IntKind.u8.wrap (IntKind.u8.wrap (IntKind.u8.wrap (a + b) + c) + d)) = (na : Int) + nb + nc + nd := by
    simp only [IntKind.wrap_u8, IntKind.wrap_i64]
    omega
  rw [e]
set_option maxHeartbeats 4000000 in
set_option maxRecDepth 100000 in
theorem go_ones32 (x : Int) (w : World) (h0 : 0 ≤ x) (h1 : x ≤ 4294967295) :
    Calls Try.prog 33 #[.int .u32 x] w fun e w' => e = .returned (.int .i64 (Lib.onesCount (x / 16777216).toNat + Lib.onesCount (x / 65536 % 256).toNat + Lib.onesCount (x / 256 % 256).toNat + Lib.onesCount (x % 256).toNat)) ∧ Drawn0 w w' := by
  have q1 : x / 16777216 ≤ 255 := by omega
  have q2 : 0 ≤ x / 16777216 := by omega
  have b1 := and_255 (x / 65536) (by omega) (by omega)
  have b2 := and_255 (x / 256) (by omega) (by omega)
  have b3 := and_255 x (by omega) (by omega)
  have r1 : 0 ≤ x / 65536 % 256 := by omega
  have r2 : x / 65536 % 256 ≤ 255 := by omega
  have r3 : 0 ≤ x / 256 % 256 := by omega
  have r4 : x / 256 % 256 ≤ 255 := by omega
  have r5 : 0 ≤ x % 256 := by omega
  have r6 : x % 256 ≤ 255 := by omega
  have mixed : Try.prog.follows Departure.mixedOrders = true := by kernel_rfl
  go_enter Try.func33, Try.ntmps33
  go_wp2_with fail
  go_region_law_o (fail)
  all_goals go_wp2
  all_goals go_ret
  all_goals exact ⟨ret_sum (Lib.pop8 (x / 16777216)) (Lib.pop8 (x / 65536 % 256)) (Lib.pop8 (x / 256 % 256)) (Lib.pop8 (x % 256)) _ _ _ _ (pop_byte _ q2 q1) (pop_byte _ r1 r2) (pop_byte _ r3 r4) (pop_byte _ r5 r6), ⟨1, rfl⟩⟩
/-- How many bits of a number are 1: byte by byte. -/
def bits_OnesCount32.f (a0 : Int) : Option Int := if 0 ≤ a0 ∧ a0 ≤ 4294967295 then some ((Lib.onesCount (a0 / 16777216).toNat : Int) + (Lib.onesCount (a0 / 65536 % 256).toNat : Int) + (Lib.onesCount (a0 / 256 % 256).toNat : Int) + (Lib.onesCount (a0 % 256).toNat : Int)) else none
theorem bits_OnesCount32.calls (a0 : Int) (r : Int) (w : World) (h : bits_OnesCount32.f a0 = some r) :
    Calls Try.prog 33 #[.int .u32 a0] w fun e w' => e = .returned (.int .i64 r) ∧ Drawn0 w w' := by
  unfold bits_OnesCount32.f at h
  split at h
  · rename_i hb
    obtain rfl := Option.some.inj h
    exact go_ones32 a0 w hb.1 hb.2
  · cases h
end Go.Proofs.Ytmkpddhnnejfhaa.P
