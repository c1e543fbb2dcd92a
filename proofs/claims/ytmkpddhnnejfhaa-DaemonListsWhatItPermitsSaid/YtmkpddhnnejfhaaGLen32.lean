/- math/bits.Len32 in the printed form; its walk goes as the library's own proof of it does. -/
import Derived.Test.YtmkpddhnnejfhaaP0
import Derived.Shelf.Small.Bits
namespace Go.Proofs.Ytmkpddhnnejfhaa.P
open Go.RowKit Go.Proofs.YtmkpddhnnejfhaaW.PrintWords
set_option linter.unusedVariables false
/-- How many bits a number takes. -/
def bits_Len32.f (a0 : Int) : Option Int := if 0 ≤ a0 ∧ a0 ≤ 4294967295 then some (Lib.bitLen a0.toNat : Int) else none
theorem gl_ret {a b : Int} (h : a = b) : Ending.returned (.int .i64 a) = .returned (.int .i64 b) := by rw [h]
set_option maxHeartbeats 4000000 in
set_option maxRecDepth 100000 in
theorem gl_len32 (x : Int) (w : World) (h0 : 0 ≤ x) (h1 : x ≤ 4294967295) :
    Calls Try.prog 43 #[.int .u32 x] w fun e w' => e = .returned (.int .i64 (Lib.bitLen x.toNat)) ∧ w' = w := by
  by_cases c1 : x < 65536
  · by_cases c2 : x < 256
    · have q : x ≤ 255 := by omega
      go_enter Try.func43, Try.ntmps43
      go_wp2
      go_ret
      refine ⟨gl_ret ?_, rfl⟩
      rw [Lib.len8_of (x) (by omega) (by omega)]
      have l := Lib.bitLen_le8' (x) (by omega) (by omega)
      unfold wrap64
      omega
    · have q : x / 256 ≤ 255 := by omega
      have q0 : 0 ≤ x / 256 := by omega
      go_enter Try.func43, Try.ntmps43
      go_wp2
      go_ret
      refine ⟨gl_ret ?_, rfl⟩
      rw [Lib.len8_of (x / 256) (by omega) (by omega)]
      have e : (x / 256).toNat = x.toNat / 256 := by omega
      have l := Lib.bitLen_le8' (x / 256) (by omega) (by omega)
      have s := Lib.bitLen_shift8 x.toNat (by omega) (by omega)
      rw [e] at l ⊢
      unfold wrap64
      omega
  · by_cases c2 : x / 65536 < 256
    · have q : x / 65536 ≤ 255 := by omega
      have q0 : 0 ≤ x / 65536 := by omega
      go_enter Try.func43, Try.ntmps43
      go_wp2
      go_ret
      refine ⟨gl_ret ?_, rfl⟩
      rw [Lib.len8_of (x / 65536) (by omega) (by omega)]
      have e : (x / 65536).toNat = x.toNat / 65536 := by omega
      have l := Lib.bitLen_le8' (x / 65536) (by omega) (by omega)
      have s := Lib.bitLen_shift16 x.toNat (by omega) (by omega)
      rw [e] at l ⊢
      unfold wrap64
      omega
    · have q : x / 65536 / 256 ≤ 255 := by omega
      have q0 : 0 ≤ x / 65536 / 256 := by omega
      have q1 : 0 ≤ x / 65536 := by omega
      go_enter Try.func43, Try.ntmps43
      go_wp2
      go_ret
      refine ⟨gl_ret ?_, rfl⟩
      rw [Lib.len8_of (x / 65536 / 256) (by omega) (by omega)]
      have e : (x / 65536 / 256).toNat = x.toNat / 16777216 := by omega
      have l := Lib.bitLen_le8' (x / 65536 / 256) (by omega) (by omega)
      have s := Lib.bitLen_shift24 x.toNat (by omega) (by omega)
      rw [e] at l ⊢
      unfold wrap64
      omega
theorem bits_Len32.calls (a0 : Int) (r : Int) (w : World) (h : bits_Len32.f a0 = some r) :
    Calls Try.prog 43 #[.int .u32 a0] w fun e w' => e = .returned (.int .i64 r) ∧ Drawn0 w w' := by
  unfold bits_Len32.f at h
  split at h
  · rename_i hb
    obtain rfl := Option.some.inj h
    refine (gl_len32 a0 w hb.1 hb.2).mono ?_
    rintro e w' ⟨rfl, rfl⟩
    exact ⟨rfl, Drawn0.refl _⟩
  · cases h
end Go.Proofs.Ytmkpddhnnejfhaa.P
