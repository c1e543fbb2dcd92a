/- datalink.Valid: the loop over the frames and the end. -/
import Derived.Test.YtdhkplfkbdldfaaDValidH
namespace Go.Proofs.Ytdhkplfkbdldfaa.P
open Go.RowKit Go.Proofs.YtdhkplfkbdldfaaW.PrintWords Go.Shelf
set_option linter.unusedVariables false
set_option linter.unusedSimpArgs false
/-- What datalink.Valid asks of a frame. -/
def FrOk (m : Int) (f : S46) : Prop := isLab m f.f0 = true ∧ -1073741824 ≤ f.f1 ∧ f.f1 ≤ 1073741824
set_option maxHeartbeats 8000000 in
set_option maxRecDepth 1000000 in
theorem datalink_Valid.calls (a0 a1 a2 a3 a4 : Int) (A5 : Option Addr) (c5 : Nat) (l5 : List S46) (A6 : Option Addr) (c6 : Nat) (l6 : List Int) (r : Bool) (w : World) (hr5 : Kd.C k46 w A5 l5.length l5) (hc5 : l5.length ≤ c5) (hr6 : Kd.C (Kd.int .i64) w A6 l6.length l6) (hc6 : l6.length ≤ c6) (h : datalink_Valid.f a0 a1 a2 a3 a4 l5 l6 = some r) :
    Calls Try.prog 14 #[.agg #[.int .i64 a0, .int .i64 a1, .int .i64 a2, .int .i64 a3, .int .i64 a4, .slice A5 l5.length c5, .slice A6 l6.length c6]] w fun e w' => e = .returned (.bool r) ∧ Below w.heap.size w w' := by
  have hu := Try.underlying29
  by_cases hbad : a0 < 1 ∨ 8 < a0 ∨ a1 < 2 * a0 + 2 ∨ 64 < a1
  · exact dv_head a0 a1 a2 a3 a4 A5 c5 l5 A6 c6 l6 r w hr5 hc5 hr6 hc6 h hbad
  have h1 : ¬ a0 < 1 := by omega
  have h2 : ¬ 8 < a0 := by omega
  have h3 : ¬ a1 < 2 * a0 + 2 := by omega
  have h4 : ¬ 64 < a1 := by omega
  by_cases hmid : ¬ (isLab a1 a2 = true ∧ isLab a1 a4 = true ∧ ¬ a3 < 0 ∧ ¬ 1073741824 < a3 ∧ ¬ a0 < (l5.length : Int) ∧ ¬ a0 < (l6.length : Int))
  · exact dv_mid a0 a1 a2 a3 a4 A5 c5 l5 A6 c6 l6 r w hr5 hc5 hr6 hc6 h h1 h2 h3 h4 hmid
  obtain ⟨hp2, hp4, e5, e6, e7, e8⟩ := Classical.not_not.1 hmid
  have n5 : l5.length ≤ 8 := by omega
  have n6 : l6.length ≤ 8 := by omega
  have d55 : decide (a3 < 0) = false := decide_eq_false e5
  have d56 : decide (1073741824 < a3) = false := decide_eq_false e6
  have d57 : decide (a0 < (l5.length : Int)) = false := decide_eq_false e7
  have d58 : decide (a0 < (l6.length : Int)) = false := decide_eq_false e8
  have hV : ValidD ⟨a0, a1, a2, a3, a4, l5, l6⟩ ↔ (∀ f ∈ l5, FrOk a1 f) ∧ AllLab a1 l6 := by
    have q2 := of_decide_eq_true hp2
    have q4 := of_decide_eq_true hp4
    constructor
    · rintro ⟨v1, v2, v3, v4, v5, v6, v7, v8, v9, v10, v11, v12, v13, v14⟩
      exact ⟨fun f hf => ⟨decide_eq_true ⟨(v13 f hf).1, (v13 f hf).2.1⟩, (v13 f hf).2.2.1, (v13 f hf).2.2.2⟩, fun a ha => decide_eq_true (v14 a ha)⟩
    · rintro ⟨v13, v14⟩
      refine ⟨by dsimp only; omega, by dsimp only; omega, by dsimp only; omega, by dsimp only; omega, q2.1, q2.2, q4.1, q4.2, by dsimp only; omega, by dsimp only; omega, by dsimp only; omega, by dsimp only; omega, fun f hf => ?_, fun a ha => of_decide_eq_true (v14 a ha)⟩
      have := v13 f hf
      exact ⟨(of_decide_eq_true this.1).1, (of_decide_eq_true this.1).2, this.2.1, this.2.2⟩
  have HV := Aside0.mk hV
  have HH := Aside0.mk h
  have HR5 := Aside0.mk hr5
  have HR6 := Aside0.mk hr6
  clear hbad hmid h hr5 hr6 hV
  have d1 : decide (a0 < 1) = false := decide_eq_false h1
  have d2 : decide (8 < a0) = false := decide_eq_false h2
  have d3 : decide (a1 < 2 * a0 + 2) = false := decide_eq_false h3
  have d4 : decide (64 < a1) = false := decide_eq_false h4
  have HC := Aside0.mk (show ((w.alloc (.cells #[.int .i64 a0, .int .i64 a1, .int .i64 a2, .int .i64 a3, .int .i64 a4, .slice A5 l5.length c5, .slice A6 l6.length c6] 29)).alloc (.cells #[.func (.func 25) #[] #[.pointer (some ⟨w.heap.size, 0, none⟩)]] 51)).cell? ⟨w.heap.size, 1, none⟩ = some (.int .i64 a1) from (blk_cell (blk_alloc (blk_new _ _) _) 1).trans rfl)
  have B1 := Aside0.mk (below_alloc (below_alloc (Below.refl w.heap.size w) (.cells #[.int .i64 a0, .int .i64 a1, .int .i64 a2, .int .i64 a3, .int .i64 a4, .slice A5 l5.length c5, .slice A6 l6.length c6] 29)) (.cells #[.func (.func 25) #[] #[.pointer (some ⟨w.heap.size, 0, none⟩)]] 51))
  have HL := Aside0.mk (show ((w.alloc (.cells #[.int .i64 a0, .int .i64 a1, .int .i64 a2, .int .i64 a3, .int .i64 a4, .slice A5 l5.length c5, .slice A6 l6.length c6] 29)).alloc (.cells #[.func (.func 25) #[] #[.pointer (some ⟨w.heap.size, 0, none⟩)]] 51)).cell? ⟨w.heap.size + 1, 0, none⟩ = some (.func (.func 25) #[] #[.pointer (some ⟨w.heap.size, 0, none⟩)]) from (blk_cell (by have := blk_new (w.alloc (.cells #[.int .i64 a0, .int .i64 a1, .int .i64 a2, .int .i64 a3, .int .i64 a4, .slice A5 l5.length c5, .slice A6 l6.length c6] 29)) (.cells #[.func (.func 25) #[] #[.pointer (some ⟨w.heap.size, 0, none⟩)]] 51); rwa [World.size_alloc] at this) 0).trans rfl)
  have H6 := Aside0.mk (show ((w.alloc (.cells #[.int .i64 a0, .int .i64 a1, .int .i64 a2, .int .i64 a3, .int .i64 a4, .slice A5 l5.length c5, .slice A6 l6.length c6] 29)).alloc (.cells #[.func (.func 25) #[] #[.pointer (some ⟨w.heap.size, 0, none⟩)]] 51)).cell? ⟨w.heap.size, 6, none⟩ = some (.slice A6 l6.length c6) from (blk_cell (blk_alloc (blk_new _ _) _) 6).trans rfl)
  go_enter Try.func14, Try.ntmps14
  go_wp2_with (go_at_call 25; refine (label_calls (m := a1) _ (by exact HC.out)).mono ?_; rintro e w1 ⟨rfl, q1, rfl⟩)
  have HS := Aside0.mk (show ((w.alloc (.cells #[.int .i64 a0, .int .i64 a1, .int .i64 a2, .int .i64 a3, .int .i64 a4, .slice A5 l5.length c5, .slice A6 l6.length c6] 29)).alloc (.cells #[.func (.func 25) #[] #[.pointer (some ⟨w.heap.size, 0, none⟩)]] 51)).heap.size = w.heap.size + 2 by simp only [World.size_alloc])
  generalize ((w.alloc (.cells #[.int .i64 a0, .int .i64 a1, .int .i64 a2, .int .i64 a3, .int .i64 a4, .slice A5 l5.length c5, .slice A6 l6.length c6] 29)).alloc (.cells #[.func (.func 25) #[] #[.pointer (some ⟨w.heap.size, 0, none⟩)]] 51)) = W1 at HC B1 HL H6 HS ⊢
  clear d1 d2 d3 d4 d55 d56 d57 d58 hp2 hp4
  go_loopg [70] l5.length (fun gg s70 wr => ∃ kk : Nat, kk ≤ l5.length ∧ l5.length - kk ≤ gg ∧ s70 = .int .i64 kk ∧ Aside0 (Below W1.heap.size W1 wr) ∧ Aside0 (∀ f ∈ l5.take kk, FrOk a1 f))
  case atStart => exact ⟨0, Nat.zero_le _, by omega, rfl, ⟨by first | exact pw_below_drewN (Below.refl _ _) _ | exact pw_below_drewN (pw_below_drewN (Below.refl _ _) _) _⟩, ⟨fun a ha => by simp at ha⟩⟩
  case round =>
    obtain ⟨kk, hkk, hg, rfl, HB, Al⟩ := hrel
    have HBw := Aside0.mk (below_step B1.out HB.out)
    have hc1 : wr.cell? ⟨w.heap.size, 1, none⟩ = some (.int .i64 a1) := (HB.out.cell (p := ⟨w.heap.size, 1, none⟩) (by have := HS.out; show w.heap.size < _; omega)).trans HC.out
    have hl1 : wr.cell? ⟨w.heap.size + 1, 0, none⟩ = some (.func (.func 25) #[] #[.pointer (some ⟨w.heap.size, 0, none⟩)]) := (HB.out.cell (p := ⟨w.heap.size + 1, 0, none⟩) (by have := HS.out; show w.heap.size + 1 < _; omega)).trans HL.out
    have h61 : wr.cell? ⟨w.heap.size, 6, none⟩ = some (.slice A6 l6.length c6) := (HB.out.cell (p := ⟨w.heap.size, 6, none⟩) (by have := HS.out; show w.heap.size < _; omega)).trans H6.out
    by_cases hlt : kk < l5.length
    · have hltz : (kk : Int) < (l5.length : Int) := by omega
      obtain ⟨ad, rfl, hf0, hf1⟩ := at_T46 (Kd.C_below HR5.out HBw.out) (kk : Int) (by omega) (by omega)
      have hgd : rd_T46 l5 (kk : Int) = l5[kk] := by simp [rd_T46, hlt]
      rw [hgd] at hf0 hf1
      rw [Int.toNat_natCast] at hf0 hf1
      generalize hy : l5[kk] = f at hf0 hf1
      have B := Aside0.mk hy
      clear hy hgd
      have hfm : f ∈ l5 := by rw [← B.out]; exact List.getElem_mem hlt
      have hS2 : w.heap.size + 2 ≤ wr.heap.size := by have := HS.out; have := HB.out.size; omega
      have hal := below_alloc (Below.refl wr.heap.size wr) (.cells #[.int .i64 f.f0, .int .i64 f.f1] 46)
      have HA := Aside0.mk hal
      have HBA := Aside0.mk (below_step HBw.out hal)
      have HBC := Aside0.mk (below_step HB.out hal)
      have hc2 : (wr.alloc (.cells #[.int .i64 f.f0, .int .i64 f.f1] 46)).cell? ⟨w.heap.size, 1, none⟩ = some (.int .i64 a1) := (hal.cell (p := ⟨w.heap.size, 1, none⟩) (by show w.heap.size < _; omega)).trans hc1
      have HC2 := Aside0.mk hc2
      have hl2 : (wr.alloc (.cells #[.int .i64 f.f0, .int .i64 f.f1] 46)).cell? ⟨w.heap.size + 1, 0, none⟩ = some (.func (.func 25) #[] #[.pointer (some ⟨w.heap.size, 0, none⟩)]) := (hal.cell (p := ⟨w.heap.size + 1, 0, none⟩) (by show w.heap.size + 1 < _; omega)).trans hl1
      have hbad : ¬ FrOk a1 f → false = r := fun hn => dv_false HH.out (fun V => hn ((HV.out.1 V).1 f hfm))
      clear hal
      cases hp : isLab a1 f.f0 with
      | false =>
        obtain rfl := hbad (fun h => by have h_ := h.1; rw [hp] at h_; exact Bool.noConfusion h_)
        go_wp2_with (go_at_call 25; refine (label_calls (m := a1) _ (by exact HC2.out)).mono ?_; rintro e w1 ⟨rfl, q1, rfl⟩)
        go_ret
        exact ⟨rfl, pw_below_drewN HBA.out _⟩
      | true =>
        by_cases g1 : f.f1 < -1073741824
        · have dg1 : decide (f.f1 < -1073741824) = true := decide_eq_true g1
          obtain rfl := hbad (fun h => by have := h.2.1; omega)
          go_wp2_with (go_at_call 25; refine (label_calls (m := a1) _ (by exact HC2.out)).mono ?_; rintro e w1 ⟨rfl, q1, rfl⟩)
          go_ret
          exact ⟨rfl, pw_below_drewN HBA.out _⟩
        have dg1 : decide (f.f1 < -1073741824) = false := decide_eq_false g1
        by_cases g2 : 1073741824 < f.f1
        · have dg2 : decide (1073741824 < f.f1) = true := decide_eq_true g2
          obtain rfl := hbad (fun h => by have := h.2.2; omega)
          go_wp2_with (go_at_call 25; refine (label_calls (m := a1) _ (by exact HC2.out)).mono ?_; rintro e w1 ⟨rfl, q1, rfl⟩)
          go_ret
          exact ⟨rfl, pw_below_drewN HBA.out _⟩
        have dg2 : decide (1073741824 < f.f1) = false := decide_eq_false g2
        have hok : Aside0 (FrOk a1 f) := ⟨⟨hp, by omega, by omega⟩⟩
        clear hbad
        go_wp2_with (go_at_call 25; refine (label_calls (m := a1) _ (by exact HC2.out)).mono ?_; rintro e w1 ⟨rfl, q1, rfl⟩)
        go_roundg (l5.length - (kk + 1))
        case measure => omega
        case rel =>
          refine ⟨kk + 1, by omega, by omega, by go_num, ⟨pw_below_drewN HBC.out _⟩, ⟨fun a ha => ?_⟩⟩
          rw [List.take_succ_eq_append_getElem hlt] at ha
          rcases List.mem_append.1 ha with ha | ha
          · exact Al.out a ha
          · rw [List.mem_singleton.1 ha, B.out]; exact hok.out
    · have hltz : ¬ (kk : Int) < (l5.length : Int) := by omega
      have hkl : kk = l5.length := by omega
      subst hkl
      have hfr : Aside0 (∀ f ∈ l5, FrOk a1 f) := ⟨fun f hf => Al.out f (by rwa [List.take_length])⟩
      go_wp2_with (go_at_call 26; refine (contains_calls (g := w.heap.size) (lb := w.heap.size + 1) (m := a1) A6 c6 l6 (Kd.C_below HR6.out HBw.out) hc6 (by omega) (by exact hc1) (by exact hl1)).mono ?_; rintro e w' ⟨⟨b, rfl, hb⟩, q', rfl⟩; have HBB := Aside0.mk hb; clear hb)
      go_ret
      refine ⟨?_, pw_below_drewN HBw.out _⟩
      cases b with
      | false =>
        obtain rfl := dv_true HH.out (HV.out.2 ⟨hfr.out, HBB.out.1 rfl⟩)
        rfl
      | true =>
        obtain rfl := dv_false HH.out (fun V => by have := HBB.out.2 (HV.out.1 V).2; exact Bool.noConfusion this)
        rfl
end Go.Proofs.Ytdhkplfkbdldfaa.P
