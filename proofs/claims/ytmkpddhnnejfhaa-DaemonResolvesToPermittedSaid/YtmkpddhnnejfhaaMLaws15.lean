/- What Resolve returns, in plain words. -/
import Derived.Test.YtmkpddhnnejfhaaMAwake
import Derived.Test.YtmkpddhnnejfhaaMResolve
namespace Go.Proofs.Ytmkpddhnnejfhaa.P
open Go.RowKit Go.Proofs.YtmkpddhnnejfhaaW.PrintWords Go.Proofs.YtmkpddhnnejfhaaW.PrintMore
set_option linter.unusedVariables false
variable {ids : List Int} {P : List (List Lk)}
theorem M32_resG (ids : List Int) (P : List (List Lk)) (kind : Int) {en w : Int} (he : M32 en) : M32 (resG ids P kind en w) := by
  unfold resG
  repeat' split
  · exact M32_least (M32_wish _ _)
  · exact (grd_bits 32 (Nat.le_refl _)).1
  · exact he
  · exact M32_wish _ _
  · exact M32_zero.1
/-- Enabled nodes of a graph. -/
theorem all_and {en r : Int} (he : M32 en) (hr : M32 r) (hb : ∀ v, bit r v = decide (v < P.length)) : M32 (Go.bits .and .u32 en r) ∧ InG P (Go.bits .and .u32 en r) := by
  obtain ⟨a, b⟩ := M32_and he hr
  refine ⟨a, fun v hv => ?_⟩
  rw [b, hb] at hv
  simp at hv; exact hv.2
theorem least_part {m : Int} (hm : M32 m) (h0 : m ≠ 0) : Part (leastS m) m ∧ leastS m ≠ 0 ∧ leastS (leastS m) = leastS m := by
  obtain ⟨t, ht, h1, h2⟩ := bit_lowest hm h0
  obtain ⟨l1, l2⟩ := least_bits hm h1 h2
  refine ⟨fun v hv => ?_, fun h => ?_, ?_⟩
  · rw [l2] at hv
    have hv : v = t := by simpa using hv
    rw [hv]; exact h1
  · have := l2 t
    rw [h] at this
    simp [bit] at this
  · have b1 : bit (leastS m) t = true := by rw [l2]; simp
    have b2 : ∀ i, i < t → bit (leastS m) i = false := fun i hi => by rw [l2]; simp; omega
    rw [least_pw l1 b1 b2, least_pw hm h1 h2]
theorem grd_indep (V : ValidG ids P) {m : Int} (hm : M32 m) (hin : InG P m) : Indep P (grd P m 32) := by
  obtain ⟨g1, g2⟩ := grd_bits (P := P) (m := m) 32 (Nat.le_refl _)
  have hn := V.2.1
  refine ⟨fun j hj => hin j ((g2 j).1 hj).2.1, fun v u hv hu => ?_⟩
  cases h : adjB P v u with
  | false => rfl
  | true =>
    exfalso
    obtain ⟨a1, a2, a3⟩ := (g2 v).1 hv
    obtain ⟨b1, b2, b3⟩ := (g2 u).1 hu
    rcases Nat.lt_trichotomy u v with hl | rfl | hl
    · refine a3 ⟨u, h, ?_⟩
      rw [(grd_bits (P := P) (m := m) v (by omega)).2]
      exact ⟨hl, b2, b3⟩
    · obtain ⟨e, he, hf⟩ := adjB_iff.1 h
      exact ((V.2.2.2.2.1 u (hin u a2)).1 e he).2.2.1 hf
    · refine b3 ⟨v, adj_sym V v u (hin v a2) h, ?_⟩
      rw [(grd_bits (P := P) (m := m) u (by omega)).2]
      exact ⟨hl, a2, a3⟩
theorem grd_part {m : Int} : Part (grd P m 32) m := fun v hv => (((grd_bits 32 (Nat.le_refl _)).2 v).1 hv).2.1
theorem grd_first {m : Int} (hm : M32 m) (h0 : m ≠ 0) : grd P m 32 ≠ 0 := by
  obtain ⟨t, ht, h1, h2⟩ := bit_lowest hm h0
  intro h
  have hb : bit (grd P m 32) t = true := by
    rw [(grd_bits 32 (Nat.le_refl _)).2]
    refine ⟨ht, h1, fun ⟨u, _, hu⟩ => ?_⟩
    have := ((grd_bits (P := P) (m := m) t (by omega)).2 u).1 hu
    rw [h2 u this.1] at this
    cases this.2.1
  rw [h] at hb
  simp [bit] at hb
/-- A set without neighbours in it is taken whole. -/
theorem grd_whole {m : Int} (hm : M32 m) (hi : Indep P m) : grd P m 32 = m := by
  obtain ⟨g1, g2⟩ := grd_bits (P := P) (m := m) 32 (Nat.le_refl _)
  refine M32_ext g1 hm fun v hv => ?_
  cases hb : bit m v with
  | true =>
    rw [g2]
    refine ⟨hv, hb, fun ⟨u, hu, hb2⟩ => ?_⟩
    have := ((grd_bits (P := P) (m := m) v (by omega)).2 u).1 hb2
    rw [hi.2 v u hb this.2.1] at hu
    cases hu
  | false =>
    cases h : bit (grd P m 32) v with
    | false => rfl
    | true => have := ((g2 v).1 h).2.1; rw [hb] at this; cases this
theorem wish_self {en w : Int} (he : M32 en) (hw : M32 w) (h0 : w ≠ 0) (hp : Part w en) : wishS en w = w := by
  obtain ⟨a, b⟩ := M32_and hw he
  have e : Go.bits .and .u32 w en = w := M32_ext a hw fun v _ => by
    rw [b]
    cases hb : bit w v with
    | false => rfl
    | true => rw [hp v hb]; rfl
  unfold wishS
  rw [e, if_neg h0]
/-- Resolve returns a permitted set. -/
theorem res_perm (V : ValidG ids P) {kind en w : Int} (hk : 1 ≤ kind ∧ kind ≤ 4) (he : M32 en) (hw : M32 w) (hi : InG P en) (h0 : en ≠ 0) : PermG ids P kind en (resG ids P kind en w) := by
  obtain ⟨w1, w2⟩ := wish_part he hw h0
  have wm := M32_wish en w
  unfold resG
  rw [if_pos ⟨validB_iff.2 V, hk, (inB_iff he).2 hi, h0⟩]
  refine ⟨V, hk, hi, ?_⟩
  by_cases k1 : kind = 1
  · rw [if_pos k1]
    obtain ⟨a, b, c⟩ := least_part wm w2
    exact ⟨b, fun v hv => w1 v (a v hv), fun _ => c.symm, fun h => by omega, fun h => by omega⟩
  · rw [if_neg k1]
    by_cases k2 : kind = 2
    · rw [if_pos k2]
      have hin : InG P (wishS en w) := fun v hv => hi v (w1 v hv)
      exact ⟨grd_first wm w2, fun v hv => w1 v (grd_part v hv), fun h => absurd h k1, fun _ => grd_indep V wm hin, fun h => by omega⟩
    · rw [if_neg k2]
      by_cases k4 : kind = 4
      · rw [if_pos k4]
        exact ⟨h0, fun v hv => hv, fun h => absurd h k1, fun h => absurd h k2, fun _ => rfl⟩
      · rw [if_neg k4]
        exact ⟨w2, w1, fun h => absurd h k1, fun h => absurd h k2, fun h => absurd h k4⟩
/-- A permitted wish is what Resolve returns. -/
theorem res_wish {kind en w : Int} (he : M32 en) (hw : M32 w) (h : PermG ids P kind en w) (h0 : en ≠ 0) : resG ids P kind en w = w := by
  obtain ⟨V, hk, hi, p0, p1, p2, p3, p4⟩ := h
  have e := wish_self he hw p0 p1
  unfold resG
  rw [if_pos ⟨validB_iff.2 V, hk, (inB_iff he).2 hi, h0⟩, e]
  by_cases k1 : kind = 1
  · rw [if_pos k1]; exact (p2 k1).symm
  · rw [if_neg k1]
    by_cases k2 : kind = 2
    · rw [if_pos k2]; exact grd_whole hw (p3 k2)
    · rw [if_neg k2]
      by_cases k4 : kind = 4
      · rw [if_pos k4]; exact (p4 k4).symm
      · rw [if_neg k4]
/-- Nodes of the wish, if one of them is enabled. -/
theorem res_of_wish {kind en w : Int} (he : M32 en) (hw : M32 w) (h4 : kind ≠ 4) (hm : Go.bits .and .u32 w en ≠ 0) : Part (resG ids P kind en w) w := by
  have hwb := wish_bits he hw hm
  have wm := M32_wish en w
  have w2 : wishS en w ≠ 0 := by unfold wishS; rw [if_neg hm]; exact hm
  have hp : Part (wishS en w) w := fun v hv => by rw [hwb] at hv; simp at hv; exact hv.1
  unfold resG
  split
  · by_cases k1 : kind = 1
    · simp only [if_pos k1]; exact fun v hv => hp v ((least_part wm w2).1 v hv)
    · simp only [if_neg k1]
      by_cases k2 : kind = 2
      · simp only [if_pos k2]; exact fun v hv => hp v (grd_part v hv)
      · simp only [if_neg k2]; exact hp
  · intro v hv; simp [bit] at hv
end Go.Proofs.Ytmkpddhnnejfhaa.P
