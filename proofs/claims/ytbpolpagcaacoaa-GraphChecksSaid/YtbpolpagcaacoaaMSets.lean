/- Sets of nodes: Has, All, Neighbours, Independent, of the program and of the reference. -/
import Derived.Test.YtbpolpagcaacoaaMBack
import Derived.Test.YtbpolpagcaacoaaP11
import Derived.Test.YtbpolpagcaacoaaP11
import Derived.Test.YtbpolpagcaacoaaP11
import Derived.Test.YtbpolpagcaacoaaP11
namespace Go.Proofs.Ytbpolpagcaacoaa.P
open Go.RowKit Go.Proofs.YtbpolpagcaacoaaW.PrintWords Go.Proofs.YtbpolpagcaacoaaW.PrintMore
set_option linter.unusedVariables false
section
variable {ids : List Int} {P : List (List Lk)}
theorem M32_of {m : Int} (h : (Lit.int .u32 m).wf = true) : M32 m := by
  unfold Lit.wf at h
  rw [Bool.and_eq_true, decide_eq_true_iff, decide_eq_true_iff] at h
  have h1 : (0 : Int) ≤ m := h.1
  have h2 : m ≤ 4294967295 := h.2
  exact ⟨h1, by omega⟩
theorem u64_nat (v : Nat) (h : v < 1000) : IntKind.u64.wrap (v : Int) = (v : Int) := by rw [IntKind.wrap_u64]; omega
theorem has_eq {m : Int} (hm : M32 m) (v : Nat) : selfstabref01_Has.f m (v : Int) = some (bit m v) := by
  unfold selfstabref01_Has.f
  rw [if_pos (by omega)]
  by_cases h : v < 32
  · rw [if_pos (by omega), u64_nat v (by omega), if_pos (by omega), shr_test hm v]
    cases bit m v <;> rfl
  · rw [if_neg (by omega), bit_big hm (by omega)]
theorem all_l0 (n : Nat) (hn : n ≤ 32) : ∀ (d i : Nat) (m : Int), i + d = n → M32 m → (∀ v, bit m v = decide (v < i)) →
    ∃ r, Ev (fun k => selfstabref01_All.l0 k (n : Int) m (i : Int)) r ∧ M32 r ∧ ∀ v, bit r v = decide (v < n) := by
  intro d
  induction d with
  | zero =>
    intro i m hi hm hb
    obtain rfl : i = n := by omega
    refine ⟨m, Ev.step (fun k => by rw [selfstabref01_All.l0]) ?_, hm, hb⟩
    simp only [if_neg (show ¬ (i : Int) < (i : Int) by omega)]
    exact Ev.now _
  | succ d ih =>
    intro i m hi hm hb
    have hs := M32_shl (v := i) (by omega)
    have ho := M32_or hm hs.1
    obtain ⟨r, h1, h2⟩ := ih (i + 1) _ (by omega) ho.1 (fun v => by
      rw [ho.2, hb, hs.2]
      by_cases h1 : v < i <;> by_cases h2 : v = i <;> simp [h1, h2] <;> omega)
    refine ⟨r, Ev.step (fun k => by rw [selfstabref01_All.l0]) ?_, h2⟩
    simp only [if_pos (show (i : Int) < (n : Int) by omega), if_pos (show (i : Int) < 32 by omega), u64_nat i (by omega), if_pos (show 0 ≤ (i : Int) by omega), wrap_nat i (by omega)]
    exact h1
theorem all_ev (n : Nat) (hn : n ≤ 32) : ∃ r, Ev (fun k => selfstabref01_All.f k (n : Int)) r ∧ M32 r ∧ ∀ v, bit r v = decide (v < n) :=
  all_l0 n hn _ 0 0 (Nat.zero_add _) M32_zero.1 (fun v => by rw [M32_zero.2]; simp)
/-- Has node v a neighbour in the set? -/
def nb (P : List (List Lk)) (m : Int) (v : Nat) : Prop := ∃ u, adjB P v u = true ∧ bit m u = true
theorem ne_l0 (V : ValidG ids P) {m : Int} (hm : M32 m) : ∀ (d v : Nat) (x : Int), v + d = P.length → M32 x → (∀ j, bit x j = true ↔ j < v ∧ nb P m j) →
    ∃ r, Ev (fun k => graph_Neighbours.l0 k m x (P.length : Int) (v : Int) ids P) r ∧ M32 r ∧ ∀ j, bit r j = true ↔ j < P.length ∧ nb P m j := by
  have hn := V.2.1
  intro d
  induction d with
  | zero =>
    intro v x hv hx hb
    obtain rfl : v = P.length := by omega
    refine ⟨x, Ev.step (fun k => by rw [graph_Neighbours.l0]) ?_, hx, hb⟩
    simp only [if_neg (show ¬ (P.length : Int) < (P.length : Int) by omega)]
    exact Ev.now _
  | succ d ih =>
    intro v x hv hx hb
    have hv' : v < P.length := by omega
    obtain ⟨a, ha, ham, hab⟩ := around_ev V hv'
    have hA := M32_and ham hm
    have hiff : Go.bits .and .u32 a m = 0 ↔ ¬ nb P m v := by
      rw [M32_eq_zero hA.1]
      constructor
      · rintro h ⟨u, h1, h2⟩
        have := h u (by have := adj_lt V v u h1; omega)
        rw [hA.2, hab, h1, h2] at this
        cases this
      · intro h u hu
        rw [hA.2, hab]
        cases h1 : adjB P v u
        · rfl
        · cases h2 : bit m u
          · rfl
          · exact absurd ⟨u, h1, h2⟩ h
    by_cases h : Go.bits .and .u32 a m = 0
    · obtain ⟨r, h1, h2⟩ := ih (v + 1) x (by omega) hx (fun j => by
        rw [hb]
        constructor
        · rintro ⟨h1, h2⟩; exact ⟨by omega, h2⟩
        · rintro ⟨h1, h2⟩
          refine ⟨?_, h2⟩
          by_cases e : j = v
          · subst e; exact absurd h2 (hiff.1 h)
          · omega)
      refine ⟨r, Ev.step (fun k => by rw [graph_Neighbours.l0]) ?_, h2⟩
      simp only [if_pos (show (v : Int) < (P.length : Int) by omega)]
      refine Ev.bind ha ?_
      simp only [if_pos h, wrap_nat v (by omega)]
      exact h1
    · have hs := M32_shl (v := v) (by omega)
      have ho := M32_or hx hs.1
      have hnb : nb P m v := Classical.byContradiction fun hh => h (hiff.2 hh)
      obtain ⟨r, h1, h2⟩ := ih (v + 1) _ (by omega) ho.1 (fun j => by
        rw [ho.2, hs.2, Bool.or_eq_true, hb, decide_eq_true_iff]
        constructor
        · rintro (⟨h1, h2⟩ | rfl)
          · exact ⟨by omega, h2⟩
          · exact ⟨by omega, hnb⟩
        · rintro ⟨h1, h2⟩
          by_cases e : j = v
          · exact .inr e
          · exact .inl ⟨by omega, h2⟩)
      refine ⟨r, Ev.step (fun k => by rw [graph_Neighbours.l0]) ?_, h2⟩
      simp only [if_pos (show (v : Int) < (P.length : Int) by omega)]
      refine Ev.bind ha ?_
      simp only [if_neg h, if_pos (show 0 ≤ (v : Int) by omega), wrap_nat v (by omega)]
      exact h1
theorem ne_ev (V : ValidG ids P) {m : Int} (hm : M32 m) : ∃ r, Ev (fun k => graph_Neighbours.f k ids P m) r ∧ M32 r ∧ ∀ j, bit r j = true ↔ j < P.length ∧ nb P m j := by
  unfold graph_Neighbours.f graph_Valid.f
  simp only [Option.bind_some, validB_true V, if_true]
  exact ne_l0 V hm _ 0 0 (Nat.zero_add _) M32_zero.1 (fun j => by rw [M32_zero.2]; simp)
theorem ne_none {m : Int} (h : ¬ ValidG ids P) : Ev (fun k => graph_Neighbours.f k ids P m) 0 := by
  unfold graph_Neighbours.f graph_Valid.f
  simp only [Option.bind_some, validB_false h, Bool.false_eq_true, if_false]
  exact Ev.now _
/-- Only nodes of the graph, and no two of them linked. -/
def Indep (P : List (List Lk)) (m : Int) : Prop := (∀ j, bit m j = true → j < P.length) ∧ ∀ v u, bit m v = true → bit m u = true → adjB P v u = false
theorem nb_none {m r : Int} (hm : M32 m) (hr : M32 r) (hin : ∀ j, bit m j = true → j < P.length) (hb : ∀ j, bit r j = true ↔ j < P.length ∧ nb P m j) :
    (Go.bits .and .u32 r m == 0) = true ↔ ∀ v u, bit m v = true → bit m u = true → adjB P v u = false := by
  have hA := M32_and hr hm
  rw [beq_iff_eq, M32_eq_zero hA.1]
  constructor
  · intro h v u hv hu
    cases ha : adjB P v u
    · rfl
    · have hl : v < 32 := by
        rcases Nat.lt_or_ge v 32 with h2 | h2
        · exact h2
        · rw [bit_big hm h2] at hv; cases hv
      have := h v hl
      rw [hA.2, hv, (hb v).2 ⟨hin v hv, u, ha, hu⟩] at this
      cases this
  · intro h v hv
    rw [hA.2]
    cases h1 : bit m v
    · simp
    · cases h2 : bit r v
      · rfl
      · obtain ⟨_, u, h3, h4⟩ := (hb v).1 h2
        rw [h v u h1 h4] at h3
        cases h3
theorem indep_ev {m : Int} (hm : M32 m) : ∃ b, Ev (fun k => graph_Independent.f k ids P m) b ∧ (b = true ↔ ValidG ids P ∧ Indep P m) := by
  unfold graph_Independent.f graph_Valid.f
  simp only [Option.bind_some]
  by_cases V : ValidG ids P
  · simp only [validB_true V, if_true]
    have hl : bits_Len32.f m = some ((Lib.bitLen m.toNat : Nat) : Int) := by
      unfold bits_Len32.f
      rw [if_pos ⟨hm.1, by have := hm.2; omega⟩]
    simp only [hl, Option.bind_some]
    have hlen := bitLen_le hm P.length
    by_cases h : Lib.bitLen m.toNat ≤ P.length
    · simp only [if_pos (show ((Lib.bitLen m.toNat : Nat) : Int) ≤ (P.length : Int) by omega)]
      have hin : ∀ j, bit m j = true → j < P.length := fun j hj => by
        rcases Nat.lt_or_ge j P.length with h2 | h2
        · exact h2
        · rw [hlen.1 h j h2] at hj; cases hj
      obtain ⟨r, hr, hrm, hrb⟩ := ne_ev V hm
      refine ⟨_, Ev.bind hr (Ev.now _), ?_⟩
      rw [nb_none hm hrm hin hrb]
      exact ⟨fun h => ⟨V, hin, h⟩, fun h => h.2.2⟩
    · simp only [if_neg (show ¬ ((Lib.bitLen m.toNat : Nat) : Int) ≤ (P.length : Int) by omega)]
      refine ⟨false, Ev.now _, ⟨nofun, fun hh => ?_⟩⟩
      exact absurd (hlen.2 fun v hv => by
        cases hb : bit m v
        · rfl
        · have := hh.2.1 v hb; omega) h
  · simp only [validB_false V, Bool.false_eq_true, if_false]
    exact ⟨false, Ev.now _, ⟨nofun, fun hh => absurd hh.1 V⟩⟩
end
end Go.Proofs.Ytbpolpagcaacoaa.P
