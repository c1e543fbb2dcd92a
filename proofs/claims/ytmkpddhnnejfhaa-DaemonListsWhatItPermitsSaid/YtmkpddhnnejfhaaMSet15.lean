/- Sets of nodes at seat 15: what of seat 01's plain texts is used (by wip/tools/pick.py). -/
import Derived.Test.YtmkpddhnnejfhaaMValid2
import Derived.Test.YtmkpddhnnejfhaaMBits
import Derived.Test.YtmkpddhnnejfhaaP4
import Derived.Test.YtmkpddhnnejfhaaP4
import Derived.Test.YtmkpddhnnejfhaaP3
import Derived.Test.YtmkpddhnnejfhaaP3
import Derived.Test.YtmkpddhnnejfhaaP4
import Derived.Test.YtmkpddhnnejfhaaP4
import Derived.Test.YtmkpddhnnejfhaaP4
namespace Go.Proofs.Ytmkpddhnnejfhaa.P
open Go.RowKit Go.Proofs.YtmkpddhnnejfhaaW.PrintWords Go.Proofs.YtmkpddhnnejfhaaW.PrintMore
set_option linter.unusedVariables false
variable {ids : List Int} {P : List (List Lk)}
def adjB (P : List (List Lk)) (u v : Nat) : Bool := (prt P u).any (fun e => e.f0 == (v : Int))
theorem adjB_iff {P : List (List Lk)} {u v : Nat} : adjB P u v = true ↔ ∃ e ∈ prt P u, e.f0 = (v : Int) := by simp [adjB]
theorem adj_lt (V : ValidG ids P) : ∀ u v, adjB P u v = true → v < P.length := by
  intro u v h
  obtain ⟨e, he, hv⟩ := adjB_iff.1 h
  by_cases hu : u < P.length
  · have := (V.2.2.2.2.1 u hu).1 e he; omega
  · rw [prt_big P u (by omega)] at he; simp at he
theorem adj_src {u v : Nat} (h : adjB P u v = true) : u < P.length := by
  obtain ⟨e, he, hv⟩ := adjB_iff.1 h
  by_cases hu : u < P.length
  · exact hu
  · rw [prt_big P u (by omega)] at he; simp at he
theorem adj_sym (V : ValidG ids P) : ∀ u v, u < P.length → adjB P u v = true → adjB P v u = true := by
  intro u v hu h
  obtain ⟨e, he, hv⟩ := adjB_iff.1 h
  obtain ⟨e', he', h1, _⟩ := V.2.2.2.2.2 u hu e he
  rw [hv, Int.toNat_natCast] at he'
  exact adjB_iff.2 ⟨e', he', h1⟩
theorem links_len (V : ValidG ids P) (v : Nat) : (prt P v).length ≤ 24 := by
  by_cases hv : v < P.length
  · exact Nat.le_trans (okLinks_le (V.2.2.2.2.1 v hv)) V.2.1
  · rw [prt_big P v (by omega)]; simp
theorem around_l0 (l : List Lk) (hl : l.length < Big) (hr : ∀ e ∈ l, 0 ≤ e.f0 ∧ e.f0 < 32) : ∀ (d i : Nat) (m : Int), i + d = l.length → M32 m →
    ∃ r, Ev (fun k => graph_around.l0 k m l (l.length : Int) (i : Int)) r ∧ M32 r ∧ ∀ j, bit r j = (bit m j || (l.drop i).any (fun e => e.f0 == (j : Int))) := by
  unfold Big at hl
  intro d
  induction d with
  | zero =>
    intro i m hi hm
    refine ⟨m, Ev.step (fun k => by rw [graph_around.l0]) ?_, hm, fun j => by rw [List.drop_of_length_le (by omega)]; simp⟩
    simp only [if_neg (show ¬ (i : Int) < (l.length : Int) by omega)]
    exact Ev.now _
  | succ d ih =>
    intro i m hi hm
    have hilt : i < l.length := by omega
    obtain ⟨t, ht⟩ : ∃ t : Nat, (lk l i).f0 = t := ⟨(lk l i).f0.toNat, by have := hr _ (lk_mem l i hilt); omega⟩
    have ht32 : t < 32 := by have := hr _ (lk_mem l i hilt); omega
    have hs := M32_shl ht32
    have ho := M32_or hm hs.1
    obtain ⟨r, hr', hrm, hrb⟩ := ih (i + 1) _ (by omega) ho.1
    refine ⟨r, Ev.step (fun k => by rw [graph_around.l0]) ?_, hrm, fun j => ?_⟩
    · simp only [if_pos (show (i : Int) < (l.length : Int) by omega), if_pos (show 0 ≤ (i : Int) by omega), rdT_lk, ht, if_pos (show 0 ≤ (t : Int) by omega), wrap_nat i (by omega)]
      exact hr'
    · rw [hrb, ho.2, hs.2, List.drop_eq_getElem_cons hilt, List.any_cons, ← lk_eq l i hilt, ht]
      by_cases e : j = t
      · simp [e]
      · have : ((t : Int) == (j : Int)) = false := by simp; omega
        simp [e, this]
theorem around_ev (V : ValidG ids P) {v : Nat} (hv : v < P.length) : ∃ r, Ev (fun k => graph_around.f k ids P (v : Int)) r ∧ M32 r ∧ ∀ j, bit r j = adjB P v j := by
  obtain ⟨r, h1, h2, h3⟩ := around_l0 (prt P v) (by have := links_len V v; unfold Big; omega) (fun e he => by have := (V.2.2.2.2.1 v hv).1 e he; have := V.2.1; omega) (prt P v).length 0 0 (by omega) M32_zero.1
  refine ⟨r, ?_, h2, fun j => by rw [h3, M32_zero.2]; simp [adjB]⟩
  unfold graph_around.f
  simp only [if_pos (show 0 ≤ (v : Int) by omega), if_pos (show (v : Int) < (P.length : Int) by omega), rdR_prt]
  exact h1
theorem validB_iff : validB ids P = true ↔ ValidG ids P := by unfold validB; exact decide_eq_true_iff
theorem link_node (V : ValidG ids P) {v j : Nat} (hv : v < P.length) (hj : j < (prt P v).length) : ∃ u : Nat, u < P.length ∧ (lk (prt P v) j).f0 = (u : Int) ∧ adjB P v u = true := by
  have hm := lk_mem (prt P v) j hj
  have := (V.2.2.2.2.1 v hv).1 _ hm
  exact ⟨(lk (prt P v) j).f0.toNat, by omega, by omega, adjB_iff.2 ⟨_, hm, by omega⟩⟩
theorem mod_eq (a : Int) (n : Nat) (h0 : 0 < n) (h1 : n < Big) : ∃ v : Nat, v < n ∧ selfstabmade_Mod.f a (n : Int) = some (v : Int) := by
  unfold Big at h1
  have hlt := Int.tmod_lt_of_pos a (show (0 : Int) < n by omega)
  have hgt : -(n : Int) < Int.tmod a n := by
    have := Int.lt_tmod_of_pos a (show (0 : Int) < n by omega)
    omega
  unfold selfstabmade_Mod.f
  rw [if_neg (by omega)]
  by_cases h : Int.tmod a n < 0
  · rw [if_pos h, wrap_id _ (by omega) (by omega)]
    exact ⟨(Int.tmod a n + n).toNat, by omega, by rw [Int.toNat_of_nonneg (by omega)]⟩
  · rw [if_neg h]
    exact ⟨(Int.tmod a n).toNat, by omega, by rw [Int.toNat_of_nonneg (by omega)]⟩
theorem M32_of {m : Int} (h : (Lit.int .u32 m).wf = true) : M32 m := by
  unfold Lit.wf at h
  rw [Bool.and_eq_true, decide_eq_true_iff, decide_eq_true_iff] at h
  have h1 : (0 : Int) ≤ m := h.1
  have h2 : m ≤ 4294967295 := h.2
  exact ⟨h1, by omega⟩
theorem u64_nat (v : Nat) (h : v < 1000) : IntKind.u64.wrap (v : Int) = (v : Int) := by rw [IntKind.wrap_u64]; omega
theorem has_eq {m : Int} (hm : M32 m) (v : Nat) : selfstabref01_Has.f m (v : Int) = some (bit m v) := by
  unfold selfstabref01_Has.f
  rw [if_pos (by omega)]
  by_cases h : v < 32
  · rw [if_pos (by omega), u64_nat v (by omega), if_pos (by omega), shr_test hm v]
    cases bit m v <;> rfl
  · rw [if_neg (by omega), bit_big hm (by omega)]
theorem all_l0 (n : Nat) (hn : n ≤ 32) : ∀ (d i : Nat) (m : Int), i + d = n → M32 m → (∀ v, bit m v = decide (v < i)) →
    ∃ r, Ev (fun k => selfstabref01_All.l0 k (n : Int) m (i : Int)) r ∧ M32 r ∧ ∀ v, bit r v = decide (v < n) := by
  intro d
  induction d with
  | zero =>
    intro i m hi hm hb
    obtain rfl : i = n := by omega
    refine ⟨m, Ev.step (fun k => by rw [selfstabref01_All.l0]) ?_, hm, hb⟩
    simp only [if_neg (show ¬ (i : Int) < (i : Int) by omega)]
    exact Ev.now _
  | succ d ih =>
    intro i m hi hm hb
    have hs := M32_shl (v := i) (by omega)
    have ho := M32_or hm hs.1
    obtain ⟨r, h1, h2⟩ := ih (i + 1) _ (by omega) ho.1 (fun v => by
      rw [ho.2, hb, hs.2]
      by_cases h1 : v < i <;> by_cases h2 : v = i <;> simp [h1, h2] <;> omega)
    refine ⟨r, Ev.step (fun k => by rw [selfstabref01_All.l0]) ?_, h2⟩
    simp only [if_pos (show (i : Int) < (n : Int) by omega), if_pos (show (i : Int) < 32 by omega), u64_nat i (by omega), if_pos (show 0 ≤ (i : Int) by omega), wrap_nat i (by omega)]
    exact h1
theorem all_ev (n : Nat) (hn : n ≤ 32) : ∃ r, Ev (fun k => selfstabref01_All.f k (n : Int)) r ∧ M32 r ∧ ∀ v, bit r v = decide (v < n) :=
  all_l0 n hn _ 0 0 (Nat.zero_add _) M32_zero.1 (fun v => by rw [M32_zero.2]; simp)
def nb (P : List (List Lk)) (m : Int) (v : Nat) : Prop := ∃ u, adjB P v u = true ∧ bit m u = true
theorem ne_l0 (V : ValidG ids P) {m : Int} (hm : M32 m) : ∀ (d v : Nat) (x : Int), v + d = P.length → M32 x → (∀ j, bit x j = true ↔ j < v ∧ nb P m j) →
    ∃ r, Ev (fun k => graph_Neighbours.l0 k m x (P.length : Int) (v : Int) ids P) r ∧ M32 r ∧ ∀ j, bit r j = true ↔ j < P.length ∧ nb P m j := by
  have hn := V.2.1
  intro d
  induction d with
  | zero =>
    intro v x hv hx hb
    obtain rfl : v = P.length := by omega
    refine ⟨x, Ev.step (fun k => by rw [graph_Neighbours.l0]) ?_, hx, hb⟩
    simp only [if_neg (show ¬ (P.length : Int) < (P.length : Int) by omega)]
    exact Ev.now _
  | succ d ih =>
    intro v x hv hx hb
    have hv' : v < P.length := by omega
    obtain ⟨a, ha, ham, hab⟩ := around_ev V hv'
    have hA := M32_and ham hm
    have hiff : Go.bits .and .u32 a m = 0 ↔ ¬ nb P m v := by
      rw [M32_eq_zero hA.1]
      constructor
      · rintro h ⟨u, h1, h2⟩
        have := h u (by have := adj_lt V v u h1; omega)
        rw [hA.2, hab, h1, h2] at this
        cases this
      · intro h u hu
        rw [hA.2, hab]
        cases h1 : adjB P v u
        · rfl
        · cases h2 : bit m u
          · rfl
          · exact absurd ⟨u, h1, h2⟩ h
    by_cases h : Go.bits .and .u32 a m = 0
    · obtain ⟨r, h1, h2⟩ := ih (v + 1) x (by omega) hx (fun j => by
        rw [hb]
        constructor
        · rintro ⟨h1, h2⟩; exact ⟨by omega, h2⟩
        · rintro ⟨h1, h2⟩
          refine ⟨?_, h2⟩
          by_cases e : j = v
          · subst e; exact absurd h2 (hiff.1 h)
          · omega)
      refine ⟨r, Ev.step (fun k => by rw [graph_Neighbours.l0]) ?_, h2⟩
      simp only [if_pos (show (v : Int) < (P.length : Int) by omega)]
      refine Ev.bind ha ?_
      simp only [if_pos h, wrap_nat v (by omega)]
      exact h1
    · have hs := M32_shl (v := v) (by omega)
      have ho := M32_or hx hs.1
      have hnb : nb P m v := Classical.byContradiction fun hh => h (hiff.2 hh)
      obtain ⟨r, h1, h2⟩ := ih (v + 1) _ (by omega) ho.1 (fun j => by
        rw [ho.2, hs.2, Bool.or_eq_true, hb, decide_eq_true_iff]
        constructor
        · rintro (⟨h1, h2⟩ | rfl)
          · exact ⟨by omega, h2⟩
          · exact ⟨by omega, hnb⟩
        · rintro ⟨h1, h2⟩
          by_cases e : j = v
          · exact .inr e
          · exact .inl ⟨by omega, h2⟩)
      refine ⟨r, Ev.step (fun k => by rw [graph_Neighbours.l0]) ?_, h2⟩
      simp only [if_pos (show (v : Int) < (P.length : Int) by omega)]
      refine Ev.bind ha ?_
      simp only [if_neg h, if_pos (show 0 ≤ (v : Int) by omega), wrap_nat v (by omega)]
      exact h1
theorem ne_ev (V : ValidG ids P) {m : Int} (hm : M32 m) : ∃ r, Ev (fun k => graph_Neighbours.f k ids P m) r ∧ M32 r ∧ ∀ j, bit r j = true ↔ j < P.length ∧ nb P m j := by
  unfold graph_Neighbours.f graph_Valid.f
  simp only [Option.bind_some, validB_true V, if_true]
  exact ne_l0 V hm _ 0 0 (Nat.zero_add _) M32_zero.1 (fun j => by rw [M32_zero.2]; simp)
theorem ne_none {m : Int} (h : ¬ ValidG ids P) : Ev (fun k => graph_Neighbours.f k ids P m) 0 := by
  unfold graph_Neighbours.f graph_Valid.f
  simp only [Option.bind_some, validB_false h, Bool.false_eq_true, if_false]
  exact Ev.now _
def Indep (P : List (List Lk)) (m : Int) : Prop := (∀ j, bit m j = true → j < P.length) ∧ ∀ v u, bit m v = true → bit m u = true → adjB P v u = false
theorem nb_none {m r : Int} (hm : M32 m) (hr : M32 r) (hin : ∀ j, bit m j = true → j < P.length) (hb : ∀ j, bit r j = true ↔ j < P.length ∧ nb P m j) :
    (Go.bits .and .u32 r m == 0) = true ↔ ∀ v u, bit m v = true → bit m u = true → adjB P v u = false := by
  have hA := M32_and hr hm
  rw [beq_iff_eq, M32_eq_zero hA.1]
  constructor
  · intro h v u hv hu
    cases ha : adjB P v u
    · rfl
    · have hl : v < 32 := by
        rcases Nat.lt_or_ge v 32 with h2 | h2
        · exact h2
        · rw [bit_big hm h2] at hv; cases hv
      have := h v hl
      rw [hA.2, hv, (hb v).2 ⟨hin v hv, u, ha, hu⟩] at this
      cases this
  · intro h v hv
    rw [hA.2]
    cases h1 : bit m v
    · simp
    · cases h2 : bit r v
      · rfl
      · obtain ⟨_, u, h3, h4⟩ := (hb v).1 h2
        rw [h v u h1 h4] at h3
        cases h3
theorem indep_ev {m : Int} (hm : M32 m) : ∃ b, Ev (fun k => graph_Independent.f k ids P m) b ∧ (b = true ↔ ValidG ids P ∧ Indep P m) := by
  unfold graph_Independent.f graph_Valid.f
  simp only [Option.bind_some]
  by_cases V : ValidG ids P
  · simp only [validB_true V, if_true]
    have hl : bits_Len32.f m = some ((Lib.bitLen m.toNat : Nat) : Int) := by
      unfold bits_Len32.f
      rw [if_pos ⟨hm.1, by have := hm.2; omega⟩]
    simp only [hl, Option.bind_some]
    have hlen := bitLen_le hm P.length
    by_cases h : Lib.bitLen m.toNat ≤ P.length
    · simp only [if_pos (show ((Lib.bitLen m.toNat : Nat) : Int) ≤ (P.length : Int) by omega)]
      have hin : ∀ j, bit m j = true → j < P.length := fun j hj => by
        rcases Nat.lt_or_ge j P.length with h2 | h2
        · exact h2
        · rw [hlen.1 h j h2] at hj; cases hj
      obtain ⟨r, hr, hrm, hrb⟩ := ne_ev V hm
      refine ⟨_, Ev.bind hr (Ev.now _), ?_⟩
      rw [nb_none hm hrm hin hrb]
      exact ⟨fun h => ⟨V, hin, h⟩, fun h => h.2.2⟩
    · simp only [if_neg (show ¬ ((Lib.bitLen m.toNat : Nat) : Int) ≤ (P.length : Int) by omega)]
      refine ⟨false, Ev.now _, ⟨nofun, fun hh => ?_⟩⟩
      exact absurd (hlen.2 fun v hv => by
        cases hb : bit m v
        · rfl
        · have := hh.2.1 v hb; omega) h
  · simp only [validB_false V, Bool.false_eq_true, if_false]
    exact ⟨false, Ev.now _, ⟨nofun, fun hh => absurd hh.1 V⟩⟩
theorem rn_l1 (V : ValidG ids P) {m : Int} (hm : M32 m) {v : Nat} (hv : v < P.length) {Q : Int → Prop} (hr : ∀ x, M32 x → (∀ j, bit x j = true ↔ j < v + 1 ∧ nb P m j) → ∃ r, Ev (fun k => selfstabref01_Neighbours.l0 k m x ((v + 1 : Nat) : Int) ids P) r ∧ Q r) :
    ∀ (d i : Nat) (x : Int), i + d = (prt P v).length → M32 x → (∀ j, bit x j = true ↔ (j < v ∧ nb P m j) ∨ (j = v ∧ ∃ p, p < i ∧ bit m (lk (prt P v) p).f0.toNat = true)) →
    ∃ r, Ev (fun k => selfstabref01_Neighbours.l1 k m x (v : Int) (i : Int) ids P) r ∧ Q r := by
  have hn := V.2.1
  have hll := links_len V v
  intro d
  induction d with
  | zero =>
    intro i x hi hx hb
    obtain ⟨r, h1, h2⟩ := hr x hx (fun j => by
      rw [hb]
      constructor
      · rintro (⟨h1, h2⟩ | ⟨rfl, p, h1, h2⟩)
        · exact ⟨by omega, h2⟩
        · obtain ⟨u, hu, hue, hadj⟩ := link_node V hv (j := p) (by omega)
          rw [hue, Int.toNat_natCast] at h2
          exact ⟨by omega, u, hadj, h2⟩
      · rintro ⟨h1, u, h2, h3⟩
        by_cases e : j = v
        · subst e
          obtain ⟨e, he, hef⟩ := adjB_iff.1 h2
          obtain ⟨p, hp, hpe⟩ := List.getElem_of_mem he
          exact .inr ⟨rfl, p, by omega, by rw [lk_eq _ p hp, hpe, hef, Int.toNat_natCast]; exact h3⟩
        · exact .inl ⟨by omega, u, h2, h3⟩)
    refine ⟨r, Ev.step (fun k => by rw [selfstabref01_Neighbours.l1]) ?_, h2⟩
    simp only [if_pos (show 0 ≤ (v : Int) by omega), if_pos (show (v : Int) < (P.length : Int) by omega), rdR_prt, if_neg (show ¬ (i : Int) < ((prt P v).length : Int) by omega), wrap_nat v (by omega)]
    exact h1
  | succ d ih =>
    intro i x hi hx hb
    obtain ⟨u, hu, hue, hadj⟩ := link_node V hv (j := i) (by omega)
    by_cases h : bit m u = true
    · have hs := M32_shl (v := v) (by omega)
      have ho := M32_or hx hs.1
      obtain ⟨r, h1, h2⟩ := ih (i + 1) _ (by omega) ho.1 (fun j => by
        rw [ho.2, hs.2, Bool.or_eq_true, hb, decide_eq_true_iff]
        constructor
        · rintro ((h1 | ⟨h1, p, h2, h3⟩) | rfl)
          · exact .inl h1
          · exact .inr ⟨h1, p, by omega, h3⟩
          · exact .inr ⟨rfl, i, by omega, by rw [hue, Int.toNat_natCast]; exact h⟩
        · rintro (h1 | ⟨h1, _⟩)
          · exact .inl (.inl h1)
          · exact .inr h1)
      refine ⟨r, Ev.step (fun k => by rw [selfstabref01_Neighbours.l1]) ?_, h2⟩
      simp only [if_pos (show 0 ≤ (v : Int) by omega), if_pos (show (v : Int) < (P.length : Int) by omega), rdR_prt, if_pos (show (i : Int) < ((prt P v).length : Int) by omega), if_pos (show 0 ≤ (i : Int) by omega), rdT_lk, hue, has_eq hm, Option.bind_some, h, if_true, u64_nat v (by omega), wrap_nat i (by omega)]
      exact h1
    · obtain ⟨r, h1, h2⟩ := ih (i + 1) x (by omega) hx (fun j => by
        rw [hb]
        constructor
        · rintro (h1 | ⟨h1, p, h2, h3⟩)
          · exact .inl h1
          · exact .inr ⟨h1, p, by omega, h3⟩
        · rintro (h1 | ⟨h1, p, h2, h3⟩)
          · exact .inl h1
          · refine .inr ⟨h1, p, ?_, h3⟩
            by_cases e : p = i
            · subst e
              rw [hue, Int.toNat_natCast] at h3
              exact absurd h3 h
            · omega)
      refine ⟨r, Ev.step (fun k => by rw [selfstabref01_Neighbours.l1]) ?_, h2⟩
      simp only [if_pos (show 0 ≤ (v : Int) by omega), if_pos (show (v : Int) < (P.length : Int) by omega), rdR_prt, if_pos (show (i : Int) < ((prt P v).length : Int) by omega), if_pos (show 0 ≤ (i : Int) by omega), rdT_lk, hue, has_eq hm, Option.bind_some, if_neg h, wrap_nat i (by omega)]
      exact h1
theorem rn_l0 (V : ValidG ids P) {m : Int} (hm : M32 m) : ∀ (d v : Nat) (x : Int), v + d = P.length → M32 x → (∀ j, bit x j = true ↔ j < v ∧ nb P m j) →
    ∃ r, Ev (fun k => selfstabref01_Neighbours.l0 k m x (v : Int) ids P) r ∧ (M32 r ∧ ∀ j, bit r j = true ↔ j < P.length ∧ nb P m j) := by
  intro d
  induction d with
  | zero =>
    intro v x hv hx hb
    obtain rfl : v = P.length := by omega
    refine ⟨x, Ev.step (fun k => by rw [selfstabref01_Neighbours.l0]) ?_, hx, hb⟩
    simp only [if_neg (show ¬ (P.length : Int) < (P.length : Int) by omega)]
    exact Ev.now _
  | succ d ih =>
    intro v x hv hx hb
    obtain ⟨r, h1, h2⟩ := rn_l1 V hm (show v < P.length by omega) (fun x hx hb => ih (v + 1) x (by omega) hx hb) _ 0 x (Nat.zero_add _) hx (fun j => by
      rw [hb]
      exact ⟨fun h => .inl h, fun h => h.elim id (fun h => by obtain ⟨_, p, hp, _⟩ := h; omega)⟩)
    refine ⟨r, Ev.step (fun k => by rw [selfstabref01_Neighbours.l0]) ?_, h2⟩
    simp only [if_pos (show (v : Int) < (P.length : Int) by omega)]
    exact h1
theorem refNe_ev (hb : ∀ v, (prt P v).length < Big) {m : Int} (hm : M32 m) : ∃ r, Ev (fun k => graph_Neighbours.f k ids P m) r ∧ Ev (fun k => selfstabref01_Neighbours.f k ids P m) r ∧ M32 r ∧ (ValidG ids P → ∀ j, bit r j = true ↔ j < P.length ∧ nb P m j) := by
  unfold selfstabref01_Neighbours.f
  by_cases V : ValidG ids P
  · obtain ⟨r, h1, h2, h3⟩ := ne_ev V hm
    obtain ⟨s, k1, k2, k3⟩ := rn_l0 V hm _ 0 0 (Nat.zero_add _) M32_zero.1 (fun j => by rw [M32_zero.2]; simp)
    have e : s = r := M32_ext k2 h2 fun v hv => by
      rw [Bool.eq_iff_iff, k3, h3]
    subst e
    refine ⟨s, h1, ?_, h2, fun _ => h3⟩
    refine Ev.bind (refValid_ev ids P hb) ?_
    simp only [validB_true V, if_true]
    exact k1
  · refine ⟨0, ne_none V, ?_, M32_zero.1, fun h => absurd h V⟩
    refine Ev.bind (refValid_ev ids P hb) ?_
    simp only [validB_false V, Bool.false_eq_true, if_false]
    exact Ev.now _
theorem refIndep_ev (hb : ∀ v, (prt P v).length < Big) {m : Int} (hm : M32 m) : ∃ b, Ev (fun k => graph_Independent.f k ids P m) b ∧ Ev (fun k => selfstabref01_Independent.f k ids P m) b := by
  obtain ⟨b, h1, h2⟩ := indep_ev (ids := ids) (P := P) hm
  refine ⟨b, h1, ?_⟩
  unfold selfstabref01_Independent.f
  refine Ev.bind (refValid_ev ids P hb) ?_
  by_cases V : ValidG ids P
  · simp only [validB_true V, if_true]
    obtain ⟨r, hr, hrm, hrb⟩ := all_ev P.length (by have := V.2.1; omega)
    refine Ev.bind hr ?_
    have hA := M32_andNot hm hrm
    have hin : Go.bits .andNot .u32 m r = 0 ↔ ∀ j, bit m j = true → j < P.length := by
      rw [M32_eq_zero hA.1]
      constructor
      · intro h j hj
        have hl : j < 32 := by
          rcases Nat.lt_or_ge j 32 with h2 | h2
          · exact h2
          · rw [bit_big hm h2] at hj; cases hj
        have := h j hl
        rw [hA.2, hj, hrb] at this
        simpa using this
      · intro h j hj
        rw [hA.2, hrb]
        cases hm2 : bit m j
        · rfl
        · rw [decide_eq_true (h j hm2)]; rfl
    by_cases h : Go.bits .andNot .u32 m r = 0
    · simp only [if_pos h]
      obtain ⟨s, k1, k2, k3, k4⟩ := refNe_ev (ids := ids) hb hm
      refine Ev.bind k2 ?_
      refine Ev_cast (Ev.now _) ?_
      rw [Bool.eq_iff_iff, h2, nb_none hm k3 (hin.1 h) (k4 V)]
      exact ⟨fun hh => ⟨V, hin.1 h, hh⟩, fun hh => hh.2.2⟩
    · simp only [if_neg h]
      have e : b = false := by
        cases b
        · rfl
        · exact absurd (hin.2 (h2.1 rfl).2.1) h
      rw [e]
      exact Ev.now _
  · simp only [validB_false V, Bool.false_eq_true, if_false]
    have e : b = false := by
      cases b
      · rfl
      · exact absurd (h2.1 rfl).1 V
    rw [e]
    exact Ev.now _
end Go.Proofs.Ytmkpddhnnejfhaa.P
