/- DaemonListsWhatItPermits, the plain law. -/
import Derived.Test.YtmkpddhnnejfhaaSDaemonListsWhatItPermits
import Derived.Test.YtmkpddhnnejfhaaMChoices
import Derived.Test.YtmkpddhnnejfhaaP1
import Derived.Test.YtmkpddhnnejfhaaP4
namespace Go.Proofs.Ytmkpddhnnejfhaa.P
open Go.RowKit Go.Proofs.YtmkpddhnnejfhaaW.PrintWords Go.Proofs.YtmkpddhnnejfhaaW.PrintMore
set_option linter.unusedVariables false
variable {ids : List Int} {P : List (List Lk)}
set_option maxRecDepth 100000 in
theorem awake_at : selfstablaw15_awake.f 40 = some true := by decide +kernel
theorem awake_ev : Ev (fun k => selfstablaw15_awake.f k) true := Ev.of (fun k => selfstablaw15_awake.mono k) awake_at
theorem fair_ev (ids : List Int) (P : List (List Lk)) : ∃ b, Ev (fun k => selfstablaw15_fair.f k ids P) b ∧ (b = true ↔ Light ids P ∧ ValidG ids P) := by
  obtain ⟨b, hb, hiff⟩ := light_ev ids P
  unfold selfstablaw15_fair.f
  cases b with
  | true =>
    have hL := hiff.1 rfl
    refine ⟨validB ids P, ?_, by rw [validB_iff]; exact ⟨fun h => ⟨hL, h⟩, fun h => h.2⟩⟩
    refine Ev.bind hb ?_
    simp only [if_true]
    refine Ev.bind (refValid_ev ids P hL.big) ?_
    exact Ev.now _
  | false =>
    refine ⟨false, ?_, ⟨nofun, fun h => absurd (hiff.2 h.1) (by simp)⟩⟩
    refine Ev.bind hb ?_
    simp only [Bool.false_eq_true, if_false]
    exact Ev.now _
theorem kind_eq (a : Int) : ∃ v : Int, 1 ≤ v ∧ v ≤ 4 ∧ ∃ t, selfstabmade_Mod.f a 4 = some t ∧ wrap64 (1 + t) = v := by
  obtain ⟨v, hv, he⟩ := mod_eq a 4 (by decide) (by decide)
  exact ⟨(v : Int) + 1, by omega, by omega, v, he, by unfold wrap64; omega⟩
theorem all_and {en r : Int} (he : M32 en) (hr : M32 r) (hb : ∀ v, bit r v = decide (v < P.length)) : M32 (Go.bits .and .u32 en r) ∧ InG P (Go.bits .and .u32 en r) := by
  obtain ⟨a, b⟩ := M32_and he hr
  refine ⟨a, fun v hv => ?_⟩
  rw [b, hb] at hv
  simp at hv; exact hv.2
theorem least_part {m : Int} (hm : M32 m) (h0 : m ≠ 0) : Part (leastS m) m ∧ leastS m ≠ 0 ∧ leastS (leastS m) = leastS m := by
  obtain ⟨t, ht, h1, h2⟩ := bit_lowest hm h0
  obtain ⟨l1, l2⟩ := least_bits hm h1 h2
  refine ⟨fun v hv => ?_, fun h => ?_, ?_⟩
  · rw [l2] at hv
    have hv : v = t := by simpa using hv
    rw [hv]; exact h1
  · have := l2 t
    rw [h] at this
    simp [bit] at this
  · have b1 : bit (leastS m) t = true := by rw [l2]; simp
    have b2 : ∀ i, i < t → bit (leastS m) i = false := fun i hi => by rw [l2]; simp; omega
    rw [least_pw l1 b1 b2, least_pw hm h1 h2]
theorem pw_eq {v : Nat} (hv : v < 32) : pw v = ((2 ^ v : Nat) : Int) := by
  obtain ⟨a, b⟩ := pw_bits hv
  have hp : 2 ^ v < 2 ^ 32 := Nat.pow_lt_pow_right (by decide) hv
  generalize hx : 2 ^ v = x at hp
  refine M32_ext a ⟨Int.natCast_nonneg _, by omega⟩ fun u _ => ?_
  rw [b]
  show _ = x.testBit u
  rw [← hx, Nat.testBit_two_pow]
  exact decide_eq_decide.2 ⟨fun h => h.symm, fun h => h.symm⟩
/-- The choices: ascending, and just what is permitted. -/
theorem ch_list (V : ValidG ids P) {kind en : Int} (hk : 1 ≤ kind ∧ kind ≤ 4) (he : M32 en) (hi : InG P en) (h2 : (chG ids P kind en).2 = 0) :
    (chG ids P kind en).1.Pairwise (· < ·) ∧ (∀ x, x ∈ (chG ids P kind en).1 ↔ M32 x ∧ PermG ids P kind en x) ∧ (en ≠ 0 ↔ 0 < (chG ids P kind en).1.length) := by
  have hmem : ∀ x, x ∈ (chG ids P kind en).1 ↔ M32 x ∧ PermP P kind en x := by
    intro x
    revert h2
    unfold chG
    rw [if_pos (validB_iff.2 V), if_pos hk, if_pos ((inB_iff he).2 hi)]
    by_cases k1 : kind = 1
    · rw [if_pos k1]
      intro _
      show x ∈ eachL 32 en ↔ _
      rw [(each_all he).1, List.mem_map]
      constructor
      · rintro ⟨v, hv, rfl⟩
        obtain ⟨hv1, hv2⟩ := List.mem_filter.1 hv
        have hv32 := List.mem_range.1 hv1
        obtain ⟨a, b⟩ := pw_bits hv32
        have b1 : bit (pw v) v = true := by rw [b]; simp
        have b2 : ∀ i, i < v → bit (pw v) i = false := fun i hi => by rw [b]; simp; omega
        refine ⟨a, fun h => by rw [h] at b1; simp [bit] at b1, fun u hu => ?_, fun _ => (least_pw a b1 b2).symm, fun h => by omega, fun h => by omega⟩
        rw [b] at hu
        have hu : u = v := by simpa using hu
        rw [hu]; exact hv2
      · rintro ⟨hx, h0, hp, h1, _, _⟩
        obtain ⟨t, ht, c1, c2⟩ := bit_lowest hx h0
        exact ⟨t, List.mem_filter.2 ⟨List.mem_range.2 ht, hp t c1⟩, (least_pw hx c1 c2).symm.trans (h1 k1).symm⟩
    · rw [if_neg k1]
      by_cases k4 : kind = 4
      · rw [if_pos k4]
        by_cases h0 : en = 0
        · rw [if_pos h0]
          intro _
          refine ⟨(fun h => by cases h), fun h => ?_⟩
          exact absurd ((h.2.2.2.2.2 k4).trans h0) h.2.1
        · rw [if_neg h0]
          intro _
          show x ∈ [en] ↔ _
          rw [List.mem_singleton]
          constructor
          · rintro rfl; exact ⟨he, h0, fun v hv => hv, fun h => absurd h k1, fun h => by omega, fun _ => rfl⟩
          · exact fun h => h.2.2.2.2.2 k4
      · rw [if_neg k4]
        by_cases c : card en > 10
        · rw [if_pos c]; intro h; cases h
        · rw [if_neg c]
          intro _
          obtain ⟨E, rfl, hE⟩ := he.nat
          show x ∈ (partsL E).filter (permB P kind E) ↔ _
          rw [List.mem_filter, mem_parts hE, permB_iff]
          exact ⟨fun h => ⟨h.1.1, h.2⟩, fun h => ⟨⟨h.1, h.2.1, h.2.2.1⟩, h.2⟩⟩
  refine ⟨?_, fun x => (hmem x).trans ⟨fun h => ⟨h.1, V, hk, hi, h.2⟩, fun h => ⟨h.1, h.2.2.2.2⟩⟩, ?_⟩
  · unfold chG
    rw [if_pos (validB_iff.2 V), if_pos hk, if_pos ((inB_iff he).2 hi)]
    repeat' split
    · show (eachL 32 en).Pairwise (· < ·)
      rw [(each_all he).1, List.pairwise_map]
      refine List.Pairwise.imp_of_mem ?_ ((List.pairwise_lt_range (n := 32)).filter _)
      intro a b ha hb hab
      have ha := List.mem_range.1 (List.mem_filter.1 ha).1
      have hb := List.mem_range.1 (List.mem_filter.1 hb).1
      rw [pw_eq ha, pw_eq hb]
      have := Nat.pow_lt_pow_right (a := 2) (by decide) hab
      omega
    · exact List.Pairwise.nil
    · simp
    · exact List.Pairwise.nil
    · exact (subs_sorted _ _).filter _
  · constructor
    · intro h0
      obtain ⟨a, b, c⟩ := least_part he h0
      have hx : ∃ x, x ∈ (chG ids P kind en).1 := by
        by_cases k4 : kind = 4
        · exact ⟨en, (hmem en).2 ⟨he, h0, fun v hv => hv, fun h => by omega, fun h => by omega, fun _ => rfl⟩⟩
        · refine ⟨leastS en, (hmem _).2 ⟨M32_least he, b, a, fun _ => c.symm, fun _ => ⟨fun j hj => hi j (a j hj), fun v u hv hu => ?_⟩, fun h => absurd h k4⟩⟩
          obtain ⟨t, ht, c1, c2⟩ := bit_lowest he h0
          obtain ⟨l1, l2⟩ := least_bits he c1 c2
          rw [l2] at hv hu
          have hv : v = t := by simpa using hv
          have hu : u = t := by simpa using hu
          subst hv; subst hu
          cases h : adjB P u u with
          | false => rfl
          | true =>
            exfalso
            obtain ⟨e, he2, hf⟩ := adjB_iff.1 h
            exact ((V.2.2.2.2.1 u (hi u c1)).1 e he2).2.2.1 hf
      obtain ⟨x, hx⟩ := hx
      exact List.length_pos_of_mem hx
    · intro h
      obtain ⟨x, hx⟩ := List.exists_mem_of_length_pos h
      obtain ⟨_, h0, hp, _⟩ := (hmem x).1 hx
      rintro rfl
      apply h0
      refine (M32_eq_zero ((hmem x).1 hx).1).2 fun v _ => ?_
      cases hb : bit x v with
      | false => rfl
      | true => have := hp v hb; simp [bit] at this
theorem lw_l0 (V : ValidG ids P) {kind en ch : Int} (he : M32 en) (hc : M32 ch) (l : List Int) (hlen : l.length < Big) (hl : ∀ x ∈ l, M32 x ∧ PermG ids P kind en x) (hs : l.Pairwise (· < ·)) (hall : PermG ids P kind en ch ↔ ch ∈ l) (h0 : en ≠ 0 ↔ 0 < l.length) :
    ∀ (d i : Nat) (b : Bool), i + d = l.length → (b = true ↔ ch ∈ l.take i) → Ev (fun k => selfstablaw15_DaemonListsWhatItPermits.l0 k kind en ch l b (i : Int) ids P) true
  | 0, i, b, hi, hbi => by
    refine Ev.step (fun k => by rw [selfstablaw15_DaemonListsWhatItPermits.l0]) ?_
    simp only [if_neg (show ¬ (i : Int) < (l.length : Int) by omega)]
    refine Ev.bind awake_ev ?_
    simp only [if_true]
    obtain ⟨p, hp, hp2⟩ := Permits_ev ids P kind he hc
    refine Ev.bind hp ?_
    have e : b = p := by
      rw [Bool.eq_iff_iff, hbi, hp2, List.take_of_length_le (by omega), hall]
    rw [e]
    simp only [beq_self_eq_true, if_true]
    have : (decide ((l.length : Int) > 0) == (en != 0)) = true := by
      rw [beq_iff_eq, Bool.eq_iff_iff, decide_eq_true_iff, bne_iff_ne, h0]
      omega
    rw [this]
    exact Ev.now _
  | d + 1, i, b, hi, hbi => by
    have hB : Big = 4611686018427387904 := rfl
    have hlt : i < l.length := by omega
    have hx : rd l (i : Int) ∈ l := mem_rd l i hlt
    obtain ⟨m1, m2⟩ := hl _ hx
    obtain ⟨p, hp, hp2⟩ := Permits_ev ids P kind he m1
    obtain rfl := hp2.2 m2
    have hstep : ∀ c : Bool, (c = true ↔ ch ∈ l.take (i + 1)) → Ev (fun k => selfstablaw15_DaemonListsWhatItPermits.l0 k kind en ch l c ((i + 1 : Nat) : Int) ids P) true := fun c hcc => lw_l0 V he hc l hlen hl hs hall h0 d (i + 1) c (by omega) hcc
    have htake : ch ∈ l.take (i + 1) ↔ ch ∈ l.take i ∨ ch = rd l (i : Int) := by
      rw [take_succ_rd l i hlt, List.mem_append, List.mem_singleton]
    refine Ev.step (fun k => by rw [selfstablaw15_DaemonListsWhatItPermits.l0]) ?_
    simp only [if_pos (show (i : Int) < (l.length : Int) by omega), if_pos (show 0 ≤ (i : Int) by omega), wrap_nat i (by omega)]
    refine Ev.bind hp ?_
    have hfin : Ev (fun k => if b = true then (selfstablaw15_DaemonListsWhatItPermits.l0 k kind en ch l true ((i + 1 : Nat) : Int) ids P) else (selfstablaw15_DaemonListsWhatItPermits.l0 k kind en ch l ((rd l (i : Int)) == ch) ((i + 1 : Nat) : Int) ids P)) true := by
      cases b with
      | true =>
        simp only [if_true]
        exact hstep true ⟨fun _ => htake.2 (.inl (hbi.1 rfl)), fun _ => rfl⟩
      | false =>
        simp only [Bool.false_eq_true, if_false]
        refine hstep _ ?_
        rw [htake, beq_iff_eq]
        refine ⟨fun h => .inr h.symm, fun h => ?_⟩
        rcases h with h | h
        · have := hbi.2 h; cases this
        · exact h.symm
    simp only [if_true]
    by_cases hp0 : (i : Int) > 0
    · have hw : wrap64 ((i : Int) - 1) = ((i - 1 : Nat) : Int) := by unfold wrap64; omega
      have hlt2 : rd l ((i - 1 : Nat) : Int) < rd l (i : Int) := by
        have e1 : rd l (i : Int) = l[i] := by simp [rd, List.getD_eq_getElem?_getD, List.getElem?_eq_getElem hlt]
        have e2 : rd l ((i - 1 : Nat) : Int) = l[i - 1] := by simp [rd, List.getD_eq_getElem?_getD, List.getElem?_eq_getElem (show i - 1 < l.length by omega)]
        rw [e1, e2]
        exact List.pairwise_iff_getElem.1 hs (i - 1) i (by omega) hlt (by omega)
      simp only [if_pos hp0, hw, if_pos (show 0 ≤ ((i - 1 : Nat) : Int) by omega), if_pos (show ((i - 1 : Nat) : Int) < (l.length : Int) by omega), if_neg (show ¬ rd l (i : Int) ≤ rd l ((i - 1 : Nat) : Int) by omega)]
      exact hfin
    · simp only [if_neg hp0]
      exact hfin
theorem chG_err (V : ValidG ids P) {kind en : Int} (hk : 1 ≤ kind ∧ kind ≤ 4) (he : M32 en) (hi : InG P en) : (chG ids P kind en).2 = 0 ∨ (chG ids P kind en) = ([], 3) ∧ card en > 10 ∧ (kind = 2 ∨ kind = 3) := by
  unfold chG
  rw [if_pos (validB_iff.2 V), if_pos hk, if_pos ((inB_iff he).2 hi)]
  by_cases k1 : kind = 1
  · rw [if_pos k1]; exact .inl rfl
  · rw [if_neg k1]
    by_cases k4 : kind = 4
    · rw [if_pos k4]; left; split <;> rfl
    · rw [if_neg k4]
      by_cases c : card en > 10
      · rw [if_pos c]; exact .inr ⟨rfl, c, by omega⟩
      · rw [if_neg c]; exact .inl rfl
theorem lw_len (ids : List Int) (P : List (List Lk)) (kind : Int) {en : Int} (he : M32 en) : (chG ids P kind en).1.length < Big := by
  have hB : Big = 4611686018427387904 := rfl
  obtain ⟨E, rfl, hE⟩ := he.nat
  have h1 : (eachL 32 (E : Int)).length ≤ 32 := by rw [(each_all he).1, List.length_map]; exact Nat.le_trans (List.length_filter_le _ _) (by simp)
  have h2 : ((partsL E).filter (permB P kind E)).length < Big := Nat.lt_of_le_of_lt (List.length_filter_le _ _) (parts_len hE)
  unfold chG
  repeat' split
  all_goals (first | (simp only [Int.toNat_natCast]; exact h2) | (simp; omega))
theorem Pure_DaemonListsWhatItPermits : selfstablaw15_DaemonListsWhatItPermits.Pure := by
  intro x kd en ch _ _ he' hc'
  have hc := M32_of hc'
  refine Ev.rounds ?_
  unfold selfstablaw15_DaemonListsWhatItPermits.f
  obtain ⟨t, hb, hiff⟩ := fair_ev x.f0 x.f1
  refine Ev.bind hb ?_
  cases t with
  | false =>
    simp only [Bool.false_eq_true, if_false]
    refine Ev.bind awake_ev ?_
    exact Ev.now _
  | true =>
    obtain ⟨hL, V⟩ := hiff.1 rfl
    obtain ⟨kind, a1, a2, ta, ha, hae⟩ := kind_eq kd
    obtain ⟨r, hr, hm, hbit⟩ := all_ev x.f1.length (by have := hL.2.1; omega)
    simp only [if_true, ha, Option.bind_some, hae]
    refine Ev.bind hr ?_
    obtain ⟨he, hi⟩ := all_and (P := x.f1) (M32_of he') hm hbit
    generalize Go.bits .and .u32 en r = e at he hi ⊢
    refine Ev.bind (choices_ev x.f0 x.f1 kind he) ?_
    rcases chG_err V ⟨a1, a2⟩ he hi with h2 | ⟨h2, h3, h4⟩
    · simp only [if_pos h2]
      obtain ⟨c1, c2, c3⟩ := ch_list V ⟨a1, a2⟩ he hi h2
      exact lw_l0 V he hc _ (lw_len x.f0 x.f1 kind he) (fun y hy => (c2 y).1 hy) c1 ⟨fun h => (c2 ch).2 ⟨hc, h⟩, fun h => ((c2 ch).1 h).2⟩ c3 _ 0 false (Nat.zero_add _) ⟨nofun, fun h => by simp at h⟩
    · rw [h2]
      simp only [show ((3 : Int) = 0) = False by simp, if_false]
      refine Ev.bind awake_ev ?_
      simp only [if_true, List.length_nil, show (((0 : Nat) : Int) = 0) = True by simp]
      refine Ev.bind (count_ev he) ?_
      simp only [if_pos (show (card e : Int) > 10 by omega)]
      rcases h4 with rfl | rfl
      · exact Ev_eq fun k => by decide
      · exact Ev_eq fun k => by decide
end Go.Proofs.Ytmkpddhnnejfhaa.P
