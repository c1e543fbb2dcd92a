/- The reference's Valid says just what 'ValidG' says; and so does 'fair'. -/
import Derived.Test.YtmkpddhnnejfhaaMEv
import Derived.Test.YtmkpddhnnejfhaaP2
import Derived.Test.YtmkpddhnnejfhaaP1
namespace Go.Proofs.Ytmkpddhnnejfhaa.P
open Go.RowKit Go.Proofs.YtmkpddhnnejfhaaW.PrintWords Go.Proofs.YtmkpddhnnejfhaaW.PrintMore
set_option linter.unusedVariables false
theorem rdR_prt (P : List (List Lk)) (v : Nat) : rd_L2 P (v : Int) = prt P v := by simp [rd_L2, prt]
theorem rdT_lnk (P : List (List Lk)) (v i : Nat) : rd_T58 (prt P v) (i : Int) = lnk P v i := by simp [rd_T58, lnk]
/-- Element i of a list of links. -/
def lk (l : List Lk) (i : Nat) : Lk := l.getD i z58
theorem rdT_lk (l : List Lk) (i : Nat) : rd_T58 l (i : Int) = lk l i := by simp [rd_T58, lk]
theorem lk_prt (P : List (List Lk)) (v i : Nat) : lk (prt P v) i = lnk P v i := rfl
theorem lk_eq (l : List Lk) (i : Nat) (h : i < l.length) : lk l i = l[i] := by simp [lk, List.getD_eq_getElem?_getD, List.getElem?_eq_getElem h]
theorem lk_mem (l : List Lk) (i : Nat) (h : i < l.length) : lk l i ∈ l := by rw [lk_eq l i h]; exact List.getElem_mem h
theorem take_lk (l : List Lk) (i : Nat) (h : i < l.length) : l.take (i + 1) = l.take i ++ [lk l i] := by rw [List.take_succ_eq_append_getElem h, lk_eq l i h]
theorem in_eq (a b c : Int) : selfstabref01_In.f a b c = some (decide (b ≤ a ∧ a ≤ c)) := by
  unfold selfstabref01_In.f
  by_cases h : a ≥ b
  · rw [if_pos h]; congr 1; by_cases h2 : a ≤ c <;> simp [h2, h]
  · rw [if_neg h]; congr 1; simp; intro h2; omega
/-! ### LightGraph -/
theorem light_l0 (ids : List Int) (P : List (List Lk)) (hP : P.length ≤ 30) : ∀ d i : Nat, i + d = P.length →
    ∃ b, Ev (fun k => selfstabmade_LightGraph.l0 k (i : Int) ids P) b ∧ (b = true ↔ ∀ v, i ≤ v → (prt P v).length ≤ 30) := by
  intro d
  induction d with
  | zero =>
    intro i hi
    refine ⟨true, Ev.step (fun k => by rw [selfstabmade_LightGraph.l0]) ?_, fun _ v hv => by rw [prt_big P v (by omega)]; simp, fun _ => rfl⟩
    simp only [if_neg (show ¬ (i : Int) < (P.length : Int) by omega)]
    exact Ev.now _
  | succ d ih =>
    intro i hi
    by_cases hl : ((prt P i).length : Int) > 30
    · refine ⟨false, Ev.step (fun k => by rw [selfstabmade_LightGraph.l0]) ?_, nofun, fun h => by have := h i (Nat.le_refl _); omega⟩
      simp only [if_pos (show (i : Int) < (P.length : Int) by omega), if_pos (show 0 ≤ (i : Int) by omega), rdR_prt, if_pos hl]
      exact Ev.now _
    · obtain ⟨b, hb, hiff⟩ := ih (i + 1) (by omega)
      refine ⟨b, Ev.step (fun k => by rw [selfstabmade_LightGraph.l0]) ?_, fun h v hv => ?_, fun h => hiff.2 fun v hv => h v (by omega)⟩
      · simp only [if_pos (show (i : Int) < (P.length : Int) by omega), if_pos (show 0 ≤ (i : Int) by omega), rdR_prt, if_neg hl, wrap_nat i (by omega)]
        exact hb
      · by_cases e : v = i
        · subst e; omega
        · exact hiff.1 h v (by omega)
def Light (ids : List Int) (P : List (List Lk)) : Prop := ids.length ≤ 30 ∧ P.length ≤ 30 ∧ ∀ v, (prt P v).length ≤ 30
theorem light_ev (ids : List Int) (P : List (List Lk)) : ∃ b, Ev (fun k => selfstabmade_LightGraph.f k ids P) b ∧ (b = true ↔ Light ids P) := by
  unfold selfstabmade_LightGraph.f
  by_cases h1 : (ids.length : Int) > 30
  · refine ⟨false, ?_, nofun, fun h => by have := h.1; omega⟩
    simp only [if_pos h1]
    refine Ev.step (fun k => by rw [selfstabmade_LightGraph.j0]) ?_
    simp only [if_true]
    exact Ev.now _
  · simp only [if_neg h1]
    by_cases h2 : (P.length : Int) > 30
    · refine ⟨false, ?_, nofun, fun h => by have := h.2.1; omega⟩
      simp only [decide_eq_true h2]
      refine Ev.step (fun k => by rw [selfstabmade_LightGraph.j0]) ?_
      simp only [if_true]
      exact Ev.now _
    · obtain ⟨b, hb, hiff⟩ := light_l0 ids P (by omega) P.length 0 (by omega)
      refine ⟨b, ?_, fun h => ⟨by omega, by omega, fun v => hiff.1 h v (Nat.zero_le _)⟩, fun h => hiff.2 fun v _ => h.2.2 v⟩
      simp only [decide_eq_false h2]
      refine Ev.step (fun k => by rw [selfstabmade_LightGraph.j0]) ?_
      simp only [Bool.false_eq_true, if_false]
      exact hb
/-! ### linksValid -/
theorem lv_ok (l : List Lk) (v n i : Nat) (hl : l.length < Big) (hi : i < l.length) {r : Bool} (hr : Ev (fun k => selfstabref01_linksValid.l0 k l (v : Int) (n : Int) ((i + 1 : Nat) : Int)) r) : ∀ d j : Nat, j + d = i →
    (∀ j', j ≤ j' → j' < i → (lk l j').f0 ≠ (lk l i).f0) → Ev (fun k => selfstabref01_linksValid.l1 k l (v : Int) (n : Int) (i : Int) (j : Int)) r := by
  unfold Big at hl
  intro d
  induction d with
  | zero =>
    intro j hj _
    refine Ev.step (fun k => by rw [selfstabref01_linksValid.l1]) ?_
    simp only [if_neg (show ¬ (j : Int) < (i : Int) by omega), wrap_nat i (by omega)]
    exact hr
  | succ d ih =>
    intro j hj h
    refine Ev.step (fun k => by rw [selfstabref01_linksValid.l1]) ?_
    simp only [if_pos (show (j : Int) < (i : Int) by omega), if_pos (show 0 ≤ (j : Int) by omega), if_pos (show (j : Int) < (l.length : Int) by omega), if_pos (show 0 ≤ (i : Int) by omega), if_pos (show (i : Int) < (l.length : Int) by omega), rdT_lk, if_neg (h j (Nat.le_refl _) (by omega)), wrap_nat j (by omega)]
    exact ih (j + 1) (by omega) fun j' h1 h2 => h j' (by omega) h2
theorem lv_dup (l : List Lk) (v n i : Nat) (hl : l.length < Big) (hi : i < l.length) : ∀ d j : Nat, j + d = i →
    (∃ j', j ≤ j' ∧ j' < i ∧ (lk l j').f0 = (lk l i).f0) → Ev (fun k => selfstabref01_linksValid.l1 k l (v : Int) (n : Int) (i : Int) (j : Int)) false := by
  unfold Big at hl
  intro d
  induction d with
  | zero =>
    rintro j hj ⟨j', h1, h2, _⟩
    omega
  | succ d ih =>
    rintro j hj ⟨j', h1, h2, h3⟩
    refine Ev.step (fun k => by rw [selfstabref01_linksValid.l1]) ?_
    simp only [if_pos (show (j : Int) < (i : Int) by omega), if_pos (show 0 ≤ (j : Int) by omega), if_pos (show (j : Int) < (l.length : Int) by omega), if_pos (show 0 ≤ (i : Int) by omega), if_pos (show (i : Int) < (l.length : Int) by omega), rdT_lk, wrap_nat j (by omega)]
    by_cases e : (lk l j).f0 = (lk l i).f0
    · simp only [if_pos e]
      exact Ev.now _
    · simp only [if_neg e]
      refine ih (j + 1) (by omega) ⟨j', ?_, h2, h3⟩
      rcases Nat.lt_or_ge j j' with h | h
      · exact h
      · have : j' = j := by omega
        subst this
        exact absurd h3 e
theorem mem_take_lk (l : List Lk) (i : Nat) (hi : i ≤ l.length) (x : Int) : x ∈ (l.take i).map (·.f0) ↔ ∃ j, j < i ∧ (lk l j).f0 = x := by
  constructor
  · intro h
    obtain ⟨e, he, rfl⟩ := List.mem_map.1 h
    obtain ⟨j, hj⟩ := List.getElem?_of_mem he
    have hlt := (List.getElem?_eq_some_iff.1 hj).1
    rw [List.length_take] at hlt
    rw [List.getElem?_take_of_lt (by omega), List.getElem?_eq_getElem (by omega)] at hj
    exact ⟨j, by omega, by rw [lk_eq l j (by omega), Option.some.inj hj]⟩
  · rintro ⟨j, hj, rfl⟩
    refine List.mem_map.2 ⟨lk l j, ?_, rfl⟩
    rw [lk_eq l j (by omega)]
    exact List.mem_of_getElem? (i := j) (by rw [List.getElem?_take_of_lt hj, List.getElem?_eq_getElem (by omega)])
theorem lv_l0 (l : List Lk) (v n : Nat) (hl : l.length < Big) (hn : n ≤ 1000) : ∀ d i : Nat, i + d = l.length → okLinks n v (l.take i) →
    ∃ b, Ev (fun k => selfstabref01_linksValid.l0 k l (v : Int) (n : Int) (i : Int)) b ∧ (b = true ↔ okLinks n v l) := by
  intro d
  induction d with
  | zero =>
    intro i hi ho
    refine ⟨true, Ev.step (fun k => by rw [selfstabref01_linksValid.l0]) ?_, fun _ => ?_, fun _ => rfl⟩
    · simp only [if_neg (show ¬ (i : Int) < (l.length : Int) by omega)]
      exact Ev.now _
    · rwa [List.take_of_length_le (by omega)] at ho
  | succ d ih =>
    intro i hi ho
    have hilt : i < l.length := by omega
    have hst : (fun k : Nat => selfstabref01_linksValid.l0 (k + 1) l (v : Int) (n : Int) (i : Int)) = fun k => (if 0 ≤ (lk l i).f0 ∧ (lk l i).f0 ≤ (n : Int) - 1 then (if (lk l i).f0 = (v : Int) then (selfstabref01_linksValid.j1 k l v n i true) else (selfstabref01_linksValid.j1 k l v n i (!decide (1 ≤ (lk l i).f1 ∧ (lk l i).f1 ≤ 15)))) else (selfstabref01_linksValid.j1 k l v n i true)) := by
      funext k
      rw [selfstabref01_linksValid.l0]
      simp only [if_pos (show (i : Int) < (l.length : Int) by omega), if_pos (show 0 ≤ (i : Int) by omega), rdT_lk, in_eq, Option.bind_some, wrap_id ((n : Int) - 1) (by omega) (by omega), decide_eq_true_eq]
    have hj : ∀ b : Bool, b = true → Ev (fun k => selfstabref01_linksValid.j1 k l (v : Int) (n : Int) (i : Int) b) false := fun b hb => by
      subst hb
      refine Ev.step (fun k => by rw [selfstabref01_linksValid.j1]) ?_
      simp only [if_true]
      exact Ev.now _
    by_cases hok : 0 ≤ (lk l i).f0 ∧ (lk l i).f0 < (n : Int) ∧ (lk l i).f0 ≠ (v : Int) ∧ 1 ≤ (lk l i).f1 ∧ (lk l i).f1 ≤ 15
    · by_cases hdup : ∃ j', 0 ≤ j' ∧ j' < i ∧ (lk l j').f0 = (lk l i).f0
      · refine ⟨false, Ev.step (fun k => congrFun hst k) ?_, nofun, fun h => ?_⟩
        · simp only [if_pos (show 0 ≤ (lk l i).f0 ∧ (lk l i).f0 ≤ (n : Int) - 1 from ⟨hok.1, by omega⟩), if_neg hok.2.2.1, decide_eq_true (show 1 ≤ (lk l i).f1 ∧ (lk l i).f1 ≤ 15 from hok.2.2.2)]
          refine Ev.step (fun k => by rw [selfstabref01_linksValid.j1]) ?_
          simp only [Bool.not_true, Bool.false_eq_true, if_false]
          exact lv_dup l v n i hl hilt i 0 (by omega) hdup
        · exfalso
          have h1 : ((l.take (i + 1)).map (·.f0)).Nodup := h.2.sublist (List.Sublist.map _ (List.take_sublist _ _))
          rw [take_lk l i hilt, List.map_append] at h1
          obtain ⟨j', _, h2, h3⟩ := hdup
          exact (List.nodup_append.1 h1).2.2 _ ((mem_take_lk l i (by omega) _).2 ⟨j', h2, rfl⟩) _ (by simp) h3
      · have hn2 : (lk l i).f0 ∉ (l.take i).map (·.f0) := fun hm => by
          obtain ⟨j', h2, h3⟩ := (mem_take_lk l i (by omega) _).1 hm
          exact hdup ⟨j', Nat.zero_le _, h2, h3⟩
        have ho2 : okLinks n v (l.take (i + 1)) := by
          rw [take_lk l i hilt]
          refine ⟨fun e he => ?_, ?_⟩
          · rcases List.mem_append.1 he with he | he
            · exact ho.1 e he
            · rw [List.mem_singleton.1 he]; exact ⟨hok.1, hok.2.1, hok.2.2.1, hok.2.2.2.1, hok.2.2.2.2⟩
          · rw [List.map_append]
            refine List.nodup_append.2 ⟨ho.2, by simp, fun a ha b hb => ?_⟩
            simp at hb
            subst hb
            rintro rfl
            exact hn2 ha
        obtain ⟨b, hb, hiff⟩ := ih (i + 1) (by omega) ho2
        refine ⟨b, Ev.step (fun k => congrFun hst k) ?_, hiff⟩
        simp only [if_pos (show 0 ≤ (lk l i).f0 ∧ (lk l i).f0 ≤ (n : Int) - 1 from ⟨hok.1, by omega⟩), if_neg hok.2.2.1, decide_eq_true (show 1 ≤ (lk l i).f1 ∧ (lk l i).f1 ≤ 15 from hok.2.2.2)]
        refine Ev.step (fun k => by rw [selfstabref01_linksValid.j1]) ?_
        simp only [Bool.not_true, Bool.false_eq_true, if_false]
        exact lv_ok l v n i hl hilt hb i 0 (by omega) fun j' _ h2 h3 => hdup ⟨j', Nat.zero_le _, h2, h3⟩
    · refine ⟨false, Ev.step (fun k => congrFun hst k) ?_, nofun, fun h => ?_⟩
      · by_cases c1 : 0 ≤ (lk l i).f0 ∧ (lk l i).f0 ≤ (n : Int) - 1
        · simp only [if_pos c1]
          by_cases c2 : (lk l i).f0 = (v : Int)
          · simp only [if_pos c2]
            exact hj _ rfl
          · simp only [if_neg c2]
            exact hj _ (by rw [decide_eq_false (fun h => hok ⟨c1.1, by omega, c2, h.1, h.2⟩)]; rfl)
        · simp only [if_neg c1]
          exact hj _ rfl
      · exact absurd (h.1 _ (lk_mem l i hilt)) (fun h => hok h)
theorem links_ev (l : List Lk) (v n : Nat) (hl : l.length < Big) (hn : n ≤ 1000) : ∃ b, Ev (fun k => selfstabref01_linksValid.f k l (v : Int) (n : Int)) b ∧ (b = true ↔ okLinks n v l) := by
  unfold selfstabref01_linksValid.f
  exact lv_l0 l v n hl hn l.length 0 (by omega) ⟨by simp, by simp⟩
end Go.Proofs.Ytmkpddhnnejfhaa.P
