/- ChannelSteps, the plain law: the reference's Valid, Send, Lose and Receive say the same. -/
import Derived.Test.YtcpkbgfemohlmaaSChannelSteps
import Derived.Test.YtcpkbgfemohlmaaMChan
import Derived.Test.YtcpkbgfemohlmaaP5
import Derived.Test.YtcpkbgfemohlmaaP6
namespace Go.Proofs.Ytcpkbgfemohlmaa.P
open Go.RowKit Go.Proofs.YtcpkbgfemohlmaaW.PrintWords Go.Proofs.YtcpkbgfemohlmaaW.PrintMore
set_option linter.unusedVariables false
theorem in_eq41 (a b c : Int) : selfstabref01_In.f a b c = some (decide (b ≤ a ∧ a ≤ c)) := by
  unfold selfstabref01_In.f
  by_cases h : a ≥ b
  · rw [if_pos h]; congr 1; exact decide_eq_decide.2 (by omega)
  · rw [if_neg h, decide_eq_false (by omega)]
theorem rv_l0 (a : Int) (l : List (List Int)) (hl : l.length < Big) : ∀ d i : Nat, i + d = l.length → ∃ b, Ev (fun k => selfstabref41_Valid.l0 k (i : Int) a l) b ∧ (b = true ↔ ∀ x ∈ l.drop i, x.length ≤ 6) := by
  unfold Big at hl
  intro d
  induction d with
  | zero =>
    intro i hi
    refine ⟨true, Ev.step (fun k => by rw [selfstabref41_Valid.l0]) ?_, by rw [List.drop_of_length_le (by omega)]; simp⟩
    simp only [if_neg (show ¬ (i : Int) < (l.length : Int) by omega)]
    exact Ev.now _
  | succ d ih =>
    intro i hi
    have hm := rdL_get l i (by omega)
    have hdr : l.drop i = l[i] :: l.drop (i + 1) := List.drop_eq_getElem_cons (by omega)
    by_cases h : ((rd_L1 l (i : Int)).length : Int) > 6
    · refine ⟨false, Ev.step (fun k => by rw [selfstabref41_Valid.l0]) ?_, ⟨nofun, fun hh => ?_⟩⟩
      · simp only [if_pos (show (i : Int) < (l.length : Int) by omega), if_pos (show 0 ≤ (i : Int) by omega), if_pos h]
        exact Ev.now _
      · have := hh l[i] (by rw [hdr]; exact List.mem_cons_self)
        rw [hm] at h
        omega
    · obtain ⟨b, hb, hiff⟩ := ih (i + 1) (by omega)
      refine ⟨b, Ev.step (fun k => by rw [selfstabref41_Valid.l0]) ?_, ?_⟩
      · simp only [if_pos (show (i : Int) < (l.length : Int) by omega), if_pos (show 0 ≤ (i : Int) by omega), if_neg h, wrap_nat i (by omega)]
        exact hb
      · rw [hiff, hdr]
        constructor
        · intro hh x hx
          rcases List.mem_cons.1 hx with rfl | hx
          · rw [hm] at h; omega
          · exact hh x hx
        · exact fun hh x hx => hh x (List.mem_cons_of_mem _ hx)
theorem rvalid_ev (a : Int) (l : List (List Int)) : Ev (fun k => selfstabref41_Valid.f k a l) (validC a l) := by
  unfold selfstabref41_Valid.f
  have hf : ¬ ValidC a l → Ev (fun k => selfstabref41_Valid.j0 k true a l) (validC a l) := fun h => by
    rw [validC_false h]
    refine Ev.step (fun k => by rw [selfstabref41_Valid.j0]) ?_
    simp only [if_true]
    exact Ev.now _
  simp only [in_eq41, Option.bind_some]
  by_cases h1 : 1 ≤ a ∧ a ≤ 8
  · simp only [decide_eq_true h1, if_true]
    by_cases h3 : (l.length : Int) > a
    · simp only [decide_eq_true h3]
      exact hf fun h => by have := h.2.2.1; omega
    · simp only [decide_eq_false h3]
      obtain ⟨b, hb, hiff⟩ := rv_l0 a l (by unfold Big; omega) _ 0 (Nat.zero_add _)
      have e : b = validC a l := by
        rw [Bool.eq_iff_iff, hiff, validC_iff, List.drop_zero]
        exact ⟨fun h => ⟨by omega, by omega, by omega, h⟩, fun h => h.2.2.2⟩
      rw [← e]
      refine Ev.step (fun k => by rw [selfstabref41_Valid.j0]) ?_
      simp only [Bool.false_eq_true, if_false]
      exact hb
  · simp only [decide_eq_false h1, Bool.false_eq_true, if_false]
    exact hf fun h => h1 ⟨h.1, h.2.1⟩
theorem rsend_ev (a : Int) (l : List (List Int)) (x : List Int) : Ev (fun k => selfstabref41_Send.f k a l x) (sendM a l x) := by
  unfold selfstabref41_Send.f sendM
  refine Ev.bind (rvalid_ev a l) ?_
  by_cases V : ValidC a l
  · simp only [validC_iff.2 V, if_true, if_pos V]
    by_cases h1 : (l.length : Int) = a
    · simp only [if_pos h1, if_pos (Or.inl h1 : (l.length : Int) = a ∨ x.length > 6)]
      exact Ev.now _
    · by_cases h2 : (x.length : Int) > 6
      · simp only [if_neg h1, if_pos h2, if_pos (Or.inr (by omega) : (l.length : Int) = a ∨ x.length > 6)]
        exact Ev.now _
      · have h8 : l.length ≤ 8 := by have := V.2.1; have := V.2.2.1; omega
        simp only [if_neg h1, if_neg h2, if_neg (show ¬ ((l.length : Int) = a ∨ x.length > 6) by omega), Option.bind_some, List.length_nil, Nat.zero_add, List.nil_append, List.length_singleton, if_pos (show l.length < 5864062014805 by omega), if_pos (show l.length + 1 < 5864062014805 by omega)]
        exact Ev.now _
  · simp only [validC_false V, Bool.false_eq_true, if_false, if_neg V]
    exact Ev.now _
theorem rlose_ev (a : Int) (l : List (List Int)) (i : Int) : Ev (fun k => selfstabref41_Lose.f k a l i) (loseM a l i) := by
  unfold selfstabref41_Lose.f loseM
  refine Ev.bind (rvalid_ev a l) ?_
  by_cases V : ValidC a l
  · have h8 : l.length ≤ 8 := by have := V.2.1; have := V.2.2.1; omega
    simp only [validC_iff.2 V, if_true, if_pos V]
    rw [wrap_id ((l.length : Int) - 1) (by omega) (by omega)]
    simp only [in_eq41, Option.bind_some]
    by_cases h : 0 ≤ i ∧ i < (l.length : Int)
    · rw [wrap_id (i + 1) (by omega) (by omega)]
      have e : (i + 1).toNat = i.toNat + 1 := by omega
      have h1 : (l.take i.toNat).length ≤ 8 := by rw [List.length_take]; omega
      have h2 : (l.drop (i.toNat + 1)).length ≤ 8 := by rw [List.length_drop]; omega
      simp only [decide_eq_true (show 0 ≤ i ∧ i ≤ (l.length : Int) - 1 by omega), if_true, if_pos h, if_pos (show 0 ≤ i by omega), if_pos (show i ≤ (l.length : Int) by omega), if_pos (show 0 ≤ i + 1 by omega), if_pos (show i + 1 ≤ (l.length : Int) by omega), List.length_nil, Nat.zero_add, List.nil_append, e, if_pos (show (l.take i.toNat).length < 5864062014805 by omega), if_pos (show (l.take i.toNat).length + (l.drop (i.toNat + 1)).length < 5864062014805 by omega)]
      rw [List.eraseIdx_eq_take_drop_succ]
      exact Ev.now _
    · simp only [decide_eq_false (show ¬ (0 ≤ i ∧ i ≤ (l.length : Int) - 1) by omega), Bool.false_eq_true, if_false, if_neg h]
      exact Ev.now _
  · simp only [validC_false V, Bool.false_eq_true, if_false, if_neg V]
    exact Ev.now _
theorem rrecv_ev (a : Int) (l : List (List Int)) : Ev (fun k => selfstabref41_Receive.f k a l) (recvM a l) := by
  unfold selfstabref41_Receive.f
  refine Ev.bind (rvalid_ev a l) ?_
  by_cases V : ValidC a l
  · simp only [validC_iff.2 V, if_true]
    cases l with
    | nil =>
      simp only [List.length_nil, show (((0 : Nat) : Int) = 0) = True by simp, if_true]
      refine Ev_cast (Ev.now _) ?_
      unfold recvM
      rw [if_pos V]
    | cons x r =>
      simp only [if_neg (show ¬ ((x :: r).length : Int) = 0 by rw [List.length_cons]; omega)]
      refine Ev.bind (rlose_ev a (x :: r) 0) ?_
      have e : rd_L1 (x :: r) 0 = x := rfl
      simp only [if_pos (show (0 : Int) < ((x :: r).length : Int) by rw [List.length_cons]; omega), e]
      refine Ev_cast (Ev.now _) ?_
      unfold loseM recvM
      rw [if_pos V, if_pos V, if_pos (show (0 : Int) ≤ 0 ∧ (0 : Int) < ((x :: r).length : Int) by rw [List.length_cons]; omega)]
      rfl
  · simp only [validC_false V, Bool.false_eq_true, if_false]
    refine Ev_cast (Ev.now _) ?_
    unfold recvM
    rw [if_neg V]
theorem rsame_ev (a : Int) (l : List (List Int)) (hl : l.length < Big) (hx : ∀ x ∈ l, x.length < Big) : Ev (fun k => selfstabref41_Same.f k a l a l) true := by
  unfold selfstabref41_Same.f
  simp only [if_true]
  refine Ev.bind (items_ev l hl hx) ?_
  exact Ev.now _
theorem big8 {a : Int} {l : List (List Int)} (V : ValidC a l) : l.length < Big ∧ ∀ x ∈ l, x.length < Big := by
  have h1 := V.2.1
  have h2 := V.2.2.1
  exact ⟨by unfold Big; omega, fun x hx => by have := V.2.2.2 x hx; unfold Big; omega⟩
theorem sendM_big (a : Int) (l : List (List Int)) (x : List Int) : (sendM a l x).2.1.length < Big ∧ ∀ y ∈ (sendM a l x).2.1, y.length < Big := by
  unfold sendM
  by_cases V : ValidC a l
  · rw [if_pos V]
    by_cases h : (l.length : Int) = a ∨ x.length > 6
    · rw [if_pos h]; exact big8 V
    · rw [if_neg h]; exact big8 (V.push h)
  · rw [if_neg V]; exact ⟨by decide, nofun⟩
theorem loseM_big (a : Int) (l : List (List Int)) (i : Int) : (loseM a l i).2.1.length < Big ∧ ∀ y ∈ (loseM a l i).2.1, y.length < Big := by
  unfold loseM
  by_cases V : ValidC a l
  · rw [if_pos V]
    by_cases h : 0 ≤ i ∧ i < (l.length : Int)
    · rw [if_pos h]; exact big8 (V.erase _)
    · rw [if_neg h]; exact big8 V
  · rw [if_neg V]; exact ⟨by decide, nofun⟩
theorem recvM_big (a : Int) (l : List (List Int)) : ((recvM a l).2.1.length < Big ∧ ∀ y ∈ (recvM a l).2.1, y.length < Big) ∧ (recvM a l).2.2.1.length < Big := by
  unfold recvM
  by_cases V : ValidC a l
  · rw [if_pos V]
    cases l with
    | nil => exact ⟨big8 V, show 0 < Big by decide⟩
    | cons x r => exact ⟨big8 V.drop1, (big8 V).2 x List.mem_cons_self⟩
  · rw [if_neg V]; exact ⟨⟨by decide, nofun⟩, show 0 < Big by decide⟩
theorem Pure_ChannelSteps : selfstablaw41_ChannelSteps.Pure := by
  intro c x i hc _ _
  have hcl := hc.2.1
  refine Ev.rounds ?_
  unfold selfstablaw41_ChannelSteps.f
  obtain ⟨b, hb, _⟩ := large_ev c.f0 c.f1 hcl
  refine Ev.bind hb ?_
  have ht : Ev (fun k => selfstablaw41_ChannelSteps.j0 k x i true c.f0 c.f1) true := by
    refine Ev.step (fun k => by rw [selfstablaw41_ChannelSteps.j0]) ?_
    simp only [if_true]
    refine Ev.bind known_ev ?_
    exact Ev.now _
  have hf : Ev (fun k => selfstablaw41_ChannelSteps.j0 k x i false c.f0 c.f1) true := by
    refine Ev.step (fun k => by rw [selfstablaw41_ChannelSteps.j0]) ?_
    simp only [Bool.false_eq_true, if_false]
    refine Ev.bind (send_ev _ _ _) ?_
    refine Ev.bind (rsend_ev _ _ _) ?_
    refine Ev.bind (recv_ev _ _) ?_
    refine Ev.bind (rrecv_ev _ _) ?_
    refine Ev.bind (lose_ev _ _ _) ?_
    refine Ev.bind (rlose_ev _ _ _) ?_
    refine Ev.bind known_ev ?_
    simp only [if_true]
    refine Ev.bind (valid_ev _ _) ?_
    refine Ev.bind (rvalid_ev _ _) ?_
    simp only [beq_self_eq_true, if_true]
    refine Ev.bind (rsame_ev _ _ (sendM_big _ _ _).1 (sendM_big _ _ _).2) ?_
    simp only [if_true]
    refine Ev.bind (rsame_ev _ _ (recvM_big _ _).1.1 (recvM_big _ _).1.2) ?_
    simp only [if_true]
    refine Ev.bind (same_ev _ (recvM_big _ _).2) ?_
    simp only [if_true]
    refine Ev.bind (rsame_ev _ _ (loseM_big _ _ _).1 (loseM_big _ _ _).2) ?_
    simp only [if_true]
    exact Ev.now _
  cases b with
  | true => exact ht
  | false =>
    simp only [Bool.false_eq_true, if_false]
    by_cases h : (x.length : Int) > 100
    · simp only [decide_eq_true h]; exact ht
    · simp only [decide_eq_false h]; exact hf
end Go.Proofs.Ytcpkbgfemohlmaa.P
