/- ChannelPlays, the plain law: the reference's Play says the same. -/
import Derived.Test.YtcpkbgfemohlmaaSChannelPlays
import Derived.Test.YtcpkbgfemohlmaaMChan
import Derived.Test.YtcpkbgfemohlmaaP5
import Derived.Test.YtcpkbgfemohlmaaP6
import Derived.Test.YtcpkbgfemohlmaaP7
namespace Go.Proofs.Ytcpkbgfemohlmaa.P
open Go.RowKit Go.Proofs.YtcpkbgfemohlmaaW.PrintWords Go.Proofs.YtcpkbgfemohlmaaW.PrintMore
set_option linter.unusedVariables false
theorem in_eq41 (a b c : Int) : selfstabref01_In.f a b c = some (decide (b ≤ a ∧ a ≤ c)) := by
  unfold selfstabref01_In.f
  by_cases h : a ≥ b
  · rw [if_pos h]; congr 1; exact decide_eq_decide.2 (by omega)
  · rw [if_neg h, decide_eq_false (by omega)]
theorem rv_l0 (a : Int) (l : List (List Int)) (hl : l.length < Big) : ∀ d i : Nat, i + d = l.length → ∃ b, Ev (fun k => selfstabref41_Valid.l0 k (i : Int) a l) b ∧ (b = true ↔ ∀ x ∈ l.drop i, x.length ≤ 6) := by
  unfold Big at hl
  intro d
  induction d with
  | zero =>
    intro i hi
    refine ⟨true, Ev.step (fun k => by rw [selfstabref41_Valid.l0]) ?_, by rw [List.drop_of_length_le (by omega)]; simp⟩
    simp only [if_neg (show ¬ (i : Int) < (l.length : Int) by omega)]
    exact Ev.now _
  | succ d ih =>
    intro i hi
    have hm := rdL_get l i (by omega)
    have hdr : l.drop i = l[i] :: l.drop (i + 1) := List.drop_eq_getElem_cons (by omega)
    by_cases h : ((rd_L1 l (i : Int)).length : Int) > 6
    · refine ⟨false, Ev.step (fun k => by rw [selfstabref41_Valid.l0]) ?_, ⟨nofun, fun hh => ?_⟩⟩
      · simp only [if_pos (show (i : Int) < (l.length : Int) by omega), if_pos (show 0 ≤ (i : Int) by omega), if_pos h]
        exact Ev.now _
      · have := hh l[i] (by rw [hdr]; exact List.mem_cons_self)
        rw [hm] at h
        omega
    · obtain ⟨b, hb, hiff⟩ := ih (i + 1) (by omega)
      refine ⟨b, Ev.step (fun k => by rw [selfstabref41_Valid.l0]) ?_, ?_⟩
      · simp only [if_pos (show (i : Int) < (l.length : Int) by omega), if_pos (show 0 ≤ (i : Int) by omega), if_neg h, wrap_nat i (by omega)]
        exact hb
      · rw [hiff, hdr]
        constructor
        · intro hh x hx
          rcases List.mem_cons.1 hx with rfl | hx
          · rw [hm] at h; omega
          · exact hh x hx
        · exact fun hh x hx => hh x (List.mem_cons_of_mem _ hx)
theorem rvalid_ev (a : Int) (l : List (List Int)) : Ev (fun k => selfstabref41_Valid.f k a l) (validC a l) := by
  unfold selfstabref41_Valid.f
  have hf : ¬ ValidC a l → Ev (fun k => selfstabref41_Valid.j0 k true a l) (validC a l) := fun h => by
    rw [validC_false h]
    refine Ev.step (fun k => by rw [selfstabref41_Valid.j0]) ?_
    simp only [if_true]
    exact Ev.now _
  simp only [in_eq41, Option.bind_some]
  by_cases h1 : 1 ≤ a ∧ a ≤ 8
  · simp only [decide_eq_true h1, if_true]
    by_cases h3 : (l.length : Int) > a
    · simp only [decide_eq_true h3]
      exact hf fun h => by have := h.2.2.1; omega
    · simp only [decide_eq_false h3]
      obtain ⟨b, hb, hiff⟩ := rv_l0 a l (by unfold Big; omega) _ 0 (Nat.zero_add _)
      have e : b = validC a l := by
        rw [Bool.eq_iff_iff, hiff, validC_iff, List.drop_zero]
        exact ⟨fun h => ⟨by omega, by omega, by omega, h⟩, fun h => h.2.2.2⟩
      rw [← e]
      refine Ev.step (fun k => by rw [selfstabref41_Valid.j0]) ?_
      simp only [Bool.false_eq_true, if_false]
      exact hb
  · simp only [decide_eq_false h1, Bool.false_eq_true, if_false]
    exact hf fun h => h1 ⟨h.1, h.2.1⟩
theorem rsend_ev (a : Int) (l : List (List Int)) (x : List Int) : Ev (fun k => selfstabref41_Send.f k a l x) (sendM a l x) := by
  unfold selfstabref41_Send.f sendM
  refine Ev.bind (rvalid_ev a l) ?_
  by_cases V : ValidC a l
  · simp only [validC_iff.2 V, if_true, if_pos V]
    by_cases h1 : (l.length : Int) = a
    · simp only [if_pos h1, if_pos (Or.inl h1 : (l.length : Int) = a ∨ x.length > 6)]
      exact Ev.now _
    · by_cases h2 : (x.length : Int) > 6
      · simp only [if_neg h1, if_pos h2, if_pos (Or.inr (by omega) : (l.length : Int) = a ∨ x.length > 6)]
        exact Ev.now _
      · have h8 : l.length ≤ 8 := by have := V.2.1; have := V.2.2.1; omega
        simp only [if_neg h1, if_neg h2, if_neg (show ¬ ((l.length : Int) = a ∨ x.length > 6) by omega), Option.bind_some, List.length_nil, Nat.zero_add, List.nil_append, List.length_singleton, if_pos (show l.length < 5864062014805 by omega), if_pos (show l.length + 1 < 5864062014805 by omega)]
        exact Ev.now _
  · simp only [validC_false V, Bool.false_eq_true, if_false, if_neg V]
    exact Ev.now _
theorem rlose_ev (a : Int) (l : List (List Int)) (i : Int) : Ev (fun k => selfstabref41_Lose.f k a l i) (loseM a l i) := by
  unfold selfstabref41_Lose.f loseM
  refine Ev.bind (rvalid_ev a l) ?_
  by_cases V : ValidC a l
  · have h8 : l.length ≤ 8 := by have := V.2.1; have := V.2.2.1; omega
    simp only [validC_iff.2 V, if_true, if_pos V]
    rw [wrap_id ((l.length : Int) - 1) (by omega) (by omega)]
    simp only [in_eq41, Option.bind_some]
    by_cases h : 0 ≤ i ∧ i < (l.length : Int)
    · rw [wrap_id (i + 1) (by omega) (by omega)]
      have e : (i + 1).toNat = i.toNat + 1 := by omega
      have h1 : (l.take i.toNat).length ≤ 8 := by rw [List.length_take]; omega
      have h2 : (l.drop (i.toNat + 1)).length ≤ 8 := by rw [List.length_drop]; omega
      simp only [decide_eq_true (show 0 ≤ i ∧ i ≤ (l.length : Int) - 1 by omega), if_true, if_pos h, if_pos (show 0 ≤ i by omega), if_pos (show i ≤ (l.length : Int) by omega), if_pos (show 0 ≤ i + 1 by omega), if_pos (show i + 1 ≤ (l.length : Int) by omega), List.length_nil, Nat.zero_add, List.nil_append, e, if_pos (show (l.take i.toNat).length < 5864062014805 by omega), if_pos (show (l.take i.toNat).length + (l.drop (i.toNat + 1)).length < 5864062014805 by omega)]
      rw [List.eraseIdx_eq_take_drop_succ]
      exact Ev.now _
    · simp only [decide_eq_false (show ¬ (0 ≤ i ∧ i ≤ (l.length : Int) - 1) by omega), Bool.false_eq_true, if_false, if_neg h]
      exact Ev.now _
  · simp only [validC_false V, Bool.false_eq_true, if_false, if_neg V]
    exact Ev.now _
theorem rrecv_ev (a : Int) (l : List (List Int)) : Ev (fun k => selfstabref41_Receive.f k a l) (recvM a l) := by
  unfold selfstabref41_Receive.f
  refine Ev.bind (rvalid_ev a l) ?_
  by_cases V : ValidC a l
  · simp only [validC_iff.2 V, if_true]
    cases l with
    | nil =>
      simp only [List.length_nil, show (((0 : Nat) : Int) = 0) = True by simp, if_true]
      refine Ev_cast (Ev.now _) ?_
      unfold recvM
      rw [if_pos V]
    | cons x r =>
      simp only [if_neg (show ¬ ((x :: r).length : Int) = 0 by rw [List.length_cons]; omega)]
      refine Ev.bind (rlose_ev a (x :: r) 0) ?_
      have e : rd_L1 (x :: r) 0 = x := rfl
      simp only [if_pos (show (0 : Int) < ((x :: r).length : Int) by rw [List.length_cons]; omega), e]
      refine Ev_cast (Ev.now _) ?_
      unfold loseM recvM
      rw [if_pos V, if_pos V, if_pos (show (0 : Int) ≤ 0 ∧ (0 : Int) < ((x :: r).length : Int) by rw [List.length_cons]; omega)]
      rfl
  · simp only [validC_false V, Bool.false_eq_true, if_false]
    refine Ev_cast (Ev.now _) ?_
    unfold recvM
    rw [if_neg V]
theorem rsame_ev (a : Int) (l : List (List Int)) (hl : l.length < Big) (hx : ∀ x ∈ l, x.length < Big) : Ev (fun k => selfstabref41_Same.f k a l a l) true := by
  unfold selfstabref41_Same.f
  simp only [if_true]
  refine Ev.bind (items_ev l hl hx) ?_
  exact Ev.now _
theorem big8 {a : Int} {l : List (List Int)} (V : ValidC a l) : l.length < Big ∧ ∀ x ∈ l, x.length < Big := by
  have h1 := V.2.1
  have h2 := V.2.2.1
  exact ⟨by unfold Big; omega, fun x hx => by have := V.2.2.2 x hx; unfold Big; omega⟩
theorem rplay_l0 (a : Int) (ops : List S38) (ho : ops.length < Big) : ∀ (d i : Nat) (l got : List (List Int)) (n : Nat), i + d = ops.length → ValidC a l → got.length ≤ i → n ≤ i →
    Ev (fun k => selfstabref41_Play.l0 k ops got (n : Int) (i : Int) a l) (playM a l got n (ops.drop i)) := by
  unfold Big at ho
  intro d
  induction d with
  | zero =>
    intro i l got n hi V hg hn
    refine Ev.step (fun k => by rw [selfstabref41_Play.l0]) ?_
    simp only [if_neg (show ¬ (i : Int) < (ops.length : Int) by omega)]
    rw [List.drop_of_length_le (by omega)]
    exact Ev.now _
  | succ d ih =>
    intro i l got n hi V hg hn
    have hget : rd_T38 ops (i : Int) = ops[i] := by simp [rd_T38, List.getD_eq_getElem?_getD, List.getElem?_eq_getElem (show i < ops.length by omega)]
    refine Ev.step (fun k => by rw [selfstabref41_Play.l0]) ?_
    rw [List.drop_eq_getElem_cons (show i < ops.length by omega)]
    simp only [if_pos (show (i : Int) < (ops.length : Int) by omega), if_pos (show 0 ≤ (i : Int) by omega), hget, wrap_nat i (by omega), wrap_nat n (by omega)]
    generalize ops[i] = o
    unfold playM
    by_cases h1 : o.f0 = 1
    · simp only [if_pos h1]
      refine Ev.bind (rsend_ev a l o.f2) ?_
      unfold sendM
      rw [if_pos V]
      by_cases h : (l.length : Int) = a ∨ o.f2.length > 6
      · simp only [if_pos h, Bool.false_eq_true, if_false]
        exact ih (i + 1) l got (n + 1) (by omega) V (by omega) (by omega)
      · simp only [if_neg h, if_true]
        exact ih (i + 1) _ got n (by omega) (V.push h) (by omega) (by omega)
    · by_cases h2 : o.f0 = 2
      · simp only [if_neg h1, if_pos h2]
        refine Ev.bind (rrecv_ev a l) ?_
        unfold recvM
        rw [if_pos V]
        cases l with
        | nil =>
          simp only [Bool.false_eq_true, if_false]
          exact ih (i + 1) [] got n (by omega) V (by omega) (by omega)
        | cons x t =>
          simp only [if_true, if_pos (show got.length < 5864062014805 by omega)]
          exact ih (i + 1) t _ n (by omega) V.drop1 (by rw [List.length_append, List.length_singleton]; omega) (by omega)
      · by_cases h3 : o.f0 = 3
        · simp only [if_neg h1, if_neg h2, if_pos h3]
          refine Ev.bind (rlose_ev a l o.f1) ?_
          unfold loseM
          rw [if_pos V]
          by_cases h : 0 ≤ o.f1 ∧ o.f1 < (l.length : Int)
          · simp only [if_pos h, if_true]
            exact ih (i + 1) _ got (n + 1) (by omega) (V.erase _) (by omega) (by omega)
          · simp only [if_neg h, Bool.false_eq_true, if_false]
            exact ih (i + 1) l got n (by omega) V (by omega) (by omega)
        · simp only [if_neg h1, if_neg h2, if_neg h3]
          exact ih (i + 1) l got n (by omega) V (by omega) (by omega)
theorem rplay_ev {a : Int} {l : List (List Int)} (V : ValidC a l) (ops : List S38) (ho : ops.length < Big) : Ev (fun k => selfstabref41_Play.f k a l ops) (playM a l [] 0 ops) := by
  unfold selfstabref41_Play.f
  refine Ev.bind (rvalid_ev a l) ?_
  simp only [validC_iff.2 V, if_true]
  exact rplay_l0 a ops ho _ 0 l [] 0 (Nat.zero_add _) V (Nat.le_refl _) (Nat.le_refl _)
theorem rplay_none {a : Int} {l : List (List Int)} (V : ¬ ValidC a l) (ops : List S38) : Ev (fun k => selfstabref41_Play.f k a l ops) (0, [], [], 0) := by
  unfold selfstabref41_Play.f
  refine Ev.bind (rvalid_ev a l) ?_
  simp only [validC_false V, Bool.false_eq_true, if_false]
  exact Ev.now _
theorem playM_big (a : Int) : ∀ (ops : List S38) (l got : List (List Int)) (n m : Nat), ValidC a l → (∀ x ∈ got, x.length ≤ 6) → got.length ≤ m →
    ValidC a (playM a l got n ops).2.1 ∧ (∀ x ∈ (playM a l got n ops).2.2.1, x.length ≤ 6) ∧ (playM a l got n ops).2.2.1.length ≤ m + ops.length
  | [], l, got, n, m, V, h6, hm => ⟨V, h6, hm⟩
  | o :: r, l, got, n, m, V, h6, hm => by
    have hw : ∀ {p : Int × List (List Int) × List (List Int) × Int}, (ValidC a p.2.1 ∧ (∀ x ∈ p.2.2.1, x.length ≤ 6) ∧ p.2.2.1.length ≤ m + r.length) → ValidC a p.2.1 ∧ (∀ x ∈ p.2.2.1, x.length ≤ 6) ∧ p.2.2.1.length ≤ m + (o :: r).length := fun h => ⟨h.1, h.2.1, by rw [List.length_cons]; have := h.2.2; omega⟩
    unfold playM
    by_cases h1 : o.f0 = 1
    · rw [if_pos h1]
      by_cases h : (l.length : Int) = a ∨ o.f2.length > 6
      · rw [if_pos h]; exact hw (playM_big a r l got (n + 1) m V h6 hm)
      · rw [if_neg h]; exact hw (playM_big a r _ got n m (V.push h) h6 hm)
    · rw [if_neg h1]
      by_cases h2 : o.f0 = 2
      · rw [if_pos h2]
        cases l with
        | nil => exact hw (playM_big a r [] got n m V h6 hm)
        | cons x t =>
          have := playM_big a r t (got ++ [x]) n (m + 1) V.drop1 (fun y hy => by
            rcases List.mem_append.1 hy with hy | hy
            · exact h6 y hy
            · rw [List.mem_singleton.1 hy]; exact V.2.2.2 x List.mem_cons_self) (by rw [List.length_append, List.length_singleton]; omega)
          exact ⟨this.1, this.2.1, by rw [List.length_cons]; have := this.2.2; dsimp only; omega⟩
      · rw [if_neg h2]
        by_cases h3 : o.f0 = 3
        · rw [if_pos h3]
          by_cases h : 0 ≤ o.f1 ∧ o.f1 < (l.length : Int)
          · rw [if_pos h]; exact hw (playM_big a r _ got (n + 1) m (V.erase _) h6 hm)
          · rw [if_neg h]; exact hw (playM_big a r l got n m V h6 hm)
        · rw [if_neg h3]; exact hw (playM_big a r l got n m V h6 hm)
theorem plays_end (a : Int) (l : List (List Int)) (ops : List S38) (ho : ops.length ≤ 200) :
    Ev (fun k => (channel_Play.f k a l ops).bind fun bt344 => ((selfstabref41_Play.f k a l ops).bind fun bt353 => ((selfstablaw41_known.f k).bind fun t362 => (if t362 = true then ((selfstabref41_Same.f k bt344.1 bt344.2.1 bt353.1 bt353.2.1).bind fun t363 => (if t363 = true then ((selfstabref41_SameItems.f k bt344.2.2.1 bt353.2.2.1).bind fun t364 => (if t364 = true then (some (bt344.2.2.2 == bt353.2.2.2)) else (none))) else (none))) else (none))))) true := by
  have hB : (Big : Nat) = 1000000000000 := rfl
  by_cases V : ValidC a l
  · refine Ev.bind (play_ev V ops (by omega)) ?_
    refine Ev.bind (rplay_ev V ops (by omega)) ?_
    refine Ev.bind known_ev ?_
    obtain ⟨b1, b2, b3⟩ := playM_big a ops l [] 0 0 V nofun (Nat.le_refl _)
    simp only [if_true]
    have b4 := big8 b1
    have e : (playM a l [] 0 ops).1 = (playM a l [] 0 ops).1 := rfl
    refine Ev.bind (rsame_ev _ _ b4.1 b4.2) ?_
    simp only [if_true]
    refine Ev.bind (items_ev _ (by omega) (fun x hx => by have := b2 x hx; omega)) ?_
    simp only [if_true, beq_self_eq_true]
    exact Ev.now _
  · refine Ev.bind (play_none V ops) ?_
    refine Ev.bind (rplay_none V ops) ?_
    refine Ev.bind known_ev ?_
    simp only [if_true]
    refine Ev.bind (rsame_ev _ _ (by decide) nofun) ?_
    simp only [if_true]
    refine Ev.bind (items_ev _ (by decide) nofun) ?_
    exact Ev.now _
theorem plays_l0 (a : Int) (l : List (List Int)) (ops : List S38) (ho : ops.length ≤ 200) : ∀ d i : Nat, i + d = ops.length → Ev (fun k => selfstablaw41_ChannelPlays.l0 k ops (i : Int) a l) true
  | 0, i, hi => by
    refine Ev.step (fun k => by rw [selfstablaw41_ChannelPlays.l0]) ?_
    simp only [if_neg (show ¬ (i : Int) < (ops.length : Int) by omega)]
    exact plays_end a l ops ho
  | d + 1, i, hi => by
    refine Ev.step (fun k => by rw [selfstablaw41_ChannelPlays.l0]) ?_
    simp only [if_pos (show (i : Int) < (ops.length : Int) by omega), if_pos (show 0 ≤ (i : Int) by omega), wrap_nat i (by omega)]
    by_cases h : ((rd_T38 ops (i : Int)).f2.length : Int) > 100
    · simp only [if_pos h]
      refine Ev.bind known_ev ?_
      exact Ev.now _
    · simp only [if_neg h]
      exact plays_l0 a l ops ho d (i + 1) (by omega)
theorem Pure_ChannelPlays : selfstablaw41_ChannelPlays.Pure := by
  intro c ops hc _
  have hcl := hc.2.1
  refine Ev.rounds ?_
  unfold selfstablaw41_ChannelPlays.f
  obtain ⟨b, hb, _⟩ := large_ev c.f0 c.f1 hcl
  refine Ev.bind hb ?_
  have ht : Ev (fun k => selfstablaw41_ChannelPlays.j0 k ops true c.f0 c.f1) true := by
    refine Ev.step (fun k => by rw [selfstablaw41_ChannelPlays.j0]) ?_
    simp only [if_true]
    refine Ev.bind known_ev ?_
    exact Ev.now _
  cases b with
  | true => simp only [if_true]; exact ht
  | false =>
    simp only [Bool.false_eq_true, if_false]
    by_cases h : (ops.length : Int) > 200
    · simp only [decide_eq_true h]; exact ht
    · simp only [decide_eq_false h]
      refine Ev.step (fun k => by rw [selfstablaw41_ChannelPlays.j0]) ?_
      simp only [Bool.false_eq_true, if_false]
      exact plays_l0 c.f0 c.f1 ops (by omega) _ 0 (Nat.zero_add _)
end Go.Proofs.Ytcpkbgfemohlmaa.P
