/- The channel: Valid, Send, Receive, Lose of the program and of the reference, and Play, in plain lists. -/
import Derived.Test.YtcpkbgfemohlmaaMEv
import Derived.Test.YtcpkbgfemohlmaaGLose
import Derived.Test.YtcpkbgfemohlmaaP2
import Derived.Test.YtcpkbgfemohlmaaP2
import Derived.Test.YtcpkbgfemohlmaaP3
import Derived.Test.YtcpkbgfemohlmaaP4
import Derived.Test.YtcpkbgfemohlmaaP3
namespace Go.Proofs.Ytcpkbgfemohlmaa.P
open Go.RowKit Go.Proofs.YtcpkbgfemohlmaaW.PrintWords Go.Proofs.YtcpkbgfemohlmaaW.PrintMore
set_option linter.unusedVariables false
/-- A channel as it should be. -/
def ValidC (a : Int) (l : List (List Int)) : Prop := 1 ≤ a ∧ a ≤ 8 ∧ (l.length : Int) ≤ a ∧ ∀ x ∈ l, x.length ≤ 6
instance (a : Int) (l : List (List Int)) : Decidable (ValidC a l) := by unfold ValidC; infer_instance
def validC (a : Int) (l : List (List Int)) : Bool := decide (ValidC a l)
theorem validC_iff {a : Int} {l : List (List Int)} : validC a l = true ↔ ValidC a l := by unfold validC; exact decide_eq_true_iff
theorem validC_false {a : Int} {l : List (List Int)} (h : ¬ ValidC a l) : validC a l = false := decide_eq_false h
theorem cv_l0 (l : List (List Int)) (hl : l.length < Big) : ∀ d i : Nat, i + d = l.length → ∃ b, Ev (fun k => channel_Valid.l0 k l (l.length : Int) (i : Int)) b ∧ (b = true ↔ ∀ x ∈ l.drop i, x.length ≤ 6) := by
  unfold Big at hl
  intro d
  induction d with
  | zero =>
    intro i hi
    refine ⟨true, Ev.step (fun k => by rw [channel_Valid.l0]) ?_, by rw [List.drop_of_length_le (by omega)]; simp⟩
    simp only [if_neg (show ¬ (i : Int) < (l.length : Int) by omega)]
    exact Ev.now _
  | succ d ih =>
    intro i hi
    have hm := rdL_get l i (by omega)
    have hdr : l.drop i = l[i] :: l.drop (i + 1) := List.drop_eq_getElem_cons (by omega)
    by_cases h : ((rd_L1 l (i : Int)).length : Int) > 6
    · refine ⟨false, Ev.step (fun k => by rw [channel_Valid.l0]) ?_, ⟨nofun, fun hh => ?_⟩⟩
      · simp only [if_pos (show (i : Int) < (l.length : Int) by omega), if_pos (show 0 ≤ (i : Int) by omega), if_pos h]
        exact Ev.now _
      · have := hh l[i] (by rw [hdr]; exact List.mem_cons_self)
        rw [hm] at h
        omega
    · obtain ⟨b, hb, hiff⟩ := ih (i + 1) (by omega)
      refine ⟨b, Ev.step (fun k => by rw [channel_Valid.l0]) ?_, ?_⟩
      · simp only [if_pos (show (i : Int) < (l.length : Int) by omega), if_pos (show 0 ≤ (i : Int) by omega), if_neg h, wrap_nat i (by omega)]
        exact hb
      · rw [hiff, hdr]
        constructor
        · intro hh x hx
          rcases List.mem_cons.1 hx with rfl | hx
          · rw [hm] at h; omega
          · exact hh x hx
        · exact fun hh x hx => hh x (List.mem_cons_of_mem _ hx)
theorem valid_ev (a : Int) (l : List (List Int)) : Ev (fun k => channel_Valid.f k a l) (validC a l) := by
  unfold channel_Valid.f
  have hf : ¬ ValidC a l → Ev (fun k => channel_Valid.j0 k true a l) (validC a l) := fun h => by
    rw [validC_false h]
    refine Ev.step (fun k => by rw [channel_Valid.j0]) ?_
    simp only [if_true]
    exact Ev.now _
  by_cases h1 : a < 1
  · simp only [if_pos h1]
    exact hf fun h => by have := h.1; omega
  · by_cases h2 : a > 8
    · simp only [if_neg h1, if_pos h2]
      exact hf fun h => by have := h.2.1; omega
    · simp only [if_neg h1, if_neg h2]
      by_cases h3 : (l.length : Int) > a
      · simp only [decide_eq_true h3]
        exact hf fun h => by have := h.2.2.1; omega
      · simp only [decide_eq_false h3]
        obtain ⟨b, hb, hiff⟩ := cv_l0 l (by unfold Big; omega) _ 0 (Nat.zero_add _)
        have e : b = validC a l := by
          rw [Bool.eq_iff_iff, hiff, validC_iff, List.drop_zero]
          exact ⟨fun h => ⟨by omega, by omega, by omega, h⟩, fun h => h.2.2.2⟩
        rw [← e]
        refine Ev.step (fun k => by rw [channel_Valid.j0]) ?_
        simp only [Bool.false_eq_true, if_false]
        exact hb
/-! ### copied -/
theorem cp_l0 (a : Int) (l : List (List Int)) (h8 : l.length ≤ 8) (h6 : ∀ x ∈ l, x.length ≤ 6) : ∀ d i : Nat, i + d = l.length → Ev (fun k => channel_copied.l0 k l (l.length : Int) (i : Int) a (l.take i)) (a, l) := by
  intro d
  induction d with
  | zero =>
    intro i hi
    refine Ev.step (fun k => by rw [channel_copied.l0]) ?_
    simp only [if_neg (show ¬ (i : Int) < (l.length : Int) by omega)]
    rw [List.take_of_length_le (by omega)]
    exact Ev.now _
  | succ d ih =>
    intro i hi
    have hm := rdL_get l i (by omega)
    have hx := h6 _ (rdL_mem l i (by omega))
    refine Ev.step (fun k => by rw [channel_copied.l0]) ?_
    have ht : (l.take i).length < 5864062014805 := by rw [List.length_take]; omega
    simp only [if_pos (show (i : Int) < (l.length : Int) by omega), if_pos (show 0 ≤ (i : Int) by omega), if_pos (show 0 ≤ ((rd_L1 l (i : Int)).length : Int) by omega), if_pos (show ((rd_L1 l (i : Int)).length : Int).toNat ≤ 35184372088832 by omega), if_pos ht, wrap_nat i (by omega)]
    have e : l.take i ++ [rd_L1 l (i : Int)] = l.take (i + 1) := by rw [hm, List.take_succ_eq_append_getElem (by omega)]
    rw [e]
    exact ih (i + 1) (by omega)
theorem copied_ev {a : Int} {l : List (List Int)} (V : ValidC a l) : Ev (fun k => channel_copied.f k a l) (a, l) := by
  unfold channel_copied.f
  exact cp_l0 a l (by have := V.2.1; have := V.2.2.1; omega) V.2.2.2 _ 0 (Nat.zero_add _)
/-! ### Send, Lose, Receive -/
def sendM (a : Int) (l : List (List Int)) (x : List Int) : Int × List (List Int) × Bool :=
  if ValidC a l then (if (l.length : Int) = a ∨ x.length > 6 then (a, l, false) else (a, l ++ [x], true)) else (0, [], false)
def loseM (a : Int) (l : List (List Int)) (i : Int) : Int × List (List Int) × Bool :=
  if ValidC a l then (if 0 ≤ i ∧ i < l.length then (a, l.eraseIdx i.toNat, true) else (a, l, false)) else (0, [], false)
def recvM (a : Int) (l : List (List Int)) : Int × List (List Int) × List Int × Bool :=
  if ValidC a l then (match l with | [] => (a, [], [], false) | x :: r => (a, r, x, true)) else (0, [], [], false)
theorem send_ev (a : Int) (l : List (List Int)) (x : List Int) : Ev (fun k => channel_Send.f k a l x) (sendM a l x) := by
  unfold channel_Send.f sendM
  refine Ev.bind (valid_ev a l) ?_
  by_cases V : ValidC a l
  · simp only [validC_iff.2 V, if_true, if_pos V]
    refine Ev.bind (copied_ev V) ?_
    by_cases h1 : (l.length : Int) = a
    · simp only [if_pos h1, if_pos (Or.inl h1 : (l.length : Int) = a ∨ x.length > 6)]
      exact Ev.now _
    · by_cases h2 : (x.length : Int) > 6
      · simp only [if_neg h1, if_pos h2, if_pos (Or.inr (by omega) : (l.length : Int) = a ∨ x.length > 6)]
        exact Ev.now _
      · have h8 : l.length ≤ 8 := by have := V.2.1; have := V.2.2.1; omega
        simp only [if_neg h1, if_neg h2, if_neg (show ¬ ((l.length : Int) = a ∨ x.length > 6) by omega), slices_Clone_int_int.f, if_pos (show x.length ≤ 17592186044416 by omega), Option.bind_some, if_pos (show l.length < 5864062014805 by omega)]
        exact Ev.now _
  · simp only [validC_false V, Bool.false_eq_true, if_false, if_neg V]
    exact Ev.now _
theorem lose_ev (a : Int) (l : List (List Int)) (i : Int) : Ev (fun k => channel_Lose.f k a l i) (loseM a l i) := by
  unfold channel_Lose.f loseM
  refine Ev.bind (valid_ev a l) ?_
  by_cases V : ValidC a l
  · simp only [validC_iff.2 V, if_true, if_pos V]
    refine Ev.bind (copied_ev V) ?_
    have h8 : l.length ≤ 8 := by have := V.2.1; have := V.2.2.1; omega
    by_cases h1 : i < 0
    · simp only [if_pos h1, if_neg (show ¬ (0 ≤ i ∧ i < (l.length : Int)) by omega)]
      exact Ev.now _
    · by_cases h2 : i ≥ (l.length : Int)
      · simp only [if_neg h1, if_pos h2, if_neg (show ¬ (0 ≤ i ∧ i < (l.length : Int)) by omega)]
        exact Ev.now _
      · rw [wrap_id (i + 1) (by omega) (by omega)]
        simp only [if_neg h1, if_neg h2, if_pos (show 0 ≤ i by omega), if_pos (show i ≤ (l.length : Int) by omega), if_pos (show 0 ≤ i + 1 by omega), if_pos (show i + 1 ≤ (l.length : Int) by omega), if_pos (show 0 ≤ i ∧ i < (l.length : Int) by omega)]
        exact Ev.now _
  · simp only [validC_false V, Bool.false_eq_true, if_false, if_neg V]
    exact Ev.now _
theorem recv_ev (a : Int) (l : List (List Int)) : Ev (fun k => channel_Receive.f k a l) (recvM a l) := by
  unfold channel_Receive.f
  refine Ev.bind (valid_ev a l) ?_
  by_cases V : ValidC a l
  · have h8 : l.length ≤ 8 := by have := V.2.1; have := V.2.2.1; omega
    simp only [validC_iff.2 V, if_true]
    cases l with
    | nil =>
      simp only [List.length_nil]
      refine Ev.step (fun k => by rw [channel_Receive.j0]) ?_
      simp only [show (((0 : Nat) : Int) == 0) = true from rfl, if_true]
      refine Ev.bind (lose_ev a [] 0) ?_
      refine Ev_cast (Ev.now _) ?_
      unfold loseM recvM
      rw [if_pos V, if_pos V]
      rfl
    | cons x r =>
      have hx : x.length ≤ 6 := V.2.2.2 x (by simp)
      refine Ev.step (fun k => by rw [channel_Receive.j0]) ?_
      simp only [beq_eq_false_iff_ne.2 (show ¬ ((x :: r).length : Int) = 0 by rw [List.length_cons]; omega), Bool.false_eq_true, if_false]
      refine Ev.bind (lose_ev a (x :: r) 0) ?_
      have e : rd_L1 (x :: r) 0 = x := rfl
      simp only [if_pos (show (0 : Int) < ((x :: r).length : Int) by rw [List.length_cons]; omega), e, slices_Clone_int_int.f, if_pos (show x.length ≤ 17592186044416 by omega), Option.bind_some]
      refine Ev_cast (Ev.now _) ?_
      unfold loseM recvM
      rw [if_pos V, if_pos V, if_pos (show (0 : Int) ≤ 0 ∧ (0 : Int) < ((x :: r).length : Int) by rw [List.length_cons]; omega)]
      rfl
  · simp only [validC_false V, Bool.false_eq_true, if_false]
    refine Ev.step (fun k => by rw [channel_Receive.j0]) ?_
    simp only [if_true]
    refine Ev.bind (lose_ev a l 0) ?_
    refine Ev_cast (Ev.now _) ?_
    unfold loseM recvM
    rw [if_neg V, if_neg V]
/-! ### Play -/
def playM (a : Int) : List (List Int) → List (List Int) → Nat → List S38 → Int × List (List Int) × List (List Int) × Int
  | l, got, n, [] => (a, l, got, (n : Int))
  | l, got, n, o :: r =>
    if o.f0 = 1 then (if (l.length : Int) = a ∨ o.f2.length > 6 then playM a l got (n + 1) r else playM a (l ++ [o.f2]) got n r)
    else if o.f0 = 2 then (match l with | [] => playM a [] got n r | x :: t => playM a t (got ++ [x]) n r)
    else if o.f0 = 3 then (if 0 ≤ o.f1 ∧ o.f1 < l.length then playM a (l.eraseIdx o.f1.toNat) got (n + 1) r else playM a l got n r)
    else playM a l got n r
theorem ValidC.push {a : Int} {l : List (List Int)} {x : List Int} (V : ValidC a l) (h : ¬ ((l.length : Int) = a ∨ x.length > 6)) : ValidC a (l ++ [x]) := by
  refine ⟨V.1, V.2.1, ?_, fun y hy => ?_⟩
  · have := V.2.2.1; rw [List.length_append, List.length_singleton]; omega
  · rcases List.mem_append.1 hy with hy | hy
    · exact V.2.2.2 y hy
    · rw [List.mem_singleton.1 hy]; omega
theorem ValidC.drop1 {a : Int} {x : List Int} {l : List (List Int)} (V : ValidC a (x :: l)) : ValidC a l :=
  ⟨V.1, V.2.1, by have := V.2.2.1; rw [List.length_cons] at this; omega, fun y hy => V.2.2.2 y (List.mem_cons_of_mem _ hy)⟩
theorem ValidC.erase {a : Int} {l : List (List Int)} (V : ValidC a l) (i : Nat) : ValidC a (l.eraseIdx i) :=
  ⟨V.1, V.2.1, by have := V.2.2.1; have := List.length_eraseIdx_le l i; omega, fun y hy => V.2.2.2 y (List.mem_of_mem_eraseIdx hy)⟩
theorem play_l0 (a : Int) (ops : List S38) (ho : ops.length < Big) : ∀ (d i : Nat) (l got : List (List Int)) (n : Nat), i + d = ops.length → ValidC a l → got.length ≤ i → n ≤ i →
    Ev (fun k => channel_Play.l0 k got (n : Int) ops (ops.length : Int) (i : Int) a l) (playM a l got n (ops.drop i)) := by
  unfold Big at ho
  intro d
  induction d with
  | zero =>
    intro i l got n hi V hg hn
    refine Ev.step (fun k => by rw [channel_Play.l0]) ?_
    simp only [if_neg (show ¬ (i : Int) < (ops.length : Int) by omega)]
    rw [List.drop_of_length_le (by omega)]
    exact Ev.now _
  | succ d ih =>
    intro i l got n hi V hg hn
    have hget : rd_T38 ops (i : Int) = ops[i] := by simp [rd_T38, List.getD_eq_getElem?_getD, List.getElem?_eq_getElem (show i < ops.length by omega)]
    refine Ev.step (fun k => by rw [channel_Play.l0]) ?_
    rw [List.drop_eq_getElem_cons (show i < ops.length by omega)]
    simp only [if_pos (show (i : Int) < (ops.length : Int) by omega), if_pos (show 0 ≤ (i : Int) by omega), hget, wrap_nat i (by omega), wrap_nat n (by omega)]
    generalize ops[i] = o
    unfold playM
    by_cases h1 : o.f0 = 1
    · simp only [if_pos h1]
      refine Ev.bind (send_ev a l o.f2) ?_
      unfold sendM
      rw [if_pos V]
      by_cases h : (l.length : Int) = a ∨ o.f2.length > 6
      · simp only [if_pos h, Bool.false_eq_true, if_false]
        exact ih (i + 1) l got (n + 1) (by omega) V (by omega) (by omega)
      · simp only [if_neg h, if_true]
        exact ih (i + 1) _ got n (by omega) (V.push h) (by omega) (by omega)
    · by_cases h2 : o.f0 = 2
      · simp only [if_neg h1, if_pos h2]
        refine Ev.bind (recv_ev a l) ?_
        unfold recvM
        rw [if_pos V]
        cases l with
        | nil =>
          simp only [Bool.false_eq_true, if_false]
          exact ih (i + 1) [] got n (by omega) V (by omega) (by omega)
        | cons x t =>
          simp only [if_true, if_pos (show got.length < 5864062014805 by omega)]
          exact ih (i + 1) t _ n (by omega) V.drop1 (by rw [List.length_append, List.length_singleton]; omega) (by omega)
      · by_cases h3 : o.f0 = 3
        · simp only [if_neg h1, if_neg h2, if_pos h3]
          refine Ev.bind (lose_ev a l o.f1) ?_
          unfold loseM
          rw [if_pos V]
          by_cases h : 0 ≤ o.f1 ∧ o.f1 < (l.length : Int)
          · simp only [if_pos h, if_true]
            exact ih (i + 1) _ got (n + 1) (by omega) (V.erase _) (by omega) (by omega)
          · simp only [if_neg h, Bool.false_eq_true, if_false]
            exact ih (i + 1) l got n (by omega) V (by omega) (by omega)
        · simp only [if_neg h1, if_neg h2, if_neg h3]
          exact ih (i + 1) l got n (by omega) V (by omega) (by omega)
theorem play_ev {a : Int} {l : List (List Int)} (V : ValidC a l) (ops : List S38) (ho : ops.length < Big) : Ev (fun k => channel_Play.f k a l ops) (playM a l [] 0 ops) := by
  unfold channel_Play.f
  refine Ev.bind (valid_ev a l) ?_
  simp only [validC_iff.2 V, if_true]
  refine Ev.bind (copied_ev V) ?_
  exact play_l0 a ops ho _ 0 l [] 0 (Nat.zero_add _) V (Nat.le_refl _) (Nat.le_refl _)
theorem play_none {a : Int} {l : List (List Int)} (V : ¬ ValidC a l) (ops : List S38) : Ev (fun k => channel_Play.f k a l ops) (0, [], [], 0) := by
  unfold channel_Play.f
  refine Ev.bind (valid_ev a l) ?_
  simp only [validC_false V, Bool.false_eq_true, if_false]
  exact Ev.now _
/-! ### SameInts, SameItems, Same -/
theorem same_l0 (l : List Int) (hl : l.length < Big) : ∀ d i : Nat, i + d = l.length → Ev (fun k => selfstabref01_SameInts.l0 k l l (i : Int)) true := by
  unfold Big at hl
  intro d
  induction d with
  | zero =>
    intro i hi
    refine Ev.step (fun k => by rw [selfstabref01_SameInts.l0]) ?_
    simp only [if_neg (show ¬ (i : Int) < (l.length : Int) by omega)]
    exact Ev.now _
  | succ d ih =>
    intro i hi
    refine Ev.step (fun k => by rw [selfstabref01_SameInts.l0]) ?_
    simp only [if_pos (show (i : Int) < (l.length : Int) by omega), if_pos (show 0 ≤ (i : Int) by omega), wrap_nat i (by omega), if_true]
    exact ih (i + 1) (by omega)
theorem same_ev (l : List Int) (hl : l.length < Big) : Ev (fun k => selfstabref01_SameInts.f k l l) true := by
  unfold selfstabref01_SameInts.f
  simp only [if_true]
  exact same_l0 l hl _ 0 (Nat.zero_add _)
theorem items_l0 (l : List (List Int)) (hl : l.length < Big) (hx : ∀ x ∈ l, x.length < Big) : ∀ d i : Nat, i + d = l.length → Ev (fun k => selfstabref41_SameItems.l0 k l l (i : Int)) true := by
  unfold Big at hl
  intro d
  induction d with
  | zero =>
    intro i hi
    refine Ev.step (fun k => by rw [selfstabref41_SameItems.l0]) ?_
    simp only [if_neg (show ¬ (i : Int) < (l.length : Int) by omega)]
    exact Ev.now _
  | succ d ih =>
    intro i hi
    refine Ev.step (fun k => by rw [selfstabref41_SameItems.l0]) ?_
    simp only [if_pos (show (i : Int) < (l.length : Int) by omega), if_pos (show 0 ≤ (i : Int) by omega), wrap_nat i (by omega)]
    refine Ev.bind (same_ev _ (hx _ (rdL_mem l i (by omega)))) ?_
    simp only [if_true]
    exact ih (i + 1) (by omega)
theorem items_ev (l : List (List Int)) (hl : l.length < Big) (hx : ∀ x ∈ l, x.length < Big) : Ev (fun k => selfstabref41_SameItems.f k l l) true := by
  unfold selfstabref41_SameItems.f
  simp only [if_true]
  exact items_l0 l hl hx _ 0 (Nat.zero_add _)
/-! ### known, large -/
theorem known_ev : Ev (fun k => selfstablaw41_known.f k) true := by
  unfold selfstablaw41_known.f
  refine Ev.bind (play_ev (by decide) _ (by decide)) ?_
  have e : playM 1 [] [] 0 [⟨1, 0, [1]⟩, ⟨1, 0, [2]⟩, ⟨2, 0, []⟩, ⟨2, 0, []⟩] = (1, [], [[1]], 1) := by decide
  rw [e]
  refine Ev.bind (valid_ev 1 []) ?_
  simp only [show validC 1 [] = true by decide, if_true, List.length_nil, show (((0 : Nat) : Int) = 0) = True by simp]
  refine Ev.bind (items_ev [[1]] (by decide) (by decide)) ?_
  simp only [if_true]
  exact Ev.now _
theorem large_l0 (a : Int) (l : List (List Int)) (hl : l.length ≤ maxLen) : ∀ d i : Nat, i + d = 30 → (∀ j : Nat, j < i → j < l.length → (rd_L1 l (j : Int)).length ≤ 100) → ∃ b, Ev (fun k => selfstablaw41_large.l0 k (i : Int) a l) b ∧ (b = false → l.length ≤ 30 ∧ ∀ x ∈ l, x.length ≤ 100) := by
  have hend : ∀ i : Nat, i ≤ 30 → (¬ (i < 30) ∨ ¬ (i < l.length)) → (∀ j : Nat, j < i → j < l.length → (rd_L1 l (j : Int)).length ≤ 100) → ∃ b, Ev (fun k => selfstablaw41_large.j1 k (i : Int) false a l) b ∧ (b = false → l.length ≤ 30 ∧ ∀ x ∈ l, x.length ≤ 100) := fun i h30 hi hj => by
    refine ⟨decide ((l.length : Int) > 30), Ev.step (fun k => by rw [selfstablaw41_large.j1]) ?_, fun h => ?_⟩
    · simp only [Bool.false_eq_true, if_false]
      exact Ev.now _
    · have h := of_decide_eq_false h
      refine ⟨by omega, fun x hx => ?_⟩
      obtain ⟨j, hjl, rfl⟩ := List.getElem_of_mem hx
      rw [← rdL_get l j hjl]
      exact hj j (by omega) hjl
  intro d
  induction d with
  | zero =>
    intro i hi hj
    obtain ⟨b, hb, h⟩ := hend i (by omega) (.inl (by omega)) hj
    refine ⟨b, Ev.step (fun k => by rw [selfstablaw41_large.l0]) ?_, h⟩
    simp only [decide_eq_false (show ¬ (i : Int) < 30 by omega), ite_self]
    exact hb
  | succ d ih =>
    intro i hi hj
    by_cases h1 : i < l.length
    · by_cases h2 : ((rd_L1 l (i : Int)).length : Int) > 100
      · refine ⟨true, Ev.step (fun k => by rw [selfstablaw41_large.l0]) ?_, nofun⟩
        simp only [if_pos (show (i : Int) < (l.length : Int) by omega), decide_eq_true (show (i : Int) < 30 by omega)]
        refine Ev.step (fun k => by rw [selfstablaw41_large.j1]) ?_
        simp only [if_true, if_pos (show 0 ≤ (i : Int) by omega), if_pos (show (i : Int) < (l.length : Int) by omega), if_pos h2]
        exact Ev.now _
      · obtain ⟨b, hb, h⟩ := ih (i + 1) (by omega) (fun j hj1 hj2 => by
          by_cases e : j = i
          · subst e; omega
          · exact hj j (by omega) hj2)
        refine ⟨b, Ev.step (fun k => by rw [selfstablaw41_large.l0]) ?_, h⟩
        simp only [if_pos (show (i : Int) < (l.length : Int) by omega), decide_eq_true (show (i : Int) < 30 by omega)]
        refine Ev.step (fun k => by rw [selfstablaw41_large.j1]) ?_
        simp only [if_true, if_pos (show 0 ≤ (i : Int) by omega), if_pos (show (i : Int) < (l.length : Int) by omega), if_neg h2, wrap_nat i (by omega)]
        exact hb
    · obtain ⟨b, hb, h⟩ := hend i (by omega) (.inr h1) hj
      refine ⟨b, Ev.step (fun k => by rw [selfstablaw41_large.l0]) ?_, h⟩
      simp only [if_neg (show ¬ (i : Int) < (l.length : Int) by omega)]
      exact hb
theorem large_ev (a : Int) (l : List (List Int)) (hl : l.length ≤ maxLen) : ∃ b, Ev (fun k => selfstablaw41_large.f k a l) b ∧ (b = false → l.length ≤ 30 ∧ ∀ x ∈ l, x.length ≤ 100) := by
  unfold selfstablaw41_large.f
  exact large_l0 a l hl 30 0 (by omega) (fun j h => absurd h (Nat.not_lt_zero _))
end Go.Proofs.Ytcpkbgfemohlmaa.P
