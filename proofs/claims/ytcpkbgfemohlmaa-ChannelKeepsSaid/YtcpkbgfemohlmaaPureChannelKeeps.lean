/- ChannelKeeps, the plain law. -/
import Derived.Test.YtcpkbgfemohlmaaSChannelKeeps
import Derived.Test.YtcpkbgfemohlmaaMChan
namespace Go.Proofs.Ytcpkbgfemohlmaa.P
open Go.RowKit Go.Proofs.YtcpkbgfemohlmaaW.PrintWords Go.Proofs.YtcpkbgfemohlmaaW.PrintMore
set_option linter.unusedVariables false
/-- A Put and a Get for each number. -/
def pairs41 (vs : List Int) : List S38 := vs.flatMap fun v => [⟨1, 0, [v]⟩, ⟨2, 0, []⟩]
theorem play_pairs (a : Int) : ∀ (vs : List Int) (l got : List (List Int)) (n : Nat), ValidC a l → (l.length : Int) ≠ a →
    ∃ l' got', playM a l got n (pairs41 vs) = (a, l', got', (n : Int)) ∧ got' ++ l' = (got ++ l) ++ vs.map (fun v => [v]) ∧ got'.length = got.length + vs.length ∧ ValidC a l'
  | [], l, got, n, V, _ => ⟨l, got, rfl, by simp, by simp, V⟩
  | v :: vs, l, got, n, V, hne => by
    have hc : ¬ ((l.length : Int) = a ∨ ([v] : List Int).length > 6) := by rw [List.length_singleton]; omega
    have e : pairs41 (v :: vs) = ⟨1, 0, [v]⟩ :: ⟨2, 0, []⟩ :: pairs41 vs := rfl
    rw [e]
    simp only [playM, if_true, if_neg hc, if_neg (show ¬ ((2 : Int) = 1) by omega)]
    have V2 := V.push hc
    cases hl : l ++ [[v]] with
    | nil => simp at hl
    | cons x t =>
      rw [hl] at V2
      have hlen := congrArg List.length hl
      rw [List.length_append, List.length_singleton, List.length_cons] at hlen
      obtain ⟨l', got', h1, h2, h3, h4⟩ := play_pairs a vs t (got ++ [x]) n V2.drop1 (by omega)
      refine ⟨l', got', h1, ?_, ?_, h4⟩
      · rw [h2, List.append_assoc got, List.singleton_append, ← hl, List.map_cons]
        simp
      · rw [h3, List.length_append, List.length_singleton, List.length_cons]; omega
theorem take_succ_rd41 (ids : List Int) (k : Nat) (h : k < ids.length) : ids.take (k + 1) = ids.take k ++ [rd ids (k : Int)] := by
  rw [List.take_succ_eq_append_getElem h]
  simp [rd, List.getD_eq_getElem?_getD, List.getElem?_eq_getElem h]
theorem ck_l0 (a : Int) (l : List (List Int)) (V : ValidC a l) (hne : (l.length : Int) ≠ a) (vs : List Int) (hv : vs.length ≤ 100) : ∀ d i : Nat, i + d = vs.length →
    Ev (fun k => selfstablaw41_ChannelKeeps.l0 k vs (pairs41 (vs.take i)) (l ++ (vs.take i).map (fun v => [v])) (i : Int) a l) true := by
  have h8 : l.length ≤ 8 := by have := V.2.1; have := V.2.2.1; omega
  have hpl : ∀ us : List Int, (pairs41 us).length = 2 * us.length := fun us => by
    unfold pairs41
    induction us with
    | nil => rfl
    | cons u us ih => rw [List.flatMap_cons, List.length_append, ih]; simp; omega
  intro d
  induction d with
  | zero =>
    intro i hi
    refine Ev.step (fun k => by rw [selfstablaw41_ChannelKeeps.l0]) ?_
    simp only [if_neg (show ¬ (i : Int) < (vs.length : Int) by omega)]
    rw [List.take_of_length_le (show vs.length ≤ i by omega)]
    refine Ev.bind (play_ev V (pairs41 vs) (by rw [hpl]; unfold Big; omega)) ?_
    obtain ⟨l', got', h1, h2, h3, h4⟩ := play_pairs a vs l [] 0 V hne
    rw [h1]
    have h8' : l'.length ≤ 8 := by have := h4.2.1; have := h4.2.2.1; omega
    refine Ev.bind known_ev ?_
    rw [List.length_nil, Nat.zero_add] at h3
    rw [List.nil_append] at h2
    simp only [if_true, show (((0 : Nat) : Int) = 0) = True by simp, if_pos (show (got'.length : Int) = (vs.length : Int) by omega), Option.bind_some, List.length_nil, Nat.zero_add, List.nil_append, if_pos (show got'.length < 5864062014805 by omega), if_pos (show got'.length + l'.length < 5864062014805 by omega)]
    rw [h2]
    refine Ev.bind (items_ev _ ?_ fun x hx => ?_) ?_
    · rw [List.length_append, List.length_map]; unfold Big; omega
    · rcases List.mem_append.1 hx with hx | hx
      · have := V.2.2.2 x hx; unfold Big; omega
      · obtain ⟨v, _, rfl⟩ := List.mem_map.1 hx
        exact (by decide : (1 : Nat) < Big)
    · exact Ev.now _
  | succ d ih =>
    intro i hi
    have ht : (vs.take i).length = i := by rw [List.length_take]; omega
    have hi' : i < vs.length := by omega
    refine Ev.step (fun k => by rw [selfstablaw41_ChannelKeeps.l0]) ?_
    simp only [if_pos (show (i : Int) < (vs.length : Int) by omega), if_pos (show 0 ≤ (i : Int) by omega), Option.bind_some, wrap_nat i (by omega), List.length_cons, List.length_nil]
    simp only [if_pos (show (pairs41 (vs.take i)).length + (0 + 1 + 1) < 3518437208883 by rw [hpl, ht]; omega), if_pos (show (l ++ (vs.take i).map (fun v => [v])).length < 5864062014805 by rw [List.length_append, List.length_map, ht]; omega)]
    have key := ih (i + 1) (by omega)
    rw [take_succ_rd41 vs i hi'] at key
    rw [show pairs41 (vs.take i ++ [rd vs (i : Int)]) = pairs41 (vs.take i) ++ [⟨1, 0, [rd vs (i : Int)]⟩, ⟨2, 0, []⟩] by unfold pairs41; rw [List.flatMap_append]; rfl, List.map_append, ← List.append_assoc] at key
    exact key
theorem ck_true (vs : List Int) (a : Int) (l : List (List Int)) : Ev (fun k => selfstablaw41_ChannelKeeps.j0 k vs true a l) true := by
  refine Ev.step (fun k => by rw [selfstablaw41_ChannelKeeps.j0]) ?_
  simp only [if_true]
  refine Ev.bind known_ev ?_
  exact Ev.now _
theorem Pure_ChannelKeeps : selfstablaw41_ChannelKeeps.Pure := by
  intro x vs hx hvs
  have hxl := hx.2.1
  refine Ev.rounds ?_
  unfold selfstablaw41_ChannelKeeps.f
  refine Ev.bind (valid_ev _ _) ?_
  by_cases V : ValidC x.f0 x.f1
  · simp only [validC_iff.2 V, if_true]
    have h8 : x.f1.length ≤ 8 := by have := V.2.1; have := V.2.2.1; omega
    by_cases h1 : (x.f1.length : Int) = x.f0
    · simp only [if_pos h1]
      exact ck_true _ _ _
    · simp only [if_neg h1]
      obtain ⟨b, hb, hbi⟩ := large_ev x.f0 x.f1 hxl
      refine Ev.bind hb ?_
      cases b with
      | true => exact ck_true _ _ _
      | false =>
        simp only [Bool.false_eq_true, if_false]
        by_cases h2 : (vs.length : Int) > 100
        · simp only [decide_eq_true h2]
          exact ck_true _ _ _
        · simp only [decide_eq_false h2]
          refine Ev.step (fun k => by rw [selfstablaw41_ChannelKeeps.j0]) ?_
          simp only [Bool.false_eq_true, if_false, Option.bind_some, List.length_nil, Nat.zero_add, List.nil_append, if_pos (show x.f1.length < 5864062014805 by omega)]
          have := ck_l0 x.f0 x.f1 V h1 vs (by omega) _ 0 (Nat.zero_add _)
          rw [List.take_zero, List.map_nil, List.append_nil] at this
          exact this
  · simp only [validC_false V, Bool.false_eq_true, if_false]
    exact ck_true _ _ _
end Go.Proofs.Ytcpkbgfemohlmaa.P
