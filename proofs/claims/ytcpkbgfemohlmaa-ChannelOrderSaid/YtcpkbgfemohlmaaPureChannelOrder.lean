/- ChannelOrder, the plain law. -/
import Derived.Test.YtcpkbgfemohlmaaSChannelOrder
import Derived.Test.YtcpkbgfemohlmaaMChan
namespace Go.Proofs.Ytcpkbgfemohlmaa.P
open Go.RowKit Go.Proofs.YtcpkbgfemohlmaaW.PrintWords Go.Proofs.YtcpkbgfemohlmaaW.PrintMore
set_option linter.unusedVariables false
abbrev Cop := S38
/-- The operations' items are numbered from s on. -/
def Num : Nat → List Cop → Prop
  | _, [] => True
  | s, o :: r => if o.f0 = 1 then o.f2 = [(s : Int)] ∧ Num (s + 1) r else Num s r
def cnt : Nat → List Cop → Nat
  | s, [] => s
  | s, o :: r => if o.f0 = 1 then cnt (s + 1) r else cnt s r
theorem num_snoc (o : Cop) : ∀ (l : List Cop) (s : Nat), Num s l → (o.f0 = 1 → o.f2 = [(cnt s l : Int)]) → Num s (l ++ [o]) ∧ cnt s (l ++ [o]) = if o.f0 = 1 then cnt s l + 1 else cnt s l
  | [], s, _, h => by
    simp only [cnt] at h
    simp only [List.nil_append, Num, cnt]
    by_cases h1 : o.f0 = 1
    · simp only [if_pos h1]; exact ⟨⟨h h1, trivial⟩, trivial⟩
    · simp only [if_neg h1]; exact ⟨trivial, trivial⟩
  | p :: l, s, hn, h => by
    simp only [Num, cnt] at hn h
    simp only [List.cons_append, Num, cnt]
    by_cases h1 : p.f0 = 1
    · simp only [if_pos h1] at hn h ⊢
      obtain ⟨a, b⟩ := num_snoc o l (s + 1) hn.2 h
      exact ⟨⟨hn.1, a⟩, b⟩
    · simp only [if_neg h1] at hn h ⊢
      exact num_snoc o l s hn h
theorem cnt_le : ∀ (l : List Cop) (s : Nat), s ≤ cnt s l ∧ cnt s l ≤ s + l.length
  | [], s => ⟨Nat.le_refl _, Nat.le_refl _⟩
  | o :: l, s => by
    have h1 := cnt_le l (s + 1)
    have h2 := cnt_le l s
    simp only [cnt, List.length_cons]
    split <;> omega
/-- What Play keeps: what came out and what is left, one behind the other, is ascending; with the lost ones it is all. -/
def Kept41 (a : Int) (l got : List (List Int)) (n s : Nat) : Prop := ValidC a l ∧ ∃ vs : List Int, got ++ l = vs.map (fun v => [v]) ∧ vs.Pairwise (· < ·) ∧ (∀ v ∈ vs, 0 ≤ v ∧ v < s) ∧ vs.length + n = s
theorem erase_append (g l : List (List Int)) (i : Nat) : (g ++ l).eraseIdx (g.length + i) = g ++ l.eraseIdx i := by
  rw [List.eraseIdx_append_of_length_le (by omega), Nat.add_sub_cancel_left]
theorem erase_map (f : Int → List Int) : ∀ (l : List Int) (i : Nat), (l.map f).eraseIdx i = (l.eraseIdx i).map f
  | [], i => rfl
  | x :: l, 0 => rfl
  | x :: l, i + 1 => by rw [List.map_cons, List.eraseIdx_cons_succ, List.eraseIdx_cons_succ, List.map_cons, erase_map f l i]
theorem play_kept (a : Int) : ∀ (ops : List Cop) (l got : List (List Int)) (n s : Nat), Kept41 a l got n s → Num s ops →
    ∃ (l' got' : List (List Int)) (n' : Nat), playM a l got n ops = (a, l', got', (n' : Int)) ∧ Kept41 a l' got' n' (cnt s ops)
  | [], l, got, n, s, h, _ => ⟨l, got, n, rfl, h⟩
  | o :: r, l, got, n, s, h, hn => by
    obtain ⟨V, vs, h1, h2, h3, h4⟩ := h
    simp only [Num] at hn
    simp only [playM, cnt]
    by_cases c1 : o.f0 = 1
    · simp only [if_pos c1] at hn ⊢
      have hlen : o.f2.length = 1 := by rw [hn.1]; rfl
      by_cases c2 : (l.length : Int) = a ∨ o.f2.length > 6
      · simp only [if_pos c2]
        exact play_kept a r l got (n + 1) (s + 1) ⟨V, vs, h1, h2, fun v hv => by have := h3 v hv; omega, by omega⟩ hn.2
      · simp only [if_neg c2]
        refine play_kept a r _ got n (s + 1) ⟨V.push c2, vs ++ [(s : Int)], ?_, ?_, fun v hv => ?_, by rw [List.length_append, List.length_singleton]; omega⟩ hn.2
        · rw [← List.append_assoc, h1, hn.1, List.map_append]; rfl
        · rw [List.pairwise_append]
          exact ⟨h2, List.pairwise_singleton _ _, fun x hx y hy => by rw [List.mem_singleton.1 hy]; exact (h3 x hx).2⟩
        · rcases List.mem_append.1 hv with hv | hv
          · have := h3 v hv; omega
          · rw [List.mem_singleton.1 hv]; omega
    · simp only [if_neg c1] at hn ⊢
      by_cases c2 : o.f0 = 2
      · simp only [if_pos c2]
        cases l with
        | nil => exact play_kept a r [] got n s ⟨V, vs, h1, h2, h3, h4⟩ hn
        | cons x t => exact play_kept a r t _ n s ⟨V.drop1, vs, by rw [List.append_assoc]; exact h1, h2, h3, h4⟩ hn
      · simp only [if_neg c2]
        by_cases c3 : o.f0 = 3
        · simp only [if_pos c3]
          by_cases c4 : 0 ≤ o.f1 ∧ o.f1 < (l.length : Int)
          · simp only [if_pos c4]
            have hl : got.length + l.length = vs.length := by
              have := congrArg List.length h1
              rwa [List.length_append, List.length_map] at this
            refine play_kept a r _ got (n + 1) s ⟨V.erase _, vs.eraseIdx (got.length + o.f1.toNat), ?_, h2.sublist (List.eraseIdx_sublist _ _), fun v hv => h3 v (List.mem_of_mem_eraseIdx hv), ?_⟩ hn
            · rw [← erase_append, h1, erase_map]
            · rw [List.length_eraseIdx_of_lt (by omega)]; omega
          · simp only [if_neg c4]
            exact play_kept a r l got n s ⟨V, vs, h1, h2, h3, h4⟩ hn
        · simp only [if_neg c3]
          exact play_kept a r l got n s ⟨V, vs, h1, h2, h3, h4⟩ hn
theorem co_l1 (a : Int) (s n : Nat) (l : List (List Int)) (vs : List Int) (h2 : vs.Pairwise (· < ·)) (h3 : ∀ v ∈ vs, 0 ≤ v ∧ v < s) (h4 : vs.length + n = s) (hs : s < Big) (hl : (l.length : Int) ≤ a) :
    ∀ (d i : Nat) (x : Int), i + d = vs.length → (x = -1 ∨ x ∈ vs) → (∀ v ∈ vs.drop i, x < v) → Ev (fun k => selfstablaw41_ChannelOrder.l1 k a (s : Int) (n : Int) (vs.map (fun v => [v])) x (i : Int) a l) true := by
  unfold Big at hs
  have hlen : (vs.map (fun v => [v])).length = vs.length := List.length_map _
  intro d
  induction d with
  | zero =>
    intro i x hi hx hd
    refine Ev.step (fun k => by rw [selfstablaw41_ChannelOrder.l1]) ?_
    simp only [hlen, if_neg (show ¬ (i : Int) < (vs.length : Int) by omega)]
    refine Ev.bind known_ev ?_
    have hxs : x < s := by
      rcases hx with rfl | hx
      · omega
      · exact (h3 x hx).2
    rw [wrap_id ((vs.length : Int) + (n : Int)) (by omega) (by omega)]
    simp only [if_true, if_pos (show (vs.length : Int) + (n : Int) = (s : Int) by omega), if_pos hxs, decide_eq_true hl]
    exact Ev.now _
  | succ d ih =>
    intro i x hi hx hd
    have hi' : i < vs.length := by omega
    have hr : rd_L1 (vs.map (fun v => [v])) (i : Int) = [vs[i]] := by
      rw [rdL_get _ i (by rw [hlen]; exact hi'), List.getElem_map]
    have hdr : vs.drop i = vs[i] :: vs.drop (i + 1) := List.drop_eq_getElem_cons hi'
    have hlt : x < vs[i] := hd _ (by rw [hdr]; exact List.mem_cons_self)
    refine Ev.step (fun k => by rw [selfstablaw41_ChannelOrder.l1]) ?_
    simp only [hlen, if_pos (show (i : Int) < (vs.length : Int) by omega), if_pos (show 0 ≤ (i : Int) by omega), hr, List.length_singleton, show (((1 : Nat) : Int) = 1) = True by simp, if_true, if_pos (show (0 : Int) < ((1 : Nat) : Int) by omega), wrap_nat i (by omega)]
    have e : rd [vs[i]] 0 = vs[i] := rfl
    simp only [e, if_neg (show ¬ vs[i] ≤ x by omega)]
    refine ih (i + 1) _ (by omega) (.inr (List.getElem_mem hi')) fun v hv => ?_
    have hp := h2.sublist (List.drop_sublist i vs)
    rw [hdr, List.pairwise_cons] at hp
    exact hp.1 v hv
theorem co_end (a : Int) (h1 : 1 ≤ a) (h8 : a ≤ 8) (l : List S45) (ops : List Cop) (ho : ops.length ≤ 150) (hn : Num 0 ops) (x7 : Int) :
    Ev (fun k => selfstablaw41_ChannelOrder.j1 k a l ops (cnt 0 ops : Int) x7 false) true := by
  have V : ValidC a [] := ⟨h1, h8, by simp; omega, nofun⟩
  obtain ⟨l', got', n', e, V', vs, k1, k2, k3, k4⟩ := play_kept a ops [] [] 0 0 ⟨V, [], rfl, List.Pairwise.nil, nofun, rfl⟩ hn
  have hc := cnt_le ops 0
  have hl := congrArg List.length k1
  rw [List.length_append, List.length_map] at hl
  refine Ev.step (fun k => by rw [selfstablaw41_ChannelOrder.j1]) ?_
  simp only [Bool.false_eq_true, if_false]
  refine Ev.bind (play_ev V ops (by unfold Big; omega)) ?_
  rw [e]
  simp only [Option.bind_some, List.length_nil, Nat.zero_add, List.nil_append, if_pos (show got'.length < 5864062014805 by omega), if_pos (show got'.length + l'.length < 5864062014805 by omega)]
  rw [k1]
  exact co_l1 a _ n' l' vs k2 k3 k4 (by unfold Big; omega) V'.2.2.1 _ 0 (-1) (Nat.zero_add _) (.inl rfl) (fun v hv => by have := k3 v (by rwa [List.drop_zero] at hv); omega)
theorem co_l0 (a : Int) (h1 : 1 ≤ a) (h8 : a ≤ 8) (l : List S45) (hl : l.length ≤ maxLen) (hw : ∀ y ∈ l, (Lit.int .i64 y.f0).wf = true ∧ (Lit.int .i64 y.f1).wf = true) :
    ∀ (d i : Nat) (ops : List Cop), i + d = 150 → ops.length ≤ i → Num 0 ops → Ev (fun k => selfstablaw41_ChannelOrder.l0 k a l ops (cnt 0 ops : Int) (i : Int)) true := by
  intro d
  induction d with
  | zero =>
    intro i ops hi ho hn
    have he := co_end a h1 h8 l ops (by omega) hn (i : Int)
    refine Ev.step (fun k => by rw [selfstablaw41_ChannelOrder.l0]) ?_
    simp only [decide_eq_false (show ¬ (i : Int) < 150 by omega), ite_self]
    exact he
  | succ d ih =>
    intro i ops hi ho hn
    have hc := cnt_le ops 0
    refine Ev.step (fun k => by rw [selfstablaw41_ChannelOrder.l0]) ?_
    by_cases hil : i < l.length
    · simp only [if_pos (show (i : Int) < (l.length : Int) by omega), decide_eq_true (show (i : Int) < 150 by omega)]
      refine Ev.step (fun k => by rw [selfstablaw41_ChannelOrder.j1]) ?_
      simp only [if_true, if_pos (show 0 ≤ (i : Int) by omega), if_pos (show (i : Int) < (l.length : Int) by omega), wrap_nat i (by omega), wrap_nat (cnt 0 ops) (by omega)]
      generalize hk : wrap64 (1 + (Int.tmod (wrap64 ((Int.tmod ((rd_T45 l (i : Int)).f0) 3) + 3)) 3)) = kk
      by_cases h : kk = 1
      · simp only [if_pos h, if_pos (show ops.length < 3518437208883 by omega)]
        obtain ⟨a1, a2⟩ := num_snoc (⟨kk, Int.tmod ((rd_T45 l (i : Int)).f1) 10, [(cnt 0 ops : Int)]⟩ : Cop) ops 0 hn (fun _ => rfl)
        rw [if_pos h] at a2
        have := ih (i + 1) _ (by omega) (by rw [List.length_append, List.length_singleton]; omega) a1
        rw [a2] at this
        exact this
      · simp only [if_neg h, if_pos (show ops.length < 3518437208883 by omega)]
        obtain ⟨a1, a2⟩ := num_snoc (⟨kk, Int.tmod ((rd_T45 l (i : Int)).f1) 10, []⟩ : Cop) ops 0 hn (fun hh => absurd hh h)
        rw [if_neg h] at a2
        have := ih (i + 1) _ (by omega) (by rw [List.length_append, List.length_singleton]; omega) a1
        rw [a2] at this
        exact this
    · simp only [if_neg (show ¬ (i : Int) < (l.length : Int) by omega)]
      exact co_end a h1 h8 l ops (by omega) hn (i : Int)
theorem Pure_ChannelOrder : selfstablaw41_ChannelOrder.Pure := by
  intro a l _ hl
  refine Ev.rounds ?_
  unfold selfstablaw41_ChannelOrder.f
  have h1 := Int.tmod_lt_of_pos a (show (0 : Int) < 8 by omega)
  have h2 := Int.lt_tmod_of_pos a (show (0 : Int) < 8 by omega)
  rw [wrap_id (Int.tmod a 8 + 8) (by omega) (by omega)]
  have h3 := Int.tmod_lt_of_pos (Int.tmod a 8 + 8) (show (0 : Int) < 8 by omega)
  have h4 := Int.tmod_nonneg 8 (show 0 ≤ Int.tmod a 8 + 8 by omega)
  rw [wrap_id _ (by omega) (by omega)]
  exact co_l0 _ (by omega) (by omega) l hl.1 (fun y hy => hl.2 y hy) 150 0 [] (by omega) (Nat.le_refl _) trivial
end Go.Proofs.Ytcpkbgfemohlmaa.P
