/- Alignment, as the program tells it and in plain words; the events of a law; the sanity check. -/
import Derived.Test.YtdhkplfkbdldfaaGDAligned
import Derived.Test.YtdhkplfkbdldfaaGDStep
import Derived.Test.YtdhkplfkbdldfaaMEv
import Derived.Test.YtdhkplfkbdldfaaMRaw
import Derived.Test.YtdhkplfkbdldfaaP5
import Derived.Test.YtdhkplfkbdldfaaP2
namespace Go.Proofs.Ytdhkplfkbdldfaa.P
open Go.RowKit Go.Proofs.YtdhkplfkbdldfaaW.PrintWords Go.Proofs.YtdhkplfkbdldfaaW.PrintMore
set_option linter.unusedVariables false
theorem chk_iff (b l : Int) (hne : b ≠ l) : ∀ (r : List Int) (old : Bool), chk b l old r = true ↔ (∀ y ∈ r, (y = l ∧ old = false) ∨ y = b) ∧ r.Pairwise fun a c => c = l → a = l
  | [], old => by simp [chk]
  | y :: r, old => by
    rw [chk, List.pairwise_cons]
    by_cases h : y = b
    · rw [if_pos h, chk_iff b l hne r true]
      constructor
      · rintro ⟨h1, h2⟩
        refine ⟨fun z hz => ?_, fun z hz hl => ?_, h2⟩
        · rcases List.mem_cons.1 hz with rfl | hz
          · exact .inr h
          · exact .inr ((h1 z hz).resolve_left (fun hh => Bool.noConfusion hh.2))
        · exact absurd (hl.symm.trans ((h1 z hz).resolve_left (fun hh => Bool.noConfusion hh.2))) hne.symm
      · rintro ⟨h1, h2, h3⟩
        refine ⟨fun z hz => ?_, h3⟩
        rcases h1 z (List.mem_cons_of_mem _ hz) with hh | hh
        · exact absurd (h ▸ h2 z hz hh.1) hne
        · exact .inr hh
    · rw [if_neg h]
      by_cases h' : y = l ∧ old = false
      · rw [if_pos h', chk_iff b l hne r old]
        constructor
        · rintro ⟨h1, h2⟩
          refine ⟨fun z hz => ?_, fun z hz _ => h'.1, h2⟩
          rcases List.mem_cons.1 hz with rfl | hz
          · exact .inl h'
          · exact h1 z hz
        · rintro ⟨h1, h2, h3⟩
          exact ⟨fun z hz => h1 z (List.mem_cons_of_mem _ hz), h3⟩
      · rw [if_neg h']
        constructor
        · intro hh; cases hh
        · rintro ⟨h1, _⟩
          rcases h1 y List.mem_cons_self with hh | hh
          · exact absurd hh h'
          · exact absurd hh h
theorem back_map {α : Type} (at_ : Int → α) : ∀ k, (back at_ k).map (·.2) = ((List.range k).map fun (i : Nat) => at_ (i : Int)).reverse
  | 0 => rfl
  | k + 1 => by rw [back, List.map_cons, back_map at_ k, List.range_succ, List.map_append, List.reverse_append]; rfl
theorem range_rd (l : List Int) : ((List.range l.length).map fun (i : Nat) => rd l (i : Int)) = l := by
  apply List.ext_getElem
  · simp
  · intro i h1 h2
    simp [rd, List.getElem?_eq_getElem h2]
theorem range_fr (l : List Fr) : ((List.range l.length).map fun (i : Nat) => rd_T46 l (i : Int)) = l := by
  apply List.ext_getElem
  · simp
  · intro i h1 h2
    simp [rd_T46, List.getElem?_eq_getElem h2]
theorem labs_q (x : DL) : x.labs = x.q.reverse := by
  have h1 : (back (rd_T46 x.fr) x.fr.length).map (·.2.f0) = (x.fr.map (·.f0)).reverse := by
    rw [show (back (rd_T46 x.fr) x.fr.length).map (·.2.f0) = ((back (rd_T46 x.fr) x.fr.length).map (·.2)).map (·.f0) by rw [List.map_map]; rfl, back_map, range_fr, List.map_reverse]
  unfold DL.labs DL.q
  rw [h1, back_map, range_rd]
  simp
theorem alignB_iff {x : DL} (hv : ValidD x) : alignB x = true ↔ AlignedD x := by
  obtain ⟨h1, h2, h3, h4, h5, h6, _⟩ := hv
  unfold alignB
  rw [chk_iff _ _ (before_ne x.lab x.mod h5 h6 (by omega)), labs_q]
  unfold AlignedD Mono
  rw [List.pairwise_reverse]
  constructor
  · rintro ⟨a, b⟩
    exact ⟨b, fun y hy => (a y (List.mem_reverse.2 hy)).imp (fun h => h.1) id⟩
  · rintro ⟨a, b⟩
    exact ⟨fun y hy => (b y (List.mem_reverse.1 hy)).imp (fun h => ⟨h, rfl⟩) id, a⟩
theorem known_ev : Ev (fun k => selfstablaw42_known.f k) true := Ev.of (fun k => selfstablaw42_known.mono k) (k := 30) (by decide +kernel)
theorem events_ln (n : Nat) (hn : n ≤ 1000) (l : List S40) : ∀ (d i : Nat) (xs : List S40), i + d = n → xs.length ≤ 2 * i →
    ∃ evs : List S40, evs.length ≤ 2 * n ∧ Ev (fun k => selfstablaw42_events.l0 k l (n : Int) xs (i : Int)) evs := by
  intro d
  induction d with
  | zero =>
    intro i xs hi hx
    refine ⟨xs, by omega, Ev.step (fun k => by rw [selfstablaw42_events.l0]) ?_⟩
    simp only [if_neg (show ¬ (i : Int) < (n : Int) by omega)]
    exact Ev.now _
  | succ d ih =>
    intro i xs hi hx
    have one : ∀ e : S40, ∃ evs : List S40, evs.length ≤ 2 * n ∧ Ev (fun k => selfstablaw42_events.l0 k l (n : Int) (xs ++ [e]) ((i + 1 : Nat) : Int)) evs := fun e => ih (i + 1) _ (by omega) (by simp; omega)
    by_cases h1 : (i : Int) < (l.length : Int)
    · by_cases h2 : (rd_T40 l (i : Int)).f0 > 0
      · obtain ⟨v, hv, _, _⟩ := within_some (rd_T40 l (i : Int)).f1 4 (by omega) (by omega)
        obtain ⟨evs, hl, he⟩ := ih (i + 1) (xs ++ [⟨wrap64 (1 + (Int.tmod ((rd_T40 l (i : Int)).f0) 5)), v⟩] ++ [⟨wrap64 (1 + (Int.tmod (wrap64 ((i : Int) + 1)) 3)), 0⟩]) (by omega) (by simp; omega)
        refine ⟨evs, hl, Ev.step (fun k => by rw [selfstablaw42_events.l0]) ?_⟩
        have hb : (xs ++ [(⟨wrap64 (1 + (Int.tmod ((rd_T40 l (i : Int)).f0) 5)), v⟩ : S40)]).length < 8796093022208 := by simp; omega
        simp only [if_pos (show (i : Int) < (n : Int) by omega), if_pos h1, if_pos (show 0 ≤ (i : Int) by omega), if_pos h2, hv, Option.bind_some, if_pos (show xs.length < 8796093022208 by omega), if_pos hb]
        rw [wrap_nat i (by omega)] at he ⊢
        exact he
      · obtain ⟨evs, hl, he⟩ := one ⟨wrap64 (1 + (Int.tmod (wrap64 ((i : Int) + 1)) 3)), 0⟩
        refine ⟨evs, hl, Ev.step (fun k => by rw [selfstablaw42_events.l0]) ?_⟩
        simp only [if_pos (show (i : Int) < (n : Int) by omega), if_pos h1, if_pos (show 0 ≤ (i : Int) by omega), if_neg h2, if_pos (show xs.length < 8796093022208 by omega)]
        rw [wrap_nat i (by omega)] at he ⊢
        exact he
    · obtain ⟨evs, hl, he⟩ := one ⟨wrap64 (1 + (Int.tmod (wrap64 ((i : Int) + 1)) 3)), 0⟩
      refine ⟨evs, hl, Ev.step (fun k => by rw [selfstablaw42_events.l0]) ?_⟩
      simp only [if_pos (show (i : Int) < (n : Int) by omega), if_neg h1, if_pos (show xs.length < 8796093022208 by omega)]
      rw [wrap_nat i (by omega)] at he ⊢
      exact he
theorem step_f {x : DL} (hv : ValidD x) (k a : Int) : datalink_Step.f x.cap x.mod x.lab x.item x.last x.fr x.ak k a = some ((stepD x k a).1.cap, (stepD x k a).1.mod, (stepD x k a).1.lab, (stepD x k a).1.item, (stepD x k a).1.last, (stepD x k a).1.fr, (stepD x k a).1.ak, (stepD x k a).2.1, (stepD x k a).2.2) := by
  unfold datalink_Step.f; rw [if_pos hv]
theorem aligned_f {x : DL} (hv : ValidD x) : datalink_Aligned.f x.cap x.mod x.lab x.item x.last x.fr x.ak = some (alignB x) := by
  unfold datalink_Aligned.f; rw [decide_eq_true hv, Bool.true_and]
theorem valid_f {x : DL} (hv : ValidD x) : datalink_Valid.f x.cap x.mod x.lab x.item x.last x.fr x.ak = some true := by
  unfold datalink_Valid.f; rw [decide_eq_true hv]
end Go.Proofs.Ytdhkplfkbdldfaa.P
