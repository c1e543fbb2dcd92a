/- DatalinkOnce, the plain law. -/
import Derived.Test.YtdhkplfkbdldfaaSDatalinkOnce
import Derived.Test.YtdhkplfkbdldfaaMRaw
import Derived.Test.YtdhkplfkbdldfaaMOnce
import Derived.Test.YtdhkplfkbdldfaaP2
namespace Go.Proofs.Ytdhkplfkbdldfaa.P
open Go.RowKit Go.Proofs.YtdhkplfkbdldfaaW.PrintWords Go.Proofs.YtdhkplfkbdldfaaW.PrintMore
set_option linter.unusedVariables false
theorem known_ev : Ev (fun k => selfstablaw42_known.f k) true := Ev.of (fun k => selfstablaw42_known.mono k) (k := 30) (by decide +kernel)
theorem events_l0 (l : List S40) : ∀ (d i : Nat) (xs : List S40), i + d = 250 → xs.length ≤ 2 * i →
    ∃ evs : List S40, evs.length ≤ 500 ∧ Ev (fun k => selfstablaw42_events.l0 k l 250 xs (i : Int)) evs := by
  intro d
  induction d with
  | zero =>
    intro i xs hi hx
    refine ⟨xs, by omega, Ev.step (fun k => by rw [selfstablaw42_events.l0]) ?_⟩
    simp only [if_neg (show ¬ (i : Int) < 250 by omega)]
    exact Ev.now _
  | succ d ih =>
    intro i xs hi hx
    have one : ∀ e : S40, ∃ evs : List S40, evs.length ≤ 500 ∧ Ev (fun k => selfstablaw42_events.l0 k l 250 (xs ++ [e]) ((i + 1 : Nat) : Int)) evs := fun e => ih (i + 1) _ (by omega) (by simp; omega)
    by_cases h1 : (i : Int) < (l.length : Int)
    · by_cases h2 : (rd_T40 l (i : Int)).f0 > 0
      · obtain ⟨v, hv, _, _⟩ := within_some (rd_T40 l (i : Int)).f1 4 (by omega) (by omega)
        obtain ⟨evs, hl, he⟩ := ih (i + 1) (xs ++ [⟨wrap64 (1 + (Int.tmod ((rd_T40 l (i : Int)).f0) 5)), v⟩] ++ [⟨wrap64 (1 + (Int.tmod (wrap64 ((i : Int) + 1)) 3)), 0⟩]) (by omega) (by simp; omega)
        refine ⟨evs, hl, Ev.step (fun k => by rw [selfstablaw42_events.l0]) ?_⟩
        have hb : (xs ++ [(⟨wrap64 (1 + (Int.tmod ((rd_T40 l (i : Int)).f0) 5)), v⟩ : S40)]).length < 8796093022208 := by simp; omega
        simp only [if_pos (show (i : Int) < 250 by omega), if_pos h1, if_pos (show 0 ≤ (i : Int) by omega), if_pos h2, hv, Option.bind_some, if_pos (show xs.length < 8796093022208 by omega), if_pos hb]
        rw [wrap_nat i (by omega)] at he ⊢
        exact he
      · obtain ⟨evs, hl, he⟩ := one ⟨wrap64 (1 + (Int.tmod (wrap64 ((i : Int) + 1)) 3)), 0⟩
        refine ⟨evs, hl, Ev.step (fun k => by rw [selfstablaw42_events.l0]) ?_⟩
        simp only [if_pos (show (i : Int) < 250 by omega), if_pos h1, if_pos (show 0 ≤ (i : Int) by omega), if_neg h2, if_pos (show xs.length < 8796093022208 by omega)]
        rw [wrap_nat i (by omega)] at he ⊢
        exact he
    · obtain ⟨evs, hl, he⟩ := one ⟨wrap64 (1 + (Int.tmod (wrap64 ((i : Int) + 1)) 3)), 0⟩
      refine ⟨evs, hl, Ev.step (fun k => by rw [selfstablaw42_events.l0]) ?_⟩
      simp only [if_pos (show (i : Int) < 250 by omega), if_neg h1, if_pos (show xs.length < 8796093022208 by omega)]
      rw [wrap_nat i (by omega)] at he ⊢
      exact he
theorem once_l0 (out : List Int) (f : Int) (y : DL) (n' : Int) (ho : out.length ≤ 65536) (hf0 : 0 ≤ f) (hf : f ≤ 1000000) (hy0 : 0 ≤ y.item) (hy : y.item ≤ 1073741824) (h1 : y.item ≤ f → n' ≤ f + 1) (h2 : f < y.item → n' = y.item ∨ n' = y.item + 1) :
    ∀ (d i : Nat) (n : Int), i + d = out.length → 0 ≤ n → n ≤ 1000000 + i → awaits f n (out.drop i) = some n' →
    Ev (fun k => selfstablaw42_DatalinkOnce.l0 k out f n (i : Int) y.cap y.mod y.lab y.item y.last y.fr y.ak) true := by
  intro d
  induction d with
  | zero =>
    intro i n hi hn0 hn ha
    rw [List.drop_of_length_le (by omega)] at ha
    obtain rfl : n = n' := by simpa [awaits] using ha
    refine Ev.step (fun k => by rw [selfstablaw42_DatalinkOnce.l0]) ?_
    have w1 : wrap64 (f + 1) = f + 1 := wrap_id _ (by omega) (by omega)
    have w2 : wrap64 (y.item + 1) = y.item + 1 := wrap_id _ (by omega) (by omega)
    simp only [if_neg (show ¬ (i : Int) < (out.length : Int) by omega), w1, w2]
    by_cases h : y.item ≤ f
    · simp only [if_pos h]
      refine Ev.bind known_ev ?_
      simp only [if_true, decide_eq_true (h1 h)]
      exact Ev.now _
    · simp only [if_neg h]
      refine Ev.bind known_ev ?_
      simp only [if_true]
      rcases h2 (by omega) with e | e
      · simp only [if_pos e]; exact Ev.now _
      · by_cases e' : n = y.item
        · simp only [if_pos e']; exact Ev.now _
        · have e3 : (n == y.item + 1) = true := by rw [e]; simp
          simp only [if_neg e', e3]; exact Ev.now _
  | succ d ih =>
    intro i n hi hn0 hn ha
    rw [drop_rd out i (by omega)] at ha
    refine Ev.step (fun k => by rw [selfstablaw42_DatalinkOnce.l0]) ?_
    have w1 : wrap64 (n + 1) = n + 1 := wrap_id _ (by omega) (by omega)
    simp only [if_pos (show (i : Int) < (out.length : Int) by omega), if_pos (show 0 ≤ (i : Int) by omega), wrap_nat i (by omega), w1]
    unfold awaits await at ha
    by_cases h : f ≤ rd out (i : Int)
    · rw [if_pos h] at ha
      by_cases h' : rd out (i : Int) = n
      · rw [if_pos h'] at ha
        simp only [if_pos (show rd out (i : Int) ≥ f from h), if_pos h']
        exact ih (i + 1) (n + 1) (by omega) (by omega) (by omega) ha
      · rw [if_neg h'] at ha; cases ha
    · rw [if_neg h] at ha
      simp only [if_neg (show ¬ rd out (i : Int) ≥ f from h)]
      exact ih (i + 1) n (by omega) (by omega) (by omega) ha
theorem Pure_DatalinkOnce : selfstablaw42_DatalinkOnce.Pure := by
  intro x0 x1 _ _
  refine Ev.rounds (g := fun k => selfstablaw42_DatalinkOnce.f k x0.f0 x0.f1 x0.f2 x0.f3 x0.f4 x0.f5 x0.f6 x0.f7 x1) ?_
  obtain ⟨x, V, hi, hneg, hc4, he⟩ := raw_ev x0.f0 x0.f1 x0.f2 x0.f3 x0.f4 x0.f5 x0.f6 x0.f7
  obtain ⟨evs, hl, hev⟩ := events_l0 x1 250 0 [] (by omega) (by simp)
  obtain ⟨j, j0, j1, hway⟩ := way_start V hneg
  have hV := V
  obtain ⟨v1, v2, v3, v4, v5, v6, v7, v8, v9, v10, _⟩ := hV
  obtain ⟨n', hn, hw, hm, hit⟩ := run_way V j0 j1 rfl hi hway evs (by omega) evs.length (Nat.le_refl _)
  have hin := runD_inv x V evs evs.length (Nat.le_refl _)
  rw [List.take_length] at hn hw hm hit hin
  have hend := way_end hw (by rw [hm]; exact j1) (by rw [hm])
  refine Ev.congr (fun k => by rw [selfstablaw42_DatalinkOnce.f]) ?_
  refine Ev.bind he ?_
  refine Ev.bind hev ?_
  have w1 : wrap64 (x.item + x.mod) = x.item + x.mod := wrap_id _ (by omega) (by omega)
  have w2 : wrap64 (x.item + x.mod - 1) = x.item + x.mod - 1 := wrap_id _ (by omega) (by omega)
  have hr : datalink_Run.f x.cap x.mod x.lab x.item x.last x.fr x.ak evs = some ((runD x evs).1.cap, (runD x evs).1.mod, (runD x evs).1.lab, (runD x evs).1.item, (runD x evs).1.last, (runD x evs).1.fr, (runD x evs).1.ak, (runD x evs).2) := by
    unfold datalink_Run.f
    rw [if_pos ⟨V, by omega⟩]
  simp only [hr, Option.bind_some, w1, w2]
  obtain ⟨u1, u2, u3, u4, u5, u6, u7, u8, u9, u10, _⟩ := hin.1
  exact once_l0 (runD x evs).2 (x.item + x.mod - 1) (runD x evs).1 n' (by omega) (by omega) (by omega) u9 u10 hend.1 hend.2 (runD x evs).2.length 0 (x.item + x.mod - 1) (by omega) (by omega) (by omega) (by simpa using hn)
end Go.Proofs.Ytdhkplfkbdldfaa.P
