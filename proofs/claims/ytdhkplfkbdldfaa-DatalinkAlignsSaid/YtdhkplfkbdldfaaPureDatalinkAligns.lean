/- DatalinkAligns, the plain law. -/
import Derived.Test.YtdhkplfkbdldfaaSDatalinkAligns
import Derived.Test.YtdhkplfkbdldfaaMAlign
namespace Go.Proofs.Ytdhkplfkbdldfaa.P
open Go.RowKit Go.Proofs.YtdhkplfkbdldfaaW.PrintWords Go.Proofs.YtdhkplfkbdldfaaW.PrintMore
set_option linter.unusedVariables false
theorem aligns_l0 (evs : List S40) (hl : evs.length ≤ 1000) (L0 I0 j f m : Int) (hj0 : 0 ≤ j) (hj : j < m) (hf : f = I0 + m - 1) (hI0 : 0 ≤ I0) (hI1 : I0 < 1000) : ∀ (d i : Nat) (x : DL) (n : Int), ValidD x → i + d = evs.length → x.mod = m → x.item ≤ I0 + i → Way L0 I0 j f n x →
    Ev (fun k => selfstablaw42_DatalinkAligns.l0 k I0 evs (i : Int) x.cap x.mod x.lab x.item x.last x.fr x.ak) true := by
  intro d
  induction d with
  | zero =>
    intro i x n hv hi hm hit hw
    refine Ev.step (fun k => by rw [selfstablaw42_DatalinkAligns.l0]) ?_
    simp only [if_neg (show ¬ (i : Int) < (evs.length : Int) by omega), valid_f hv, Option.bind_some]
    refine Ev.bind known_ev ?_
    exact Ev.now _
  | succ d ih =>
    intro i x n hv hi hm hit hw
    refine Ev.step (fun k => by rw [selfstablaw42_DatalinkAligns.l0]) ?_
    have hv' := stepD_valid hv (rd_T40 evs (i : Int)).f0 (rd_T40 evs (i : Int)).f1
    obtain ⟨n', _, hw'⟩ := way_step hv hj0 (by omega) (by omega) (by omega) hw (rd_T40 evs (i : Int)).f0 (rd_T40 evs (i : Int)).f1
    have hm' := (stepD_const x (rd_T40 evs (i : Int)).f0 (rd_T40 evs (i : Int)).f1).2.trans hm
    have hit' := (item_step hv (rd_T40 evs (i : Int)).f0 (rd_T40 evs (i : Int)).f1).2
    have ih' := ih (i + 1) _ n' hv' (by omega) hm' (by omega) hw'
    have hit0 := hv'.2.2.2.2.2.2.2.2.1
    simp only [if_pos (show (i : Int) < (evs.length : Int) by omega), if_pos (show 0 ≤ (i : Int) by omega), step_f hv, Option.bind_some, aligned_f hv', wrap_nat i (by omega)]
    generalize (stepD x (rd_T40 evs (i : Int)).f0 (rd_T40 evs (i : Int)).f1).1 = y at *
    have hw64 : wrap64 (y.item - I0) = y.item - I0 := wrap_id _ (by omega) (by omega)
    simp only [hw64]
    by_cases hg : y.item - I0 ≥ y.mod
    · have h2 := (alignB_iff hv').2 (way_aligned hw' (by omega) hg)
      simp only [if_pos hg, h2, if_true]
      exact ih'
    · simp only [if_neg hg]
      exact ih'
theorem Pure_DatalinkAligns : selfstablaw42_DatalinkAligns.Pure := by
  intro x0 x1 _ _
  refine Ev.rounds (g := fun k => selfstablaw42_DatalinkAligns.f k x0.f0 x0.f1 x0.f2 x0.f3 x0.f4 x0.f5 x0.f6 x0.f7 x1) ?_
  obtain ⟨x, V, hi, hneg, _, he⟩ := raw_ev x0.f0 x0.f1 x0.f2 x0.f3 x0.f4 x0.f5 x0.f6 x0.f7
  obtain ⟨evs, hl, hev⟩ := events_ln 250 (by omega) x1 250 0 [] (by omega) (by simp)
  obtain ⟨j, j0, j1, hway⟩ := way_start V hneg
  refine Ev.congr (fun k => by rw [selfstablaw42_DatalinkAligns.f]) ?_
  refine Ev.bind he ?_
  refine Ev.bind hev ?_
  exact aligns_l0 evs (by omega) x.lab x.item j _ x.mod j0 j1 rfl V.2.2.2.2.2.2.2.2.1 hi evs.length 0 x _ V (by omega) rfl (by omega) hway
end Go.Proofs.Ytdhkplfkbdldfaa.P
