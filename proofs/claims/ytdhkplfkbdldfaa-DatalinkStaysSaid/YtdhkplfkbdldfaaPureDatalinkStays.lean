/- DatalinkStays, the plain law. -/
import Derived.Test.YtdhkplfkbdldfaaSDatalinkStays
import Derived.Test.YtdhkplfkbdldfaaMAlign
namespace Go.Proofs.Ytdhkplfkbdldfaa.P
open Go.RowKit Go.Proofs.YtdhkplfkbdldfaaW.PrintWords Go.Proofs.YtdhkplfkbdldfaaW.PrintMore
set_option linter.unusedVariables false
theorem stays_l0 (evs : List S40) (hl : evs.length ≤ 1000) : ∀ (d i : Nat) (x : DL), ValidD x → i + d = evs.length →
    Ev (fun k => selfstablaw42_DatalinkStays.l0 k evs (i : Int) x.cap x.mod x.lab x.item x.last x.fr x.ak) true := by
  intro d
  induction d with
  | zero =>
    intro i x hv hi
    refine Ev.step (fun k => by rw [selfstablaw42_DatalinkStays.l0]) ?_
    simp only [if_neg (show ¬ (i : Int) < (evs.length : Int) by omega), valid_f hv, Option.bind_some]
    refine Ev.bind known_ev ?_
    exact Ev.now _
  | succ d ih =>
    intro i x hv hi
    refine Ev.step (fun k => by rw [selfstablaw42_DatalinkStays.l0]) ?_
    have hv' := stepD_valid hv (rd_T40 evs (i : Int)).f0 (rd_T40 evs (i : Int)).f1
    have ih' := ih (i + 1) _ hv' (by omega)
    simp only [if_pos (show (i : Int) < (evs.length : Int) by omega), if_pos (show 0 ≤ (i : Int) by omega), aligned_f hv, step_f hv, Option.bind_some, aligned_f hv', wrap_nat i (by omega)]
    cases ha : alignB x with
    | false => exact ih'
    | true =>
      have h2 := (alignB_iff hv').2 (aligned_step hv ((alignB_iff hv).1 ha) (rd_T40 evs (i : Int)).f0 (rd_T40 evs (i : Int)).f1)
      simp only [h2, if_true]
      exact ih'
theorem Pure_DatalinkStays : selfstablaw42_DatalinkStays.Pure := by
  intro x0 x1 _ _
  refine Ev.rounds (g := fun k => selfstablaw42_DatalinkStays.f k x0.f0 x0.f1 x0.f2 x0.f3 x0.f4 x0.f5 x0.f6 x0.f7 x1) ?_
  obtain ⟨x, V, _, _, _, he⟩ := raw_ev x0.f0 x0.f1 x0.f2 x0.f3 x0.f4 x0.f5 x0.f6 x0.f7
  obtain ⟨evs, hl, hev⟩ := events_ln 60 (by omega) x1 60 0 [] (by omega) (by simp)
  refine Ev.congr (fun k => by rw [selfstablaw42_DatalinkStays.f]) ?_
  refine Ev.bind he ?_
  refine Ev.bind hev ?_
  exact stays_l0 evs (by omega) evs.length 0 x V (by omega)
end Go.Proofs.Ytdhkplfkbdldfaa.P
