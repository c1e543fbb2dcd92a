/- DatalinkMoves, the plain law. -/
import Derived.Test.YtdhkplfkbdldfaaSDatalinkMoves
import Derived.Test.YtdhkplfkbdldfaaMRaw
import Derived.Test.YtdhkplfkbdldfaaP2
namespace Go.Proofs.Ytdhkplfkbdldfaa.P
open Go.RowKit Go.Proofs.YtdhkplfkbdldfaaW.PrintWords Go.Proofs.YtdhkplfkbdldfaaW.PrintMore
set_option linter.unusedVariables false
theorem known_ev : Ev (fun k => selfstablaw42_known.f k) true := Ev.of (fun k => selfstablaw42_known.mono k) (k := 30) (by decide +kernel)
theorem run3 (x : DL) (V : ValidD x) : datalink_Run.f x.cap x.mod x.lab x.item x.last x.fr x.ak [⟨2, 0⟩, ⟨3, 0⟩, ⟨1, 0⟩] = some ((cyc x).cap, (cyc x).mod, (cyc x).lab, (cyc x).item, (cyc x).last, (cyc x).fr, (cyc x).ak, (runD x [⟨2, 0⟩, ⟨3, 0⟩, ⟨1, 0⟩]).2) := by
  unfold datalink_Run.f
  rw [if_pos ⟨V, by decide⟩]
  rfl
theorem moves_l1 (x1 : Int) (j : Nat) (x0 : DL) (V : ValidD x0) (hi : x0.item < 1000000000) (hj : j < 1000)
    (hn : Ev (fun k => selfstablaw42_DatalinkMoves.l0 k x1 ((j + 1 : Nat) : Int) (cycN (2 * x0.cap).toNat x0).cap (cycN (2 * x0.cap).toNat x0).mod (cycN (2 * x0.cap).toNat x0).lab (cycN (2 * x0.cap).toNat x0).item (cycN (2 * x0.cap).toNat x0).last (cycN (2 * x0.cap).toNat x0).fr (cycN (2 * x0.cap).toNat x0).ak) true) :
    ∀ d i : Nat, i + d = (2 * x0.cap).toNat → Ev (fun k => selfstablaw42_DatalinkMoves.l1 k x1 (j : Int) x0.item (i : Int) (cycN i x0).cap (cycN i x0).mod (cycN i x0).lab (cycN i x0).item (cycN i x0).last (cycN i x0).fr (cycN i x0).ak) true := by
  have hc1 := V.1
  have hc2 := V.2.1
  intro d
  induction d with
  | zero =>
    intro i hi'
    have hcap := (cycN_valid V i).2.1
    refine Ev.step (fun k => by rw [selfstablaw42_DatalinkMoves.l1]) ?_
    have hw : wrap64 (2 * (cycN i x0).cap) = 2 * x0.cap := by rw [hcap]; exact wrap_id _ (by omega) (by omega)
    have hg := cyc_grows V hi
    have hii : i = (2 * x0.cap).toNat := by omega
    subst hii
    simp only [hw, if_neg (show ¬ (((2 * x0.cap).toNat : Nat) : Int) < 2 * x0.cap by omega), if_neg (show ¬ (cycN (2 * x0.cap).toNat x0).item ≤ x0.item by omega), wrap_nat j (by omega)]
    exact hn
  | succ d ih =>
    intro i hi'
    have hv := cycN_valid V i
    refine Ev.step (fun k => by rw [selfstablaw42_DatalinkMoves.l1]) ?_
    have hw : wrap64 (2 * (cycN i x0).cap) = 2 * x0.cap := by rw [hv.2.1]; exact wrap_id _ (by omega) (by omega)
    simp only [hw, if_pos (show (i : Int) < 2 * x0.cap by omega), run3 _ hv.1, Option.bind_some, wrap_nat i (by omega)]
    have := ih (i + 1) (by omega)
    rw [cycN_succ] at this
    exact this
theorem moves_l0 (x1 : Int) (hx : x1 ≤ 100) : ∀ (d j : Nat) (x : DL), ValidD x → (j : Int) + d = x1 → x.item + 100 * d ≤ 900000000 →
    Ev (fun k => selfstablaw42_DatalinkMoves.l0 k x1 (j : Int) x.cap x.mod x.lab x.item x.last x.fr x.ak) true := by
  intro d
  induction d with
  | zero =>
    intro j x V hj hb
    refine Ev.step (fun k => by rw [selfstablaw42_DatalinkMoves.l0]) ?_
    simp only [if_neg (show ¬ (j : Int) < x1 by omega)]
    exact Ev.bind known_ev (Ev.now _)
  | succ d ih =>
    intro j x V hj hb
    have hv := cycN_valid V (2 * x.cap).toNat
    have hc1 := V.1
    have hc2 := V.2.1
    refine Ev.step (fun k => by rw [selfstablaw42_DatalinkMoves.l0]) ?_
    simp only [if_pos (show (j : Int) < x1 by omega)]
    exact moves_l1 x1 j x V (by omega) (by omega) (ih (j + 1) _ hv.1 (by omega) (by have := hv.2.2.2; omega)) (2 * x.cap).toNat 0 (by omega)
theorem Pure_DatalinkMoves : selfstablaw42_DatalinkMoves.Pure := by
  intro x0 x1 _ _
  refine Ev.rounds (g := fun k => selfstablaw42_DatalinkMoves.f k x0.f0 x0.f1 x0.f2 x0.f3 x0.f4 x0.f5 x0.f6 x0.f7 x1) ?_
  obtain ⟨x, V, hi, _, _, he⟩ := raw_ev x0.f0 x0.f1 x0.f2 x0.f3 x0.f4 x0.f5 x0.f6 x0.f7
  obtain ⟨t, ht, t0, t1⟩ := within_some x1 8 (by omega) (by omega)
  refine Ev.congr (fun k => by rw [selfstablaw42_DatalinkMoves.f]) ?_
  refine Ev.bind he ?_
  have hw : wrap64 (1 + t) = 1 + t := wrap_id _ (by omega) (by omega)
  simp only [ht, Option.bind_some, hw]
  exact moves_l0 (1 + t) (by omega) (1 + t).toNat 0 x V (by omega) (by omega)
end Go.Proofs.Ytdhkplfkbdldfaa.P
