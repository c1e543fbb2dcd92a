/- Size, of the program and of the reference. -/
import Derived.Test.YtbpolpagcaacoaaMGraph2
import Derived.Test.YtbpolpagcaacoaaP6
import Derived.Test.YtbpolpagcaacoaaP10
namespace Go.Proofs.Ytbpolpagcaacoaa.P
open Go.RowKit Go.Proofs.YtbpolpagcaacoaaW.PrintWords Go.Proofs.YtbpolpagcaacoaaW.PrintMore
set_option linter.unusedVariables false
section
variable {ids : List Int} {P : List (List Lk)}
/-! ### Size, Tree -/
/-- The number of ports of the first i nodes. -/
def szN (P : List (List Lk)) : Nat → Nat
  | 0 => 0
  | i + 1 => szN P i + (prt P i).length
theorem szN_le (V : ValidG ids P) (i : Nat) : szN P i ≤ 24 * i := by
  induction i with
  | zero => exact Nat.le_refl _
  | succ i ih => have := links_len V i; simp only [szN]; omega
theorem size_l0 (V : ValidG ids P) : ∀ d i : Nat, i + d = P.length → Ev (fun k => graph_Size.l0 k (szN P i : Int) P (P.length : Int) (i : Int) ids P) ((P.length : Int), ((szN P P.length / 2 : Nat) : Int)) := by
  have hn := V.2.1
  intro d
  induction d with
  | zero =>
    intro i hi
    obtain rfl : i = P.length := by omega
    have := szN_le V P.length
    refine Ev.step (fun k => by rw [graph_Size.l0]) ?_
    simp only [if_neg (show ¬ (P.length : Int) < (P.length : Int) by omega)]
    rw [show (2 : Int) = ((2 : Nat) : Int) from rfl, ← Int.ofNat_tdiv, wrap_id _ (by omega) (by omega)]
    exact Ev.now _
  | succ d ih =>
    intro i hi
    have h1 := szN_le V i
    have h2 := links_len V i
    refine Ev.step (fun k => by rw [graph_Size.l0]) ?_
    simp only [if_pos (show (i : Int) < (P.length : Int) by omega), if_pos (show 0 ≤ (i : Int) by omega), wrap_nat i (by omega), rdR_prt]
    rw [wrap_id ((szN P i : Int) + ((prt P i).length : Int)) (by omega) (by omega), show (szN P i : Int) + ((prt P i).length : Int) = ((szN P (i + 1) : Nat) : Int) by simp [szN]]
    exact ih (i + 1) (by omega)
theorem refSize_l0 (V : ValidG ids P) : ∀ d i : Nat, i + d = P.length → Ev (fun k => selfstabref01_Size.l0 k (szN P i : Int) (i : Int) ids P) ((P.length : Int), ((szN P P.length / 2 : Nat) : Int)) := by
  have hn := V.2.1
  intro d
  induction d with
  | zero =>
    intro i hi
    obtain rfl : i = P.length := by omega
    have := szN_le V P.length
    refine Ev.step (fun k => by rw [selfstabref01_Size.l0]) ?_
    simp only [if_neg (show ¬ (P.length : Int) < (P.length : Int) by omega)]
    rw [show (2 : Int) = ((2 : Nat) : Int) from rfl, ← Int.ofNat_tdiv, wrap_id _ (by omega) (by omega)]
    exact Ev.now _
  | succ d ih =>
    intro i hi
    have h1 := szN_le V i
    have h2 := links_len V i
    refine Ev.step (fun k => by rw [selfstabref01_Size.l0]) ?_
    simp only [if_pos (show (i : Int) < (P.length : Int) by omega), if_pos (show 0 ≤ (i : Int) by omega), wrap_nat i (by omega), rdR_prt]
    rw [wrap_id ((szN P i : Int) + ((prt P i).length : Int)) (by omega) (by omega), show (szN P i : Int) + ((prt P i).length : Int) = ((szN P (i + 1) : Nat) : Int) by simp [szN]]
    exact ih (i + 1) (by omega)
def sizeG (ids : List Int) (P : List (List Lk)) : Int × Int := if validB ids P = true then ((P.length : Int), ((szN P P.length / 2 : Nat) : Int)) else (0, 0)
theorem size_ev : Ev (fun k => graph_Size.f k ids P) (sizeG ids P) := by
  unfold graph_Size.f graph_Valid.f sizeG
  simp only [Option.bind_some]
  by_cases h : validB ids P = true
  · simp only [if_pos h]
    exact size_l0 (validB_iff.1 h) _ 0 (Nat.zero_add _)
  · simp only [if_neg h]
    exact Ev.now _
theorem refSize_ev (hb : ∀ v, (prt P v).length < Big) : Ev (fun k => selfstabref01_Size.f k ids P) (sizeG ids P) := by
  unfold selfstabref01_Size.f sizeG
  refine Ev.bind (refValid_ev ids P hb) ?_
  by_cases h : validB ids P = true
  · simp only [if_pos h]
    exact refSize_l0 (validB_iff.1 h) _ 0 (Nat.zero_add _)
  · simp only [if_neg h]
    exact Ev.now _
end
end Go.Proofs.Ytbpolpagcaacoaa.P
