/- Plain words about graphs: what a valid graph is. No program in sight. -/
import Derived.Test.YtilmpkoklkgjeaaP0
namespace Go.Proofs.Ytilmpkoklkgjeaa.P
set_option linter.unusedVariables false

/-- A port: the neighbour and the weight. -/
abbrev Lk := S50
/-- The ports of node v. -/
def prt (P : List (List Lk)) (v : Nat) : List Lk := P.getD v []
def okIds (ids : List Int) : Prop := (∀ x ∈ ids, 0 ≤ x ∧ x ≤ 255) ∧ ids.Nodup
def okLinks (n v : Nat) (l : List Lk) : Prop := (∀ e ∈ l, 0 ≤ e.f0 ∧ e.f0 < n ∧ e.f0 ≠ v ∧ 1 ≤ e.f1 ∧ e.f1 ≤ 15) ∧ (l.map (·.f0)).Nodup
def okSym (P : List (List Lk)) : Prop := ∀ v, v < P.length → ∀ e ∈ prt P v, ∃ e' ∈ prt P e.f0.toNat, e'.f0 = (v : Int) ∧ e'.f1 = e.f1
/-- A valid graph. -/
def ValidG (ids : List Int) (P : List (List Lk)) : Prop :=
  1 ≤ P.length ∧ P.length ≤ 24 ∧ ids.length = P.length ∧ okIds ids ∧ (∀ v, v < P.length → okLinks P.length v (prt P v)) ∧ okSym P
instance (ids : List Int) : Decidable (okIds ids) := by unfold okIds; infer_instance
instance (n v : Nat) (l : List Lk) : Decidable (okLinks n v l) := by unfold okLinks; infer_instance
instance (P : List (List Lk)) : Decidable (okSym P) := by unfold okSym; infer_instance
instance (ids : List Int) (P : List (List Lk)) : Decidable (ValidG ids P) := by unfold ValidG; infer_instance
def validB (ids : List Int) (P : List (List Lk)) : Bool := decide (ValidG ids P)
theorem validB_true {ids : List Int} {P : List (List Lk)} (h : ValidG ids P) : validB ids P = true := decide_eq_true h
theorem validB_false {ids : List Int} {P : List (List Lk)} (h : ¬ ValidG ids P) : validB ids P = false := decide_eq_false h
/-- The function of the program that says whether a graph is valid, as the printed callers name it. -/
def graph_Valid.f (l0_0 : List Int) (l0_1 : List (List Lk)) : Option Bool := some (validB l0_0 l0_1)

end Go.Proofs.Ytilmpkoklkgjeaa.P
