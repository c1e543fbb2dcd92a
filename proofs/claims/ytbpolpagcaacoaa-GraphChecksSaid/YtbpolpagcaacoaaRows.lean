/-
  No cell of these rows narrows 'for every input' (looked for: loops, veiled, ifaces, maps, wideKeys, modest, calm, conditions, laid).
  DERIVED. THE GIVEN ROWS OF THIS SEAT. 8 by the template 'for every input the law returns true; each argument reads behind the call as it read before'; 0 by the template 'total and deterministic' (their statements: YtbpolpagcaacoaaTotals.lean).
  GIVEN WITH THE SEED: the statements are not yours to turn. If you find one false, say at which input.
  Laid BY PROGRAM, IN A SANDBOX (cutbox-rows.mjs): the forced cells as the released guide's own fill.sh prints them over the translation ef2f9995ddf1f4b2… (all of the seat's roots in one cut). By AI agents, Wed Nov 11 2026. No macro, syntax, notation, axiom, sorry.
-/
import Derived.Test.YtbpolpagcaacoaaChecked
import GoSem.Claim
import GoSem.ClaimJoined
import GoSem.ClaimMapViews
import Derived.JoinedTies
import Derived.KernelRfl
namespace Go.Proofs.Ytbpolpagcaacoaa
/- THE CELL 'sum', in the pinned program and in every row, IS THE sha256 OF THE DUMP (.gsa) THAT YtbpolpagcaacoaaProg.lean LOADS. Nothing in Lean hashes anything: it is a label: what it is worth is what the hold of that sum in a sandbox is worth. -/
noncomputable def Try.pinned : Pinned := { name := "ytbpolpagcaacoaa", sum := "ef2f9995ddf1f4b2fbdd981b26c36d1063d89377e78c90f6a5ed53a073b024f3", checked := Try.checked }
namespace Rows
def none {H : Type} : Left H := { results := [], args := [] }

/-- 'selfstablaw01.GraphDistancesAreSteps': WHATEVER THE INPUT: true; the input reads as it did. -/
def graphDistancesAreStepsSpec : ChangeSpec := { name := "graphDistancesAreSteps", fn := fun _ => fun
  | [d1, d2] => { results := [.lit (.bool true)], args := [d1, d2] }
  | _ => none }
def graphDistancesAreStepsRow : OpenClaim := { program := "ytbpolpagcaacoaa", sum := "ef2f9995ddf1f4b2fbdd981b26c36d1063d89377e78c90f6a5ed53a073b024f3", func := "selfstab/selfstablaw01.GraphDistancesAreSteps", spec := "graphDistancesAreSteps", plainKeys := false, apart := false }
def GraphDistancesAreStepsSaid : Prop := graphDistancesAreStepsRow.holds Try.pinned (OpenSpec.ofChange graphDistancesAreStepsSpec)

/-- ITS FALSE NEIGHBOUR: 'it returns false'. Refute it at one input. -/
def graphDistancesAreStepsWrong : ChangeSpec := { name := "graphDistancesAreSteps", fn := fun _ => fun
  | [d1, d2] => { results := [.lit (.bool false)], args := [d1, d2] }
  | _ => none }
def GraphDistancesAreStepsWrongFalsely : Prop := graphDistancesAreStepsRow.holds Try.pinned (OpenSpec.ofChange graphDistancesAreStepsWrong)

/-- 'selfstablaw01.GraphDistancesAreAMetric': WHATEVER THE INPUT: true; the input reads as it did. -/
def graphDistancesAreAMetricSpec : ChangeSpec := { name := "graphDistancesAreAMetric", fn := fun _ => fun
  | [d1, d2, d3, d4] => { results := [.lit (.bool true)], args := [d1, d2, d3, d4] }
  | _ => none }
def graphDistancesAreAMetricRow : OpenClaim := { program := "ytbpolpagcaacoaa", sum := "ef2f9995ddf1f4b2fbdd981b26c36d1063d89377e78c90f6a5ed53a073b024f3", func := "selfstab/selfstablaw01.GraphDistancesAreAMetric", spec := "graphDistancesAreAMetric", plainKeys := false, apart := false }
def GraphDistancesAreAMetricSaid : Prop := graphDistancesAreAMetricRow.holds Try.pinned (OpenSpec.ofChange graphDistancesAreAMetricSpec)

/-- ITS FALSE NEIGHBOUR: 'it returns false'. Refute it at one input. -/
def graphDistancesAreAMetricWrong : ChangeSpec := { name := "graphDistancesAreAMetric", fn := fun _ => fun
  | [d1, d2, d3, d4] => { results := [.lit (.bool false)], args := [d1, d2, d3, d4] }
  | _ => none }
def GraphDistancesAreAMetricWrongFalsely : Prop := graphDistancesAreAMetricRow.holds Try.pinned (OpenSpec.ofChange graphDistancesAreAMetricWrong)

/-- 'selfstablaw01.GraphEccentricities': WHATEVER THE INPUT: true; the input reads as it did. -/
def graphEccentricitiesSpec : ChangeSpec := { name := "graphEccentricities", fn := fun _ => fun
  | [d] => { results := [.lit (.bool true)], args := [d] }
  | _ => none }
def graphEccentricitiesRow : OpenClaim := { program := "ytbpolpagcaacoaa", sum := "ef2f9995ddf1f4b2fbdd981b26c36d1063d89377e78c90f6a5ed53a073b024f3", func := "selfstab/selfstablaw01.GraphEccentricities", spec := "graphEccentricities", plainKeys := false, apart := false }
def GraphEccentricitiesSaid : Prop := graphEccentricitiesRow.holds Try.pinned (OpenSpec.ofChange graphEccentricitiesSpec)

/-- ITS FALSE NEIGHBOUR: 'it returns false'. Refute it at one input. -/
def graphEccentricitiesWrong : ChangeSpec := { name := "graphEccentricities", fn := fun _ => fun
  | [d] => { results := [.lit (.bool false)], args := [d] }
  | _ => none }
def GraphEccentricitiesWrongFalsely : Prop := graphEccentricitiesRow.holds Try.pinned (OpenSpec.ofChange graphEccentricitiesWrong)

/-- 'selfstablaw01.GraphBackIsMutual': WHATEVER THE INPUT: true; the input reads as it did. -/
def graphBackIsMutualSpec : ChangeSpec := { name := "graphBackIsMutual", fn := fun _ => fun
  | [d] => { results := [.lit (.bool true)], args := [d] }
  | _ => none }
def graphBackIsMutualRow : OpenClaim := { program := "ytbpolpagcaacoaa", sum := "ef2f9995ddf1f4b2fbdd981b26c36d1063d89377e78c90f6a5ed53a073b024f3", func := "selfstab/selfstablaw01.GraphBackIsMutual", spec := "graphBackIsMutual", plainKeys := false, apart := false }
def GraphBackIsMutualSaid : Prop := graphBackIsMutualRow.holds Try.pinned (OpenSpec.ofChange graphBackIsMutualSpec)

/-- ITS FALSE NEIGHBOUR: 'it returns false'. Refute it at one input. -/
def graphBackIsMutualWrong : ChangeSpec := { name := "graphBackIsMutual", fn := fun _ => fun
  | [d] => { results := [.lit (.bool false)], args := [d] }
  | _ => none }
def GraphBackIsMutualWrongFalsely : Prop := graphBackIsMutualRow.holds Try.pinned (OpenSpec.ofChange graphBackIsMutualWrong)

/-- 'selfstablaw01.GraphMeasures': WHATEVER THE INPUT: true; the input reads as it did. -/
def graphMeasuresSpec : ChangeSpec := { name := "graphMeasures", fn := fun _ => fun
  | [d1, d2] => { results := [.lit (.bool true)], args := [d1, d2] }
  | _ => none }
def graphMeasuresRow : OpenClaim := { program := "ytbpolpagcaacoaa", sum := "ef2f9995ddf1f4b2fbdd981b26c36d1063d89377e78c90f6a5ed53a073b024f3", func := "selfstab/selfstablaw01.GraphMeasures", spec := "graphMeasures", plainKeys := false, apart := false }
def GraphMeasuresSaid : Prop := graphMeasuresRow.holds Try.pinned (OpenSpec.ofChange graphMeasuresSpec)

/-- ITS FALSE NEIGHBOUR: 'it returns false'. Refute it at one input. -/
def graphMeasuresWrong : ChangeSpec := { name := "graphMeasures", fn := fun _ => fun
  | [d1, d2] => { results := [.lit (.bool false)], args := [d1, d2] }
  | _ => none }
def GraphMeasuresWrongFalsely : Prop := graphMeasuresRow.holds Try.pinned (OpenSpec.ofChange graphMeasuresWrong)

/-- 'selfstablaw01.GraphTreesHaveLeaves': WHATEVER THE INPUT: true; the input reads as it did. -/
def graphTreesHaveLeavesSpec : ChangeSpec := { name := "graphTreesHaveLeaves", fn := fun _ => fun
  | [d] => { results := [.lit (.bool true)], args := [d] }
  | _ => none }
def graphTreesHaveLeavesRow : OpenClaim := { program := "ytbpolpagcaacoaa", sum := "ef2f9995ddf1f4b2fbdd981b26c36d1063d89377e78c90f6a5ed53a073b024f3", func := "selfstab/selfstablaw01.GraphTreesHaveLeaves", spec := "graphTreesHaveLeaves", plainKeys := false, apart := false }
def GraphTreesHaveLeavesSaid : Prop := graphTreesHaveLeavesRow.holds Try.pinned (OpenSpec.ofChange graphTreesHaveLeavesSpec)

/-- ITS FALSE NEIGHBOUR: 'it returns false'. Refute it at one input. -/
def graphTreesHaveLeavesWrong : ChangeSpec := { name := "graphTreesHaveLeaves", fn := fun _ => fun
  | [d] => { results := [.lit (.bool false)], args := [d] }
  | _ => none }
def GraphTreesHaveLeavesWrongFalsely : Prop := graphTreesHaveLeavesRow.holds Try.pinned (OpenSpec.ofChange graphTreesHaveLeavesWrong)

/-- 'selfstablaw01.GraphIndependentParts': WHATEVER THE INPUT: true; the input reads as it did. -/
def graphIndependentPartsSpec : ChangeSpec := { name := "graphIndependentParts", fn := fun _ => fun
  | [d1, d2, d3] => { results := [.lit (.bool true)], args := [d1, d2, d3] }
  | _ => none }
def graphIndependentPartsRow : OpenClaim := { program := "ytbpolpagcaacoaa", sum := "ef2f9995ddf1f4b2fbdd981b26c36d1063d89377e78c90f6a5ed53a073b024f3", func := "selfstab/selfstablaw01.GraphIndependentParts", spec := "graphIndependentParts", plainKeys := false, apart := false }
def GraphIndependentPartsSaid : Prop := graphIndependentPartsRow.holds Try.pinned (OpenSpec.ofChange graphIndependentPartsSpec)

/-- ITS FALSE NEIGHBOUR: 'it returns false'. Refute it at one input. -/
def graphIndependentPartsWrong : ChangeSpec := { name := "graphIndependentParts", fn := fun _ => fun
  | [d1, d2, d3] => { results := [.lit (.bool false)], args := [d1, d2, d3] }
  | _ => none }
def GraphIndependentPartsWrongFalsely : Prop := graphIndependentPartsRow.holds Try.pinned (OpenSpec.ofChange graphIndependentPartsWrong)

/-- 'selfstablaw01.GraphChecks': WHATEVER THE INPUT: true; the input reads as it did. -/
def graphChecksSpec : ChangeSpec := { name := "graphChecks", fn := fun _ => fun
  | [d1, d2, d3, d4] => { results := [.lit (.bool true)], args := [d1, d2, d3, d4] }
  | _ => none }
def graphChecksRow : OpenClaim := { program := "ytbpolpagcaacoaa", sum := "ef2f9995ddf1f4b2fbdd981b26c36d1063d89377e78c90f6a5ed53a073b024f3", func := "selfstab/selfstablaw01.GraphChecks", spec := "graphChecks", plainKeys := false, apart := false }
def GraphChecksSaid : Prop := graphChecksRow.holds Try.pinned (OpenSpec.ofChange graphChecksSpec)

/-- ITS FALSE NEIGHBOUR: 'it returns false'. Refute it at one input. -/
def graphChecksWrong : ChangeSpec := { name := "graphChecks", fn := fun _ => fun
  | [d1, d2, d3, d4] => { results := [.lit (.bool false)], args := [d1, d2, d3, d4] }
  | _ => none }
def GraphChecksWrongFalsely : Prop := graphChecksRow.holds Try.pinned (OpenSpec.ofChange graphChecksWrong)

/- THE SECOND FORM. 'bulk': how many values and letters a reading holds, each counted each time it is reached (what is shared counts as often as it is met; a slice's spare places count too). A statement '..UptoSaid' is the law's where the arguments, and the package variables that the reading takes, are together of bulk at most 1048576: NARROWER than '..Said'. Prove '..Said' where nothing that the law and all that it calls make is longer than what came in: it says more and counts as full. Else prove '..UptoSaid'. A law counts once. -/
mutual
def uptoBulk {H : Type} : DataW H → Nat
  | .lit (.string bytes) => bytes.length + 1
  | .lit _ => 1
  | .nil => 1
  | .ptr d => uptoBulk d + 1
  | .slice elems spare => uptoBulkAll elems + uptoBulkAll spare + 1
  | .agg parts => uptoBulkAll parts + 1
  | .iface _ d => uptoBulk d + 1
  | .map entries => uptoBulkEntries entries + 1
  | .held _ => 1
def uptoBulkAll {H : Type} : List (DataW H) → Nat
  | [] => 0
  | d :: r => uptoBulk d + uptoBulkAll r
def uptoBulkEntries {H : Type} : List (Lit × DataW H) → Nat
  | [] => 0
  | x :: r => uptoBulkEntry x + uptoBulkEntries r
def uptoBulkEntry {H : Type} : Lit × DataW H → Nat
  | (.string bytes, d) => bytes.length + uptoBulk d + 1
  | (_, d) => uptoBulk d + 1
 end
def uptoSmall : (H : Type) → List (DataW H) → Bool := fun _ ds => decide (uptoBulkAll ds ≤ 1048576)
def OpenSpec.upto (s : _root_.Go.ChangeSpec) : _root_.Go.OpenSpec := { _root_.Go.OpenSpec.ofChange s with cond := some uptoSmall }

/-- 'selfstablaw01.GraphDistancesAreSteps', WHERE WHAT IT READS IS OF BULK AT MOST 1048576: true; the input reads as it did. -/
def graphDistancesAreStepsUptoRow : OpenClaim := { program := "ytbpolpagcaacoaa", sum := "ef2f9995ddf1f4b2fbdd981b26c36d1063d89377e78c90f6a5ed53a073b024f3", func := "selfstab/selfstablaw01.GraphDistancesAreSteps", spec := "graphDistancesAreSteps", plainKeys := false, apart := false, narrowed := true }
def GraphDistancesAreStepsUptoSaid : Prop := graphDistancesAreStepsUptoRow.holds Try.pinned (OpenSpec.upto graphDistancesAreStepsSpec)

/-- 'selfstablaw01.GraphDistancesAreAMetric', WHERE WHAT IT READS IS OF BULK AT MOST 1048576: true; the input reads as it did. -/
def graphDistancesAreAMetricUptoRow : OpenClaim := { program := "ytbpolpagcaacoaa", sum := "ef2f9995ddf1f4b2fbdd981b26c36d1063d89377e78c90f6a5ed53a073b024f3", func := "selfstab/selfstablaw01.GraphDistancesAreAMetric", spec := "graphDistancesAreAMetric", plainKeys := false, apart := false, narrowed := true }
def GraphDistancesAreAMetricUptoSaid : Prop := graphDistancesAreAMetricUptoRow.holds Try.pinned (OpenSpec.upto graphDistancesAreAMetricSpec)

/-- 'selfstablaw01.GraphEccentricities', WHERE WHAT IT READS IS OF BULK AT MOST 1048576: true; the input reads as it did. -/
def graphEccentricitiesUptoRow : OpenClaim := { program := "ytbpolpagcaacoaa", sum := "ef2f9995ddf1f4b2fbdd981b26c36d1063d89377e78c90f6a5ed53a073b024f3", func := "selfstab/selfstablaw01.GraphEccentricities", spec := "graphEccentricities", plainKeys := false, apart := false, narrowed := true }
def GraphEccentricitiesUptoSaid : Prop := graphEccentricitiesUptoRow.holds Try.pinned (OpenSpec.upto graphEccentricitiesSpec)

/-- 'selfstablaw01.GraphBackIsMutual', WHERE WHAT IT READS IS OF BULK AT MOST 1048576: true; the input reads as it did. -/
def graphBackIsMutualUptoRow : OpenClaim := { program := "ytbpolpagcaacoaa", sum := "ef2f9995ddf1f4b2fbdd981b26c36d1063d89377e78c90f6a5ed53a073b024f3", func := "selfstab/selfstablaw01.GraphBackIsMutual", spec := "graphBackIsMutual", plainKeys := false, apart := false, narrowed := true }
def GraphBackIsMutualUptoSaid : Prop := graphBackIsMutualUptoRow.holds Try.pinned (OpenSpec.upto graphBackIsMutualSpec)

/-- 'selfstablaw01.GraphMeasures', WHERE WHAT IT READS IS OF BULK AT MOST 1048576: true; the input reads as it did. -/
def graphMeasuresUptoRow : OpenClaim := { program := "ytbpolpagcaacoaa", sum := "ef2f9995ddf1f4b2fbdd981b26c36d1063d89377e78c90f6a5ed53a073b024f3", func := "selfstab/selfstablaw01.GraphMeasures", spec := "graphMeasures", plainKeys := false, apart := false, narrowed := true }
def GraphMeasuresUptoSaid : Prop := graphMeasuresUptoRow.holds Try.pinned (OpenSpec.upto graphMeasuresSpec)

/-- 'selfstablaw01.GraphTreesHaveLeaves', WHERE WHAT IT READS IS OF BULK AT MOST 1048576: true; the input reads as it did. -/
def graphTreesHaveLeavesUptoRow : OpenClaim := { program := "ytbpolpagcaacoaa", sum := "ef2f9995ddf1f4b2fbdd981b26c36d1063d89377e78c90f6a5ed53a073b024f3", func := "selfstab/selfstablaw01.GraphTreesHaveLeaves", spec := "graphTreesHaveLeaves", plainKeys := false, apart := false, narrowed := true }
def GraphTreesHaveLeavesUptoSaid : Prop := graphTreesHaveLeavesUptoRow.holds Try.pinned (OpenSpec.upto graphTreesHaveLeavesSpec)

/-- 'selfstablaw01.GraphIndependentParts', WHERE WHAT IT READS IS OF BULK AT MOST 1048576: true; the input reads as it did. -/
def graphIndependentPartsUptoRow : OpenClaim := { program := "ytbpolpagcaacoaa", sum := "ef2f9995ddf1f4b2fbdd981b26c36d1063d89377e78c90f6a5ed53a073b024f3", func := "selfstab/selfstablaw01.GraphIndependentParts", spec := "graphIndependentParts", plainKeys := false, apart := false, narrowed := true }
def GraphIndependentPartsUptoSaid : Prop := graphIndependentPartsUptoRow.holds Try.pinned (OpenSpec.upto graphIndependentPartsSpec)

/-- 'selfstablaw01.GraphChecks', WHERE WHAT IT READS IS OF BULK AT MOST 1048576: true; the input reads as it did. -/
def graphChecksUptoRow : OpenClaim := { program := "ytbpolpagcaacoaa", sum := "ef2f9995ddf1f4b2fbdd981b26c36d1063d89377e78c90f6a5ed53a073b024f3", func := "selfstab/selfstablaw01.GraphChecks", spec := "graphChecks", plainKeys := false, apart := false, narrowed := true }
def GraphChecksUptoSaid : Prop := graphChecksUptoRow.holds Try.pinned (OpenSpec.upto graphChecksSpec)

end Rows
end Go.Proofs.Ytbpolpagcaacoaa
