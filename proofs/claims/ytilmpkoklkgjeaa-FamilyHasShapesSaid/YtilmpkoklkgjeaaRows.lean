/-
  No cell of these rows narrows 'for every input' (looked for: loops, veiled, ifaces, maps, wideKeys, modest, calm, conditions, laid).
  DERIVED. THE GIVEN ROWS OF THIS SEAT. 7 by the template 'for every input the law returns true; each argument reads behind the call as it read before'; 0 by the template 'total and deterministic' (their statements: YtilmpkoklkgjeaaTotals.lean).
  GIVEN WITH THE SEED: the statements are not yours to turn. If you find one false, say at which input.
  Laid BY PROGRAM, IN A SANDBOX (cutbox-rows.mjs): the forced cells as the released guide's own fill.sh prints them over the translation b1f63d70e9c28e03… (all of the seat's roots in one cut). By AI agents, Wed Nov 11 2026. No macro, syntax, notation, axiom, sorry.
-/
import Derived.Test.YtilmpkoklkgjeaaChecked
import GoSem.Claim
import GoSem.ClaimJoined
import GoSem.ClaimMapViews
import Derived.JoinedTies
import Derived.KernelRfl
namespace Go.Proofs.Ytilmpkoklkgjeaa
/- THE CELL 'sum', in the pinned program and in every row, IS THE sha256 OF THE DUMP (.gsa) THAT YtilmpkoklkgjeaaProg.lean LOADS. Nothing in Lean hashes anything: it is a label: what it is worth is what the hold of that sum in a sandbox is worth. -/
noncomputable def Try.pinned : Pinned := { name := "ytilmpkoklkgjeaa", sum := "b1f63d70e9c28e0333e6e882a559706e6f54848eb75e2f8b78fae0166affa52a", checked := Try.checked }
namespace Rows
def none {H : Type} : Left H := { results := [], args := [] }

/-- 'selfstablaw03.FamilyMakes': WHATEVER THE INPUT: true; the input reads as it did. -/
def familyMakesSpec : ChangeSpec := { name := "familyMakes", fn := fun _ => fun
  | [d1, d2, d3, d4] => { results := [.lit (.bool true)], args := [d1, d2, d3, d4] }
  | _ => none }
def familyMakesRow : OpenClaim := { program := "ytilmpkoklkgjeaa", sum := "b1f63d70e9c28e0333e6e882a559706e6f54848eb75e2f8b78fae0166affa52a", func := "selfstab/selfstablaw03.FamilyMakes", spec := "familyMakes", unfollowed := true, recurses := true, plainKeys := false, apart := false }
def FamilyMakesSaid : Prop := familyMakesRow.holds Try.pinned (OpenSpec.ofChange familyMakesSpec)

/-- ITS FALSE NEIGHBOUR: 'it returns false'. Refute it at one input. -/
def familyMakesWrong : ChangeSpec := { name := "familyMakes", fn := fun _ => fun
  | [d1, d2, d3, d4] => { results := [.lit (.bool false)], args := [d1, d2, d3, d4] }
  | _ => none }
def FamilyMakesWrongFalsely : Prop := familyMakesRow.holds Try.pinned (OpenSpec.ofChange familyMakesWrong)

/-- 'selfstablaw03.FamilyRenames': WHATEVER THE INPUT: true; the input reads as it did. -/
def familyRenamesSpec : ChangeSpec := { name := "familyRenames", fn := fun _ => fun
  | [d1, d2, d3] => { results := [.lit (.bool true)], args := [d1, d2, d3] }
  | _ => none }
def familyRenamesRow : OpenClaim := { program := "ytilmpkoklkgjeaa", sum := "b1f63d70e9c28e0333e6e882a559706e6f54848eb75e2f8b78fae0166affa52a", func := "selfstab/selfstablaw03.FamilyRenames", spec := "familyRenames", plainKeys := false, apart := false }
def FamilyRenamesSaid : Prop := familyRenamesRow.holds Try.pinned (OpenSpec.ofChange familyRenamesSpec)

/-- ITS FALSE NEIGHBOUR: 'it returns false'. Refute it at one input. -/
def familyRenamesWrong : ChangeSpec := { name := "familyRenames", fn := fun _ => fun
  | [d1, d2, d3] => { results := [.lit (.bool false)], args := [d1, d2, d3] }
  | _ => none }
def FamilyRenamesWrongFalsely : Prop := familyRenamesRow.holds Try.pinned (OpenSpec.ofChange familyRenamesWrong)

/-- 'selfstablaw03.FamilyRelabelsBack': WHATEVER THE INPUT: true; the input reads as it did. -/
def familyRelabelsBackSpec : ChangeSpec := { name := "familyRelabelsBack", fn := fun _ => fun
  | [d1, d2, d3] => { results := [.lit (.bool true)], args := [d1, d2, d3] }
  | _ => none }
def familyRelabelsBackRow : OpenClaim := { program := "ytilmpkoklkgjeaa", sum := "b1f63d70e9c28e0333e6e882a559706e6f54848eb75e2f8b78fae0166affa52a", func := "selfstab/selfstablaw03.FamilyRelabelsBack", spec := "familyRelabelsBack", plainKeys := false, apart := false }
def FamilyRelabelsBackSaid : Prop := familyRelabelsBackRow.holds Try.pinned (OpenSpec.ofChange familyRelabelsBackSpec)

/-- ITS FALSE NEIGHBOUR: 'it returns false'. Refute it at one input. -/
def familyRelabelsBackWrong : ChangeSpec := { name := "familyRelabelsBack", fn := fun _ => fun
  | [d1, d2, d3] => { results := [.lit (.bool false)], args := [d1, d2, d3] }
  | _ => none }
def FamilyRelabelsBackWrongFalsely : Prop := familyRelabelsBackRow.holds Try.pinned (OpenSpec.ofChange familyRelabelsBackWrong)

/-- 'selfstablaw03.FamilyChanges': WHATEVER THE INPUT: true; the input reads as it did. -/
def familyChangesSpec : ChangeSpec := { name := "familyChanges", fn := fun _ => fun
  | [d1, d2, d3, d4] => { results := [.lit (.bool true)], args := [d1, d2, d3, d4] }
  | _ => none }
def familyChangesRow : OpenClaim := { program := "ytilmpkoklkgjeaa", sum := "b1f63d70e9c28e0333e6e882a559706e6f54848eb75e2f8b78fae0166affa52a", func := "selfstab/selfstablaw03.FamilyChanges", spec := "familyChanges", unfollowed := true, recurses := true, plainKeys := false, apart := false }
def FamilyChangesSaid : Prop := familyChangesRow.holds Try.pinned (OpenSpec.ofChange familyChangesSpec)

/-- ITS FALSE NEIGHBOUR: 'it returns false'. Refute it at one input. -/
def familyChangesWrong : ChangeSpec := { name := "familyChanges", fn := fun _ => fun
  | [d1, d2, d3, d4] => { results := [.lit (.bool false)], args := [d1, d2, d3, d4] }
  | _ => none }
def FamilyChangesWrongFalsely : Prop := familyChangesRow.holds Try.pinned (OpenSpec.ofChange familyChangesWrong)

/-- 'selfstablaw03.FamilyTreesFollowParents': WHATEVER THE INPUT: true; the input reads as it did. -/
def familyTreesFollowParentsSpec : ChangeSpec := { name := "familyTreesFollowParents", fn := fun _ => fun
  | [d] => { results := [.lit (.bool true)], args := [d] }
  | _ => none }
def familyTreesFollowParentsRow : OpenClaim := { program := "ytilmpkoklkgjeaa", sum := "b1f63d70e9c28e0333e6e882a559706e6f54848eb75e2f8b78fae0166affa52a", func := "selfstab/selfstablaw03.FamilyTreesFollowParents", spec := "familyTreesFollowParents", unfollowed := true, recurses := true, plainKeys := false, apart := false }
def FamilyTreesFollowParentsSaid : Prop := familyTreesFollowParentsRow.holds Try.pinned (OpenSpec.ofChange familyTreesFollowParentsSpec)

/-- ITS FALSE NEIGHBOUR: 'it returns false'. Refute it at one input. -/
def familyTreesFollowParentsWrong : ChangeSpec := { name := "familyTreesFollowParents", fn := fun _ => fun
  | [d] => { results := [.lit (.bool false)], args := [d] }
  | _ => none }
def FamilyTreesFollowParentsWrongFalsely : Prop := familyTreesFollowParentsRow.holds Try.pinned (OpenSpec.ofChange familyTreesFollowParentsWrong)

/-- 'selfstablaw03.FamilyHasShapes': WHATEVER THE INPUT: true; the input reads as it did. -/
def familyHasShapesSpec : ChangeSpec := { name := "familyHasShapes", fn := fun _ => fun
  | [d1, d2, d3] => { results := [.lit (.bool true)], args := [d1, d2, d3] }
  | _ => none }
def familyHasShapesRow : OpenClaim := { program := "ytilmpkoklkgjeaa", sum := "b1f63d70e9c28e0333e6e882a559706e6f54848eb75e2f8b78fae0166affa52a", func := "selfstab/selfstablaw03.FamilyHasShapes", spec := "familyHasShapes", unfollowed := true, recurses := true, plainKeys := false, apart := false }
def FamilyHasShapesSaid : Prop := familyHasShapesRow.holds Try.pinned (OpenSpec.ofChange familyHasShapesSpec)

/-- ITS FALSE NEIGHBOUR: 'it returns false'. Refute it at one input. -/
def familyHasShapesWrong : ChangeSpec := { name := "familyHasShapes", fn := fun _ => fun
  | [d1, d2, d3] => { results := [.lit (.bool false)], args := [d1, d2, d3] }
  | _ => none }
def FamilyHasShapesWrongFalsely : Prop := familyHasShapesRow.holds Try.pinned (OpenSpec.ofChange familyHasShapesWrong)

/-- 'selfstablaw03.FamilyCutsBack': WHATEVER THE INPUT: true; the input reads as it did. -/
def familyCutsBackSpec : ChangeSpec := { name := "familyCutsBack", fn := fun _ => fun
  | [d1, d2, d3, d4, d5] => { results := [.lit (.bool true)], args := [d1, d2, d3, d4, d5] }
  | _ => none }
def familyCutsBackRow : OpenClaim := { program := "ytilmpkoklkgjeaa", sum := "b1f63d70e9c28e0333e6e882a559706e6f54848eb75e2f8b78fae0166affa52a", func := "selfstab/selfstablaw03.FamilyCutsBack", spec := "familyCutsBack", unfollowed := true, recurses := true, plainKeys := false, apart := false }
def FamilyCutsBackSaid : Prop := familyCutsBackRow.holds Try.pinned (OpenSpec.ofChange familyCutsBackSpec)

/-- ITS FALSE NEIGHBOUR: 'it returns false'. Refute it at one input. -/
def familyCutsBackWrong : ChangeSpec := { name := "familyCutsBack", fn := fun _ => fun
  | [d1, d2, d3, d4, d5] => { results := [.lit (.bool false)], args := [d1, d2, d3, d4, d5] }
  | _ => none }
def FamilyCutsBackWrongFalsely : Prop := familyCutsBackRow.holds Try.pinned (OpenSpec.ofChange familyCutsBackWrong)

/- THE SECOND FORM. 'bulk': how many values and letters a reading holds, each counted each time it is reached (what is shared counts as often as it is met; a slice's spare places count too). A statement '..UptoSaid' is the law's where the arguments, and the package variables that the reading takes, are together of bulk at most 1048576: NARROWER than '..Said'. Prove '..Said' where nothing that the law and all that it calls make is longer than what came in: it says more and counts as full. Else prove '..UptoSaid'. A law counts once. -/
mutual
def uptoBulk {H : Type} : DataW H → Nat
  | .lit (.string bytes) => bytes.length + 1
  | .lit _ => 1
  | .nil => 1
  | .ptr d => uptoBulk d + 1
  | .slice elems spare => uptoBulkAll elems + uptoBulkAll spare + 1
  | .agg parts => uptoBulkAll parts + 1
  | .iface _ d => uptoBulk d + 1
  | .map entries => uptoBulkEntries entries + 1
  | .held _ => 1
def uptoBulkAll {H : Type} : List (DataW H) → Nat
  | [] => 0
  | d :: r => uptoBulk d + uptoBulkAll r
def uptoBulkEntries {H : Type} : List (Lit × DataW H) → Nat
  | [] => 0
  | x :: r => uptoBulkEntry x + uptoBulkEntries r
def uptoBulkEntry {H : Type} : Lit × DataW H → Nat
  | (.string bytes, d) => bytes.length + uptoBulk d + 1
  | (_, d) => uptoBulk d + 1
 end
def uptoSmall : (H : Type) → List (DataW H) → Bool := fun _ ds => decide (uptoBulkAll ds ≤ 1048576)
def OpenSpec.upto (s : _root_.Go.ChangeSpec) : _root_.Go.OpenSpec := { _root_.Go.OpenSpec.ofChange s with cond := some uptoSmall }

/-- 'selfstablaw03.FamilyMakes', WHERE WHAT IT READS IS OF BULK AT MOST 1048576: true; the input reads as it did. -/
def familyMakesUptoRow : OpenClaim := { program := "ytilmpkoklkgjeaa", sum := "b1f63d70e9c28e0333e6e882a559706e6f54848eb75e2f8b78fae0166affa52a", func := "selfstab/selfstablaw03.FamilyMakes", spec := "familyMakes", unfollowed := true, recurses := true, plainKeys := false, apart := false, narrowed := true }
def FamilyMakesUptoSaid : Prop := familyMakesUptoRow.holds Try.pinned (OpenSpec.upto familyMakesSpec)

/-- 'selfstablaw03.FamilyRenames', WHERE WHAT IT READS IS OF BULK AT MOST 1048576: true; the input reads as it did. -/
def familyRenamesUptoRow : OpenClaim := { program := "ytilmpkoklkgjeaa", sum := "b1f63d70e9c28e0333e6e882a559706e6f54848eb75e2f8b78fae0166affa52a", func := "selfstab/selfstablaw03.FamilyRenames", spec := "familyRenames", plainKeys := false, apart := false, narrowed := true }
def FamilyRenamesUptoSaid : Prop := familyRenamesUptoRow.holds Try.pinned (OpenSpec.upto familyRenamesSpec)

/-- 'selfstablaw03.FamilyRelabelsBack', WHERE WHAT IT READS IS OF BULK AT MOST 1048576: true; the input reads as it did. -/
def familyRelabelsBackUptoRow : OpenClaim := { program := "ytilmpkoklkgjeaa", sum := "b1f63d70e9c28e0333e6e882a559706e6f54848eb75e2f8b78fae0166affa52a", func := "selfstab/selfstablaw03.FamilyRelabelsBack", spec := "familyRelabelsBack", plainKeys := false, apart := false, narrowed := true }
def FamilyRelabelsBackUptoSaid : Prop := familyRelabelsBackUptoRow.holds Try.pinned (OpenSpec.upto familyRelabelsBackSpec)

/-- 'selfstablaw03.FamilyChanges', WHERE WHAT IT READS IS OF BULK AT MOST 1048576: true; the input reads as it did. -/
def familyChangesUptoRow : OpenClaim := { program := "ytilmpkoklkgjeaa", sum := "b1f63d70e9c28e0333e6e882a559706e6f54848eb75e2f8b78fae0166affa52a", func := "selfstab/selfstablaw03.FamilyChanges", spec := "familyChanges", unfollowed := true, recurses := true, plainKeys := false, apart := false, narrowed := true }
def FamilyChangesUptoSaid : Prop := familyChangesUptoRow.holds Try.pinned (OpenSpec.upto familyChangesSpec)

/-- 'selfstablaw03.FamilyTreesFollowParents', WHERE WHAT IT READS IS OF BULK AT MOST 1048576: true; the input reads as it did. -/
def familyTreesFollowParentsUptoRow : OpenClaim := { program := "ytilmpkoklkgjeaa", sum := "b1f63d70e9c28e0333e6e882a559706e6f54848eb75e2f8b78fae0166affa52a", func := "selfstab/selfstablaw03.FamilyTreesFollowParents", spec := "familyTreesFollowParents", unfollowed := true, recurses := true, plainKeys := false, apart := false, narrowed := true }
def FamilyTreesFollowParentsUptoSaid : Prop := familyTreesFollowParentsUptoRow.holds Try.pinned (OpenSpec.upto familyTreesFollowParentsSpec)

/-- 'selfstablaw03.FamilyHasShapes', WHERE WHAT IT READS IS OF BULK AT MOST 1048576: true; the input reads as it did. -/
def familyHasShapesUptoRow : OpenClaim := { program := "ytilmpkoklkgjeaa", sum := "b1f63d70e9c28e0333e6e882a559706e6f54848eb75e2f8b78fae0166affa52a", func := "selfstab/selfstablaw03.FamilyHasShapes", spec := "familyHasShapes", unfollowed := true, recurses := true, plainKeys := false, apart := false, narrowed := true }
def FamilyHasShapesUptoSaid : Prop := familyHasShapesUptoRow.holds Try.pinned (OpenSpec.upto familyHasShapesSpec)

/-- 'selfstablaw03.FamilyCutsBack', WHERE WHAT IT READS IS OF BULK AT MOST 1048576: true; the input reads as it did. -/
def familyCutsBackUptoRow : OpenClaim := { program := "ytilmpkoklkgjeaa", sum := "b1f63d70e9c28e0333e6e882a559706e6f54848eb75e2f8b78fae0166affa52a", func := "selfstab/selfstablaw03.FamilyCutsBack", spec := "familyCutsBack", unfollowed := true, recurses := true, plainKeys := false, apart := false, narrowed := true }
def FamilyCutsBackUptoSaid : Prop := familyCutsBackUptoRow.holds Try.pinned (OpenSpec.upto familyCutsBackSpec)

end Rows
end Go.Proofs.Ytilmpkoklkgjeaa
