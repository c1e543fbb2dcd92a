/-
  No cell of these rows narrows 'for every input' (looked for: loops, veiled, ifaces, maps, wideKeys, modest, calm, conditions, laid).
  DERIVED. THE GIVEN ROWS OF THIS SEAT. 6 by the template 'for every input the law returns true; each argument reads behind the call as it read before'; 0 by the template 'total and deterministic' (their statements: YtdhkplfkbdldfaaTotals.lean).
  GIVEN WITH THE SEED: the statements are not yours to turn. If you find one false, say at which input.
  Laid BY PROGRAM, IN A SANDBOX (cutbox-rows.mjs): the forced cells as the released guide's own fill.sh prints them over the translation a362dd317c138095… (all of the seat's roots in one cut). By AI agents, Wed Nov 11 2026. No macro, syntax, notation, axiom, sorry.
-/
import Derived.Test.YtdhkplfkbdldfaaChecked
import GoSem.Claim
import GoSem.ClaimJoined
import GoSem.ClaimMapViews
import Derived.JoinedTies
import Derived.KernelRfl
namespace Go.Proofs.Ytdhkplfkbdldfaa
/- THE CELL 'sum', in the pinned program and in every row, IS THE sha256 OF THE DUMP (.gsa) THAT YtdhkplfkbdldfaaProg.lean LOADS. Nothing in Lean hashes anything: it is a label: what it is worth is what the hold of that sum in a sandbox is worth. -/
noncomputable def Try.pinned : Pinned := { name := "ytdhkplfkbdldfaa", sum := "a362dd317c1380955afe596f10cf1dad279c5dd44a4bccad46a9f58aaa8ec6f2", checked := Try.checked }
namespace Rows
def none {H : Type} : Left H := { results := [], args := [] }

/-- 'selfstablaw42.DatalinkRuns': WHATEVER THE INPUT: true; the input reads as it did. -/
def datalinkRunsSpec : ChangeSpec := { name := "datalinkRuns", fn := fun _ => fun
  | [d1, d2] => { results := [.lit (.bool true)], args := [d1, d2] }
  | _ => none }
def datalinkRunsRow : OpenClaim := { program := "ytdhkplfkbdldfaa", sum := "a362dd317c1380955afe596f10cf1dad279c5dd44a4bccad46a9f58aaa8ec6f2", func := "selfstab/selfstablaw42.DatalinkRuns", spec := "datalinkRuns", unfollowed := true, recurses := true, apart := false }
def DatalinkRunsSaid : Prop := datalinkRunsRow.holds Try.pinned (OpenSpec.ofChange datalinkRunsSpec)

/-- ITS FALSE NEIGHBOUR: 'it returns false'. Refute it at one input. -/
def datalinkRunsWrong : ChangeSpec := { name := "datalinkRuns", fn := fun _ => fun
  | [d1, d2] => { results := [.lit (.bool false)], args := [d1, d2] }
  | _ => none }
def DatalinkRunsWrongFalsely : Prop := datalinkRunsRow.holds Try.pinned (OpenSpec.ofChange datalinkRunsWrong)

/-- 'selfstablaw42.DatalinkOnce': WHATEVER THE INPUT: true; the input reads as it did. -/
def datalinkOnceSpec : ChangeSpec := { name := "datalinkOnce", fn := fun _ => fun
  | [d1, d2] => { results := [.lit (.bool true)], args := [d1, d2] }
  | _ => none }
def datalinkOnceRow : OpenClaim := { program := "ytdhkplfkbdldfaa", sum := "a362dd317c1380955afe596f10cf1dad279c5dd44a4bccad46a9f58aaa8ec6f2", func := "selfstab/selfstablaw42.DatalinkOnce", spec := "datalinkOnce", unfollowed := true, recurses := true, apart := false }
def DatalinkOnceSaid : Prop := datalinkOnceRow.holds Try.pinned (OpenSpec.ofChange datalinkOnceSpec)

/-- ITS FALSE NEIGHBOUR: 'it returns false'. Refute it at one input. -/
def datalinkOnceWrong : ChangeSpec := { name := "datalinkOnce", fn := fun _ => fun
  | [d1, d2] => { results := [.lit (.bool false)], args := [d1, d2] }
  | _ => none }
def DatalinkOnceWrongFalsely : Prop := datalinkOnceRow.holds Try.pinned (OpenSpec.ofChange datalinkOnceWrong)

/-- 'selfstablaw42.DatalinkMoves': WHATEVER THE INPUT: true; the input reads as it did. -/
def datalinkMovesSpec : ChangeSpec := { name := "datalinkMoves", fn := fun _ => fun
  | [d1, d2] => { results := [.lit (.bool true)], args := [d1, d2] }
  | _ => none }
def datalinkMovesRow : OpenClaim := { program := "ytdhkplfkbdldfaa", sum := "a362dd317c1380955afe596f10cf1dad279c5dd44a4bccad46a9f58aaa8ec6f2", func := "selfstab/selfstablaw42.DatalinkMoves", spec := "datalinkMoves", unfollowed := true, recurses := true, apart := false }
def DatalinkMovesSaid : Prop := datalinkMovesRow.holds Try.pinned (OpenSpec.ofChange datalinkMovesSpec)

/-- ITS FALSE NEIGHBOUR: 'it returns false'. Refute it at one input. -/
def datalinkMovesWrong : ChangeSpec := { name := "datalinkMoves", fn := fun _ => fun
  | [d1, d2] => { results := [.lit (.bool false)], args := [d1, d2] }
  | _ => none }
def DatalinkMovesWrongFalsely : Prop := datalinkMovesRow.holds Try.pinned (OpenSpec.ofChange datalinkMovesWrong)

/-- 'selfstablaw42.DatalinkSteps': WHATEVER THE INPUT: true; the input reads as it did. -/
def datalinkStepsSpec : ChangeSpec := { name := "datalinkSteps", fn := fun _ => fun
  | [d1, d2] => { results := [.lit (.bool true)], args := [d1, d2] }
  | _ => none }
def datalinkStepsRow : OpenClaim := { program := "ytdhkplfkbdldfaa", sum := "a362dd317c1380955afe596f10cf1dad279c5dd44a4bccad46a9f58aaa8ec6f2", func := "selfstab/selfstablaw42.DatalinkSteps", spec := "datalinkSteps", unfollowed := true, recurses := true, apart := false }
def DatalinkStepsSaid : Prop := datalinkStepsRow.holds Try.pinned (OpenSpec.ofChange datalinkStepsSpec)

/-- ITS FALSE NEIGHBOUR: 'it returns false'. Refute it at one input. -/
def datalinkStepsWrong : ChangeSpec := { name := "datalinkSteps", fn := fun _ => fun
  | [d1, d2] => { results := [.lit (.bool false)], args := [d1, d2] }
  | _ => none }
def DatalinkStepsWrongFalsely : Prop := datalinkStepsRow.holds Try.pinned (OpenSpec.ofChange datalinkStepsWrong)

/-- 'selfstablaw42.DatalinkStays': WHATEVER THE INPUT: true; the input reads as it did. -/
def datalinkStaysSpec : ChangeSpec := { name := "datalinkStays", fn := fun _ => fun
  | [d1, d2] => { results := [.lit (.bool true)], args := [d1, d2] }
  | _ => none }
def datalinkStaysRow : OpenClaim := { program := "ytdhkplfkbdldfaa", sum := "a362dd317c1380955afe596f10cf1dad279c5dd44a4bccad46a9f58aaa8ec6f2", func := "selfstab/selfstablaw42.DatalinkStays", spec := "datalinkStays", unfollowed := true, recurses := true, apart := false }
def DatalinkStaysSaid : Prop := datalinkStaysRow.holds Try.pinned (OpenSpec.ofChange datalinkStaysSpec)

/-- ITS FALSE NEIGHBOUR: 'it returns false'. Refute it at one input. -/
def datalinkStaysWrong : ChangeSpec := { name := "datalinkStays", fn := fun _ => fun
  | [d1, d2] => { results := [.lit (.bool false)], args := [d1, d2] }
  | _ => none }
def DatalinkStaysWrongFalsely : Prop := datalinkStaysRow.holds Try.pinned (OpenSpec.ofChange datalinkStaysWrong)

/-- 'selfstablaw42.DatalinkAligns': WHATEVER THE INPUT: true; the input reads as it did. -/
def datalinkAlignsSpec : ChangeSpec := { name := "datalinkAligns", fn := fun _ => fun
  | [d1, d2] => { results := [.lit (.bool true)], args := [d1, d2] }
  | _ => none }
def datalinkAlignsRow : OpenClaim := { program := "ytdhkplfkbdldfaa", sum := "a362dd317c1380955afe596f10cf1dad279c5dd44a4bccad46a9f58aaa8ec6f2", func := "selfstab/selfstablaw42.DatalinkAligns", spec := "datalinkAligns", unfollowed := true, recurses := true, apart := false }
def DatalinkAlignsSaid : Prop := datalinkAlignsRow.holds Try.pinned (OpenSpec.ofChange datalinkAlignsSpec)

/-- ITS FALSE NEIGHBOUR: 'it returns false'. Refute it at one input. -/
def datalinkAlignsWrong : ChangeSpec := { name := "datalinkAligns", fn := fun _ => fun
  | [d1, d2] => { results := [.lit (.bool false)], args := [d1, d2] }
  | _ => none }
def DatalinkAlignsWrongFalsely : Prop := datalinkAlignsRow.holds Try.pinned (OpenSpec.ofChange datalinkAlignsWrong)

/- THE SECOND FORM. 'bulk': how many values and letters a reading holds, each counted each time it is reached (what is shared counts as often as it is met; a slice's spare places count too). A statement '..UptoSaid' is the law's where the arguments, and the package variables that the reading takes, are together of bulk at most 1048576: NARROWER than '..Said'. Prove '..Said' where nothing that the law and all that it calls make is longer than what came in: it says more and counts as full. Else prove '..UptoSaid'. A law counts once. -/
mutual
def uptoBulk {H : Type} : DataW H → Nat
  | .lit (.string bytes) => bytes.length + 1
  | .lit _ => 1
  | .nil => 1
  | .ptr d => uptoBulk d + 1
  | .slice elems spare => uptoBulkAll elems + uptoBulkAll spare + 1
  | .agg parts => uptoBulkAll parts + 1
  | .iface _ d => uptoBulk d + 1
  | .map entries => uptoBulkEntries entries + 1
  | .held _ => 1
def uptoBulkAll {H : Type} : List (DataW H) → Nat
  | [] => 0
  | d :: r => uptoBulk d + uptoBulkAll r
def uptoBulkEntries {H : Type} : List (Lit × DataW H) → Nat
  | [] => 0
  | x :: r => uptoBulkEntry x + uptoBulkEntries r
def uptoBulkEntry {H : Type} : Lit × DataW H → Nat
  | (.string bytes, d) => bytes.length + uptoBulk d + 1
  | (_, d) => uptoBulk d + 1
 end
def uptoSmall : (H : Type) → List (DataW H) → Bool := fun _ ds => decide (uptoBulkAll ds ≤ 1048576)
def OpenSpec.upto (s : _root_.Go.ChangeSpec) : _root_.Go.OpenSpec := { _root_.Go.OpenSpec.ofChange s with cond := some uptoSmall }

/-- 'selfstablaw42.DatalinkRuns', WHERE WHAT IT READS IS OF BULK AT MOST 1048576: true; the input reads as it did. -/
def datalinkRunsUptoRow : OpenClaim := { program := "ytdhkplfkbdldfaa", sum := "a362dd317c1380955afe596f10cf1dad279c5dd44a4bccad46a9f58aaa8ec6f2", func := "selfstab/selfstablaw42.DatalinkRuns", spec := "datalinkRuns", unfollowed := true, recurses := true, apart := false, narrowed := true }
def DatalinkRunsUptoSaid : Prop := datalinkRunsUptoRow.holds Try.pinned (OpenSpec.upto datalinkRunsSpec)

/-- 'selfstablaw42.DatalinkOnce', WHERE WHAT IT READS IS OF BULK AT MOST 1048576: true; the input reads as it did. -/
def datalinkOnceUptoRow : OpenClaim := { program := "ytdhkplfkbdldfaa", sum := "a362dd317c1380955afe596f10cf1dad279c5dd44a4bccad46a9f58aaa8ec6f2", func := "selfstab/selfstablaw42.DatalinkOnce", spec := "datalinkOnce", unfollowed := true, recurses := true, apart := false, narrowed := true }
def DatalinkOnceUptoSaid : Prop := datalinkOnceUptoRow.holds Try.pinned (OpenSpec.upto datalinkOnceSpec)

/-- 'selfstablaw42.DatalinkMoves', WHERE WHAT IT READS IS OF BULK AT MOST 1048576: true; the input reads as it did. -/
def datalinkMovesUptoRow : OpenClaim := { program := "ytdhkplfkbdldfaa", sum := "a362dd317c1380955afe596f10cf1dad279c5dd44a4bccad46a9f58aaa8ec6f2", func := "selfstab/selfstablaw42.DatalinkMoves", spec := "datalinkMoves", unfollowed := true, recurses := true, apart := false, narrowed := true }
def DatalinkMovesUptoSaid : Prop := datalinkMovesUptoRow.holds Try.pinned (OpenSpec.upto datalinkMovesSpec)

/-- 'selfstablaw42.DatalinkSteps', WHERE WHAT IT READS IS OF BULK AT MOST 1048576: true; the input reads as it did. -/
def datalinkStepsUptoRow : OpenClaim := { program := "ytdhkplfkbdldfaa", sum := "a362dd317c1380955afe596f10cf1dad279c5dd44a4bccad46a9f58aaa8ec6f2", func := "selfstab/selfstablaw42.DatalinkSteps", spec := "datalinkSteps", unfollowed := true, recurses := true, apart := false, narrowed := true }
def DatalinkStepsUptoSaid : Prop := datalinkStepsUptoRow.holds Try.pinned (OpenSpec.upto datalinkStepsSpec)

/-- 'selfstablaw42.DatalinkStays', WHERE WHAT IT READS IS OF BULK AT MOST 1048576: true; the input reads as it did. -/
def datalinkStaysUptoRow : OpenClaim := { program := "ytdhkplfkbdldfaa", sum := "a362dd317c1380955afe596f10cf1dad279c5dd44a4bccad46a9f58aaa8ec6f2", func := "selfstab/selfstablaw42.DatalinkStays", spec := "datalinkStays", unfollowed := true, recurses := true, apart := false, narrowed := true }
def DatalinkStaysUptoSaid : Prop := datalinkStaysUptoRow.holds Try.pinned (OpenSpec.upto datalinkStaysSpec)

/-- 'selfstablaw42.DatalinkAligns', WHERE WHAT IT READS IS OF BULK AT MOST 1048576: true; the input reads as it did. -/
def datalinkAlignsUptoRow : OpenClaim := { program := "ytdhkplfkbdldfaa", sum := "a362dd317c1380955afe596f10cf1dad279c5dd44a4bccad46a9f58aaa8ec6f2", func := "selfstab/selfstablaw42.DatalinkAligns", spec := "datalinkAligns", unfollowed := true, recurses := true, apart := false, narrowed := true }
def DatalinkAlignsUptoSaid : Prop := datalinkAlignsUptoRow.holds Try.pinned (OpenSpec.upto datalinkAlignsSpec)

end Rows
end Go.Proofs.Ytdhkplfkbdldfaa
