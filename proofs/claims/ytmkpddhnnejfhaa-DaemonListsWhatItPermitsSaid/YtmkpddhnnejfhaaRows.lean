/-
  No cell of these rows narrows 'for every input' (looked for: loops, veiled, ifaces, maps, wideKeys, modest, calm, conditions, laid).
  DERIVED. THE GIVEN ROWS OF THIS SEAT. 7 by the template 'for every input the law returns true; each argument reads behind the call as it read before'; 0 by the template 'total and deterministic' (their statements: YtmkpddhnnejfhaaTotals.lean).
  GIVEN WITH THE SEED: the statements are not yours to turn. If you find one false, say at which input.
  Laid BY PROGRAM, IN A SANDBOX (cutbox-rows.mjs): the forced cells as the released guide's own fill.sh prints them over the translation b5a73d6619d67c23… (all of the seat's roots in one cut). By AI agents, Wed Nov 11 2026. No macro, syntax, notation, axiom, sorry.
-/
import Derived.Test.YtmkpddhnnejfhaaChecked
import GoSem.Claim
import GoSem.ClaimJoined
import GoSem.ClaimMapViews
import Derived.JoinedTies
import Derived.KernelRfl
namespace Go.Proofs.Ytmkpddhnnejfhaa
/- THE CELL 'sum', in the pinned program and in every row, IS THE sha256 OF THE DUMP (.gsa) THAT YtmkpddhnnejfhaaProg.lean LOADS. Nothing in Lean hashes anything: it is a label: what it is worth is what the hold of that sum in a sandbox is worth. -/
noncomputable def Try.pinned : Pinned := { name := "ytmkpddhnnejfhaa", sum := "b5a73d6619d67c2324c166f5e79ad83dd389e4756251f5b691384229b9290f62", checked := Try.checked }
namespace Rows
def none {H : Type} : Left H := { results := [], args := [] }

/-- 'selfstablaw15.DaemonChooses': WHATEVER THE INPUT: true; the input reads as it did. -/
def daemonChoosesSpec : ChangeSpec := { name := "daemonChooses", fn := fun _ => fun
  | [d1, d2, d3, d4] => { results := [.lit (.bool true)], args := [d1, d2, d3, d4] }
  | _ => none }
def daemonChoosesRow : OpenClaim := { program := "ytmkpddhnnejfhaa", sum := "b5a73d6619d67c2324c166f5e79ad83dd389e4756251f5b691384229b9290f62", func := "selfstab/selfstablaw15.DaemonChooses", spec := "daemonChooses", unfollowed := true, recurses := true, plainKeys := false, apart := false }
def DaemonChoosesSaid : Prop := daemonChoosesRow.holds Try.pinned (OpenSpec.ofChange daemonChoosesSpec)

/-- ITS FALSE NEIGHBOUR: 'it returns false'. Refute it at one input. -/
def daemonChoosesWrong : ChangeSpec := { name := "daemonChooses", fn := fun _ => fun
  | [d1, d2, d3, d4] => { results := [.lit (.bool false)], args := [d1, d2, d3, d4] }
  | _ => none }
def DaemonChoosesWrongFalsely : Prop := daemonChoosesRow.holds Try.pinned (OpenSpec.ofChange daemonChoosesWrong)

/-- 'selfstablaw15.DaemonGreedyIsMaximal': WHATEVER THE INPUT: true; the input reads as it did. -/
def daemonGreedyIsMaximalSpec : ChangeSpec := { name := "daemonGreedyIsMaximal", fn := fun _ => fun
  | [d1, d2, d3] => { results := [.lit (.bool true)], args := [d1, d2, d3] }
  | _ => none }
def daemonGreedyIsMaximalRow : OpenClaim := { program := "ytmkpddhnnejfhaa", sum := "b5a73d6619d67c2324c166f5e79ad83dd389e4756251f5b691384229b9290f62", func := "selfstab/selfstablaw15.DaemonGreedyIsMaximal", spec := "daemonGreedyIsMaximal", unfollowed := true, recurses := true, plainKeys := false, apart := false }
def DaemonGreedyIsMaximalSaid : Prop := daemonGreedyIsMaximalRow.holds Try.pinned (OpenSpec.ofChange daemonGreedyIsMaximalSpec)

/-- ITS FALSE NEIGHBOUR: 'it returns false'. Refute it at one input. -/
def daemonGreedyIsMaximalWrong : ChangeSpec := { name := "daemonGreedyIsMaximal", fn := fun _ => fun
  | [d1, d2, d3] => { results := [.lit (.bool false)], args := [d1, d2, d3] }
  | _ => none }
def DaemonGreedyIsMaximalWrongFalsely : Prop := daemonGreedyIsMaximalRow.holds Try.pinned (OpenSpec.ofChange daemonGreedyIsMaximalWrong)

/-- 'selfstablaw15.DaemonListsWhatItPermits': WHATEVER THE INPUT: true; the input reads as it did. -/
def daemonListsWhatItPermitsSpec : ChangeSpec := { name := "daemonListsWhatItPermits", fn := fun _ => fun
  | [d1, d2, d3, d4] => { results := [.lit (.bool true)], args := [d1, d2, d3, d4] }
  | _ => none }
def daemonListsWhatItPermitsRow : OpenClaim := { program := "ytmkpddhnnejfhaa", sum := "b5a73d6619d67c2324c166f5e79ad83dd389e4756251f5b691384229b9290f62", func := "selfstab/selfstablaw15.DaemonListsWhatItPermits", spec := "daemonListsWhatItPermits", unfollowed := true, recurses := true, plainKeys := false, apart := false }
def DaemonListsWhatItPermitsSaid : Prop := daemonListsWhatItPermitsRow.holds Try.pinned (OpenSpec.ofChange daemonListsWhatItPermitsSpec)

/-- ITS FALSE NEIGHBOUR: 'it returns false'. Refute it at one input. -/
def daemonListsWhatItPermitsWrong : ChangeSpec := { name := "daemonListsWhatItPermits", fn := fun _ => fun
  | [d1, d2, d3, d4] => { results := [.lit (.bool false)], args := [d1, d2, d3, d4] }
  | _ => none }
def DaemonListsWhatItPermitsWrongFalsely : Prop := daemonListsWhatItPermitsRow.holds Try.pinned (OpenSpec.ofChange daemonListsWhatItPermitsWrong)

/-- 'selfstablaw15.DaemonResolvesToPermitted': WHATEVER THE INPUT: true; the input reads as it did. -/
def daemonResolvesToPermittedSpec : ChangeSpec := { name := "daemonResolvesToPermitted", fn := fun _ => fun
  | [d1, d2, d3, d4] => { results := [.lit (.bool true)], args := [d1, d2, d3, d4] }
  | _ => none }
def daemonResolvesToPermittedRow : OpenClaim := { program := "ytmkpddhnnejfhaa", sum := "b5a73d6619d67c2324c166f5e79ad83dd389e4756251f5b691384229b9290f62", func := "selfstab/selfstablaw15.DaemonResolvesToPermitted", spec := "daemonResolvesToPermitted", unfollowed := true, recurses := true, plainKeys := false, apart := false }
def DaemonResolvesToPermittedSaid : Prop := daemonResolvesToPermittedRow.holds Try.pinned (OpenSpec.ofChange daemonResolvesToPermittedSpec)

/-- ITS FALSE NEIGHBOUR: 'it returns false'. Refute it at one input. -/
def daemonResolvesToPermittedWrong : ChangeSpec := { name := "daemonResolvesToPermitted", fn := fun _ => fun
  | [d1, d2, d3, d4] => { results := [.lit (.bool false)], args := [d1, d2, d3, d4] }
  | _ => none }
def DaemonResolvesToPermittedWrongFalsely : Prop := daemonResolvesToPermittedRow.holds Try.pinned (OpenSpec.ofChange daemonResolvesToPermittedWrong)

/-- 'selfstablaw15.DaemonPermitsParts': WHATEVER THE INPUT: true; the input reads as it did. -/
def daemonPermitsPartsSpec : ChangeSpec := { name := "daemonPermitsParts", fn := fun _ => fun
  | [d1, d2, d3, d4, d5] => { results := [.lit (.bool true)], args := [d1, d2, d3, d4, d5] }
  | _ => none }
def daemonPermitsPartsRow : OpenClaim := { program := "ytmkpddhnnejfhaa", sum := "b5a73d6619d67c2324c166f5e79ad83dd389e4756251f5b691384229b9290f62", func := "selfstab/selfstablaw15.DaemonPermitsParts", spec := "daemonPermitsParts", unfollowed := true, recurses := true, plainKeys := false, apart := false }
def DaemonPermitsPartsSaid : Prop := daemonPermitsPartsRow.holds Try.pinned (OpenSpec.ofChange daemonPermitsPartsSpec)

/-- ITS FALSE NEIGHBOUR: 'it returns false'. Refute it at one input. -/
def daemonPermitsPartsWrong : ChangeSpec := { name := "daemonPermitsParts", fn := fun _ => fun
  | [d1, d2, d3, d4, d5] => { results := [.lit (.bool false)], args := [d1, d2, d3, d4, d5] }
  | _ => none }
def DaemonPermitsPartsWrongFalsely : Prop := daemonPermitsPartsRow.holds Try.pinned (OpenSpec.ofChange daemonPermitsPartsWrong)

/-- 'selfstablaw15.DaemonPermits': WHATEVER THE INPUT: true; the input reads as it did. -/
def daemonPermitsSpec : ChangeSpec := { name := "daemonPermits", fn := fun _ => fun
  | [d1, d2, d3, d4, d5] => { results := [.lit (.bool true)], args := [d1, d2, d3, d4, d5] }
  | _ => none }
def daemonPermitsRow : OpenClaim := { program := "ytmkpddhnnejfhaa", sum := "b5a73d6619d67c2324c166f5e79ad83dd389e4756251f5b691384229b9290f62", func := "selfstab/selfstablaw15.DaemonPermits", spec := "daemonPermits", unfollowed := true, recurses := true, plainKeys := false, apart := false }
def DaemonPermitsSaid : Prop := daemonPermitsRow.holds Try.pinned (OpenSpec.ofChange daemonPermitsSpec)

/-- ITS FALSE NEIGHBOUR: 'it returns false'. Refute it at one input. -/
def daemonPermitsWrong : ChangeSpec := { name := "daemonPermits", fn := fun _ => fun
  | [d1, d2, d3, d4, d5] => { results := [.lit (.bool false)], args := [d1, d2, d3, d4, d5] }
  | _ => none }
def DaemonPermitsWrongFalsely : Prop := daemonPermitsRow.holds Try.pinned (OpenSpec.ofChange daemonPermitsWrong)

/-- 'selfstablaw15.DaemonIsWithin': WHATEVER THE INPUT: true; the input reads as it did. -/
def daemonIsWithinSpec : ChangeSpec := { name := "daemonIsWithin", fn := fun _ => fun
  | [d1, d2, d3, d4, d5, d6] => { results := [.lit (.bool true)], args := [d1, d2, d3, d4, d5, d6] }
  | _ => none }
def daemonIsWithinRow : OpenClaim := { program := "ytmkpddhnnejfhaa", sum := "b5a73d6619d67c2324c166f5e79ad83dd389e4756251f5b691384229b9290f62", func := "selfstab/selfstablaw15.DaemonIsWithin", spec := "daemonIsWithin", unfollowed := true, recurses := true, plainKeys := false, apart := false }
def DaemonIsWithinSaid : Prop := daemonIsWithinRow.holds Try.pinned (OpenSpec.ofChange daemonIsWithinSpec)

/-- ITS FALSE NEIGHBOUR: 'it returns false'. Refute it at one input. -/
def daemonIsWithinWrong : ChangeSpec := { name := "daemonIsWithin", fn := fun _ => fun
  | [d1, d2, d3, d4, d5, d6] => { results := [.lit (.bool false)], args := [d1, d2, d3, d4, d5, d6] }
  | _ => none }
def DaemonIsWithinWrongFalsely : Prop := daemonIsWithinRow.holds Try.pinned (OpenSpec.ofChange daemonIsWithinWrong)

/- THE SECOND FORM. 'bulk': how many values and letters a reading holds, each counted each time it is reached (what is shared counts as often as it is met; a slice's spare places count too). A statement '..UptoSaid' is the law's where the arguments, and the package variables that the reading takes, are together of bulk at most 1048576: NARROWER than '..Said'. Prove '..Said' where nothing that the law and all that it calls make is longer than what came in: it says more and counts as full. Else prove '..UptoSaid'. A law counts once. -/
mutual
def uptoBulk {H : Type} : DataW H → Nat
  | .lit (.string bytes) => bytes.length + 1
  | .lit _ => 1
  | .nil => 1
  | .ptr d => uptoBulk d + 1
  | .slice elems spare => uptoBulkAll elems + uptoBulkAll spare + 1
  | .agg parts => uptoBulkAll parts + 1
  | .iface _ d => uptoBulk d + 1
  | .map entries => uptoBulkEntries entries + 1
  | .held _ => 1
def uptoBulkAll {H : Type} : List (DataW H) → Nat
  | [] => 0
  | d :: r => uptoBulk d + uptoBulkAll r
def uptoBulkEntries {H : Type} : List (Lit × DataW H) → Nat
  | [] => 0
  | x :: r => uptoBulkEntry x + uptoBulkEntries r
def uptoBulkEntry {H : Type} : Lit × DataW H → Nat
  | (.string bytes, d) => bytes.length + uptoBulk d + 1
  | (_, d) => uptoBulk d + 1
 end
def uptoSmall : (H : Type) → List (DataW H) → Bool := fun _ ds => decide (uptoBulkAll ds ≤ 1048576)
def OpenSpec.upto (s : _root_.Go.ChangeSpec) : _root_.Go.OpenSpec := { _root_.Go.OpenSpec.ofChange s with cond := some uptoSmall }

/-- 'selfstablaw15.DaemonChooses', WHERE WHAT IT READS IS OF BULK AT MOST 1048576: true; the input reads as it did. -/
def daemonChoosesUptoRow : OpenClaim := { program := "ytmkpddhnnejfhaa", sum := "b5a73d6619d67c2324c166f5e79ad83dd389e4756251f5b691384229b9290f62", func := "selfstab/selfstablaw15.DaemonChooses", spec := "daemonChooses", unfollowed := true, recurses := true, plainKeys := false, apart := false, narrowed := true }
def DaemonChoosesUptoSaid : Prop := daemonChoosesUptoRow.holds Try.pinned (OpenSpec.upto daemonChoosesSpec)

/-- 'selfstablaw15.DaemonGreedyIsMaximal', WHERE WHAT IT READS IS OF BULK AT MOST 1048576: true; the input reads as it did. -/
def daemonGreedyIsMaximalUptoRow : OpenClaim := { program := "ytmkpddhnnejfhaa", sum := "b5a73d6619d67c2324c166f5e79ad83dd389e4756251f5b691384229b9290f62", func := "selfstab/selfstablaw15.DaemonGreedyIsMaximal", spec := "daemonGreedyIsMaximal", unfollowed := true, recurses := true, plainKeys := false, apart := false, narrowed := true }
def DaemonGreedyIsMaximalUptoSaid : Prop := daemonGreedyIsMaximalUptoRow.holds Try.pinned (OpenSpec.upto daemonGreedyIsMaximalSpec)

/-- 'selfstablaw15.DaemonListsWhatItPermits', WHERE WHAT IT READS IS OF BULK AT MOST 1048576: true; the input reads as it did. -/
def daemonListsWhatItPermitsUptoRow : OpenClaim := { program := "ytmkpddhnnejfhaa", sum := "b5a73d6619d67c2324c166f5e79ad83dd389e4756251f5b691384229b9290f62", func := "selfstab/selfstablaw15.DaemonListsWhatItPermits", spec := "daemonListsWhatItPermits", unfollowed := true, recurses := true, plainKeys := false, apart := false, narrowed := true }
def DaemonListsWhatItPermitsUptoSaid : Prop := daemonListsWhatItPermitsUptoRow.holds Try.pinned (OpenSpec.upto daemonListsWhatItPermitsSpec)

/-- 'selfstablaw15.DaemonResolvesToPermitted', WHERE WHAT IT READS IS OF BULK AT MOST 1048576: true; the input reads as it did. -/
def daemonResolvesToPermittedUptoRow : OpenClaim := { program := "ytmkpddhnnejfhaa", sum := "b5a73d6619d67c2324c166f5e79ad83dd389e4756251f5b691384229b9290f62", func := "selfstab/selfstablaw15.DaemonResolvesToPermitted", spec := "daemonResolvesToPermitted", unfollowed := true, recurses := true, plainKeys := false, apart := false, narrowed := true }
def DaemonResolvesToPermittedUptoSaid : Prop := daemonResolvesToPermittedUptoRow.holds Try.pinned (OpenSpec.upto daemonResolvesToPermittedSpec)

/-- 'selfstablaw15.DaemonPermitsParts', WHERE WHAT IT READS IS OF BULK AT MOST 1048576: true; the input reads as it did. -/
def daemonPermitsPartsUptoRow : OpenClaim := { program := "ytmkpddhnnejfhaa", sum := "b5a73d6619d67c2324c166f5e79ad83dd389e4756251f5b691384229b9290f62", func := "selfstab/selfstablaw15.DaemonPermitsParts", spec := "daemonPermitsParts", unfollowed := true, recurses := true, plainKeys := false, apart := false, narrowed := true }
def DaemonPermitsPartsUptoSaid : Prop := daemonPermitsPartsUptoRow.holds Try.pinned (OpenSpec.upto daemonPermitsPartsSpec)

/-- 'selfstablaw15.DaemonPermits', WHERE WHAT IT READS IS OF BULK AT MOST 1048576: true; the input reads as it did. -/
def daemonPermitsUptoRow : OpenClaim := { program := "ytmkpddhnnejfhaa", sum := "b5a73d6619d67c2324c166f5e79ad83dd389e4756251f5b691384229b9290f62", func := "selfstab/selfstablaw15.DaemonPermits", spec := "daemonPermits", unfollowed := true, recurses := true, plainKeys := false, apart := false, narrowed := true }
def DaemonPermitsUptoSaid : Prop := daemonPermitsUptoRow.holds Try.pinned (OpenSpec.upto daemonPermitsSpec)

/-- 'selfstablaw15.DaemonIsWithin', WHERE WHAT IT READS IS OF BULK AT MOST 1048576: true; the input reads as it did. -/
def daemonIsWithinUptoRow : OpenClaim := { program := "ytmkpddhnnejfhaa", sum := "b5a73d6619d67c2324c166f5e79ad83dd389e4756251f5b691384229b9290f62", func := "selfstab/selfstablaw15.DaemonIsWithin", spec := "daemonIsWithin", unfollowed := true, recurses := true, plainKeys := false, apart := false, narrowed := true }
def DaemonIsWithinUptoSaid : Prop := daemonIsWithinUptoRow.holds Try.pinned (OpenSpec.upto daemonIsWithinSpec)

end Rows
end Go.Proofs.Ytmkpddhnnejfhaa
