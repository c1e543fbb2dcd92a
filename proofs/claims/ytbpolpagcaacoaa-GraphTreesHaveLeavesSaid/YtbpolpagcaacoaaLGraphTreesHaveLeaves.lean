/- The law GraphTreesHaveLeaves of the program is true for every input: the row, out of the pure statement and the walk of its code. -/
import Derived.Test.YtbpolpagcaacoaaRows
import Derived.Test.YtbpolpagcaacoaaSGraphTreesHaveLeaves
import Derived.Test.YtbpolpagcaacoaaPureGraphTreesHaveLeaves
import Derived.WalkKit
import Derived.ProofKit
import Derived.OpenShut
import Derived.ShutString
import Derived.ChangeOld
import Derived.Below
import Derived.SizedLaws
namespace Go.Proofs.Ytbpolpagcaacoaa.graphTreesHaveLeaves
open Go.ChangeShapes Go.WideShapes Go.ChangeAt Go.RowKit Go.Proofs.Ytbpolpagcaacoaa.P Go.Proofs.YtbpolpagcaacoaaW.PrintWords
open Go.ChangeMaps (open_string shut_string)
set_option linter.unusedVariables false
set_option maxRecDepth 100000 in
theorem lifted (os : Os) (started : os.Started) (H : Type) (enc : TypeId × Value → H) :
    ReturnsInHanded {} Try.checked os 8 .any (Rows.graphTreesHaveLeavesSpec.pre6 enc Try.prog Try.f8 Rows.graphTreesHaveLeavesRow.domain false) (Rows.graphTreesHaveLeavesSpec.post enc Try.prog Try.f8 false true false false) := by
  refine returnsInHanded_of_change_sized (C := Try.checked) own_ started (by kernel_rfl) Try.func8
    (ChangeSpec.witness6 (enc := enc) (C := Try.checked) false ⟨#[], #[.agg #[.slice none 0 0, .slice none 0 0]], []⟩ 8 (by kernel_rfl) (by kernel_rfl) (by kernel_rfl) (by kernel_rfl)) ?_
  intro W base args ds gs before hval0 hW hcnd hsz0 _
  have hval : ∀ (j : Nat) t v, Try.f8.params[j]? = some t → args[j]? = some v → Value.okWide Try.prog W .any base t v := hval0
  have hW' := hW
  obtain ⟨p, q, hA0, hV, rfl, hfz, hnd⟩ := hW
  have hA : DataW.TrodAll enc Try.prog W 0 (fun _ => true) true Try.f8.params.toList args.toList ds p := hA0
  rw [Try.params8] at hA hval
  obtain ⟨v0, vs0, d0, ds0, p0, q0, hargs, rfl, rfl, h0, r0⟩ := trodAll_cons hA
  obtain ⟨rfl, rfl, rfl⟩ := trodAll_nil r0
  obtain rfl : args = #[v0] := by cases args; simp_all
  obtain ⟨rfl, rfl⟩ := trodVars_none hV
  have k0 := h0
  have lt0 : ∀ x ∈ p0, x.block < W.heap.size := by obtain ⟨m, hm⟩ := k0; exact DataW.trod_lt m _ _ _ hm
  obtain ⟨u0, hu0⟩ := h0
  obtain ⟨x0, K0, g0⟩ := opens_25 _ _ _ _ _ _ _ _ hu0
  obtain ⟨cs0, rfl, hsz0⟩ := okWide_struct Try.underlying25 (hval 0 25 v0 rfl rfl)
  obtain ⟨A0_0, c0_0, A0_1, c0_1, e0, hc0_0, hr0_0, hc0_1, hr0_1⟩ := k25_open K0
  obtain rfl : cs0 = #[.slice A0_0 x0.f0.length c0_0, .slice A0_1 x0.f1.length c0_1] := by
    apply Array.toList_inj.1
    simpa [Value.cells] using e0
  clear hA0 hval0 hsz0
  obtain ⟨k, hk⟩ := Go.Proofs.Ytbpolpagcaacoaa.P.Pure_GraphTreesHaveLeaves x0 g0
  refine (selfstablaw01_GraphTreesHaveLeaves.calls k A0_0 c0_0 x0.f0 A0_1 c0_1 x0.f1 true W hr0_0 hc0_0 hr0_1 hc0_1 hk).mono fun e W' ⟨he, bel0⟩ => ?_
  have bel : Below W.heap.size W W' := bel0
  subst he
  exact ⟨_, rfl, _, _, _, [], _, [], hW', trodAll_mk1 (shut_bool Try.underlying4 _), (trodAll_cons_mk (Below.trod laidOut_ (by kernel_rfl) (of_decide_eq_true (by kernel_rfl)) k0 bel lt0) trodAll_mk0), rfl, bel.frame _, fun h => by cases h⟩
theorem over : Rows.graphTreesHaveLeavesRow.holds Try.pinned (OpenSpec.ofChange Rows.graphTreesHaveLeavesSpec) :=
  OpenClaim.holds_of_wide 8 Try.f8 rfl rfl rfl rfl rfl rfl rfl ⟨rfl, rfl, rfl, rfl, rfl⟩ rfl rfl rfl rfl rfl (by kernel_rfl) Try.func8 (by kernel_rfl)
    (of_decide_eq_true (by kernel_rfl)) (by unfold Func.isWrapper; first | (rw [if_pos (by decide +kernel)]; kernel_rfl) | (rw [if_neg (by decide +kernel)]; exact ⟨rfl, rfl⟩))
    (fun os started H enc _ => lifted os started H enc)
theorem proved : Rows.GraphTreesHaveLeavesSaid := over
#print axioms proved
end Go.Proofs.Ytbpolpagcaacoaa.graphTreesHaveLeaves
namespace Go.Proofs.Ytbpolpagcaacoaa
/-- The row, under a short name, for the claim. -/
theorem graphTreesHaveLeaves_holds : Rows.GraphTreesHaveLeavesSaid := graphTreesHaveLeaves.proved
end Go.Proofs.Ytbpolpagcaacoaa
