/- The law DatalinkSteps of the program is true for every input: the row, out of the pure statement and the walk of its code. -/
import Derived.Test.YtdhkplfkbdldfaaRows
import Derived.Test.YtdhkplfkbdldfaaSDatalinkSteps
import Derived.Test.YtdhkplfkbdldfaaPureDatalinkSteps
import Derived.WalkKit
import Derived.ProofKit
import Derived.OpenShut
import Derived.ShutString
import Derived.ChangeOld
import Derived.Below
import Derived.SizedLaws
namespace Go.Proofs.Ytdhkplfkbdldfaa.datalinkSteps
open Go.ChangeShapes Go.WideShapes Go.ChangeAt Go.RowKit Go.Proofs.Ytdhkplfkbdldfaa.P Go.Proofs.YtdhkplfkbdldfaaW.PrintWords
open Go.ChangeMaps (open_string shut_string)
set_option linter.unusedVariables false
set_option maxRecDepth 100000 in
theorem lifted (os : Os) (started : os.Started) (H : Type) (enc : TypeId × Value → H) :
    ReturnsInHanded {} Try.checked os 6 .any (Rows.datalinkStepsSpec.pre6 enc Try.prog Try.f6 Rows.datalinkStepsRow.domain false) (Rows.datalinkStepsSpec.post enc Try.prog Try.f6 false true false false) := by
  refine returnsInHanded_of_change_sized (C := Try.checked) own_ started (by kernel_rfl) Try.func6
    (ChangeSpec.witness6 (enc := enc) (C := Try.checked) false ⟨#[], #[.agg #[.int .i64 0, .int .i64 0, .int .i64 0, .int .i64 0, .int .i64 0, .slice none 0 0, .slice none 0 0], .agg #[.int .i64 0, .int .i64 0]], []⟩ 8 (by kernel_rfl) (by kernel_rfl) (by kernel_rfl) (by kernel_rfl)) ?_
  intro W base args ds gs before hval0 hW hcnd hsz0 _
  have hval : ∀ (j : Nat) t v, Try.f6.params[j]? = some t → args[j]? = some v → Value.okWide Try.prog W .any base t v := hval0
  have hW' := hW
  obtain ⟨p, q, hA0, hV, rfl, hfz, hnd⟩ := hW
  have hA : DataW.TrodAll enc Try.prog W 0 (fun _ => true) true Try.f6.params.toList args.toList ds p := hA0
  rw [Try.params6] at hA hval
  obtain ⟨v0, vs0, d0, ds0, p0, q0, hargs, rfl, rfl, h0, r0⟩ := trodAll_cons hA
  obtain ⟨v1, vs1, d1, ds1, p1, q1, rfl, rfl, rfl, h1, r1⟩ := trodAll_cons r0
  obtain ⟨rfl, rfl, rfl⟩ := trodAll_nil r1
  obtain rfl : args = #[v0, v1] := by cases args; simp_all
  obtain ⟨rfl, rfl⟩ := trodVars_none hV
  have k0 := h0
  have lt0 : ∀ x ∈ p0, x.block < W.heap.size := by obtain ⟨m, hm⟩ := k0; exact DataW.trod_lt m _ _ _ hm
  obtain ⟨u0, hu0⟩ := h0
  obtain ⟨x0, K0, g0⟩ := opens_29 _ _ _ _ _ _ _ _ hu0
  obtain ⟨cs0, rfl, hsz0⟩ := okWide_struct Try.underlying29 (hval 0 29 v0 rfl rfl)
  obtain ⟨A0_5, c0_5, A0_6, c0_6, e0, hc0_5, hr0_5, hc0_6, hr0_6⟩ := k29_open K0
  obtain rfl : cs0 = #[.int .i64 x0.f0, .int .i64 x0.f1, .int .i64 x0.f2, .int .i64 x0.f3, .int .i64 x0.f4, .slice A0_5 x0.f5.length c0_5, .slice A0_6 x0.f6.length c0_6] := by
    apply Array.toList_inj.1
    simpa [Value.cells] using e0
  have k1 := h1
  have lt1 : ∀ x ∈ p1, x.block < W.heap.size := by obtain ⟨m, hm⟩ := k1; exact DataW.trod_lt m _ _ _ hm
  obtain ⟨u1, hu1⟩ := h1
  obtain ⟨x1, K1, g1⟩ := opens_40 _ _ _ _ _ _ _ _ hu1
  obtain ⟨cs1, rfl, hsz1⟩ := okWide_struct Try.underlying40 (hval 1 40 v1 rfl rfl)
  have e1 := k40_open K1
  obtain rfl : cs1 = #[.int .i64 x1.f0, .int .i64 x1.f1] := by
    apply Array.toList_inj.1
    simpa [Value.cells] using e1
  clear hA0 hval0 hsz0
  obtain ⟨k, hk⟩ := Go.Proofs.Ytdhkplfkbdldfaa.P.Pure_DatalinkSteps x0 x1 g0 g1
  refine (selfstablaw42_DatalinkSteps.calls k x0.f0 x0.f1 x0.f2 x0.f3 x0.f4 A0_5 c0_5 x0.f5 A0_6 c0_6 x0.f6 x1.f0 x1.f1 true W hr0_5 hc0_5 hr0_6 hc0_6 hk).mono fun e W' ⟨he, bel0⟩ => ?_
  have bel : Below W.heap.size W W' := bel0
  subst he
  exact ⟨_, rfl, _, _, _, [], _, [], hW', trodAll_mk1 (shut_bool Try.underlying4 _), (trodAll_cons_mk (Below.trod laidOut_ (by kernel_rfl) (of_decide_eq_true (by kernel_rfl)) k0 bel lt0) (trodAll_cons_mk (Below.trod laidOut_ (by kernel_rfl) (of_decide_eq_true (by kernel_rfl)) k1 bel lt1) trodAll_mk0)), rfl, bel.frame _, fun h => by cases h⟩
theorem over : Rows.datalinkStepsRow.holds Try.pinned (OpenSpec.ofChange Rows.datalinkStepsSpec) :=
  OpenClaim.holds_of_wide 6 Try.f6 rfl rfl rfl rfl rfl rfl rfl ⟨rfl, rfl, rfl, rfl, rfl⟩ rfl rfl rfl rfl rfl (by kernel_rfl) Try.func6 (by kernel_rfl)
    (of_decide_eq_true (by kernel_rfl)) (by unfold Func.isWrapper; first | (rw [if_pos (by decide +kernel)]; kernel_rfl) | (rw [if_neg (by decide +kernel)]; exact ⟨rfl, rfl⟩))
    (fun os started H enc _ => lifted os started H enc)
theorem proved : Rows.DatalinkStepsSaid := over
#print axioms proved
end Go.Proofs.Ytdhkplfkbdldfaa.datalinkSteps
namespace Go.Proofs.Ytdhkplfkbdldfaa
/-- The row, under a short name, for the claim. -/
theorem datalinkSteps_holds : Rows.DatalinkStepsSaid := datalinkSteps.proved
end Go.Proofs.Ytdhkplfkbdldfaa
