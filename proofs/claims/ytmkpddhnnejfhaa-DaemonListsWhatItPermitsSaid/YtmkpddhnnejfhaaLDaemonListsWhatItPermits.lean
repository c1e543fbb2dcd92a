/- The law DaemonListsWhatItPermits of the program is true for every input: the row, out of the pure statement and the walk of its code. -/
import Derived.Test.YtmkpddhnnejfhaaRows
import Derived.Test.YtmkpddhnnejfhaaSDaemonListsWhatItPermits
import Derived.Test.YtmkpddhnnejfhaaPureDaemonListsWhatItPermits
import Derived.WalkKit
import Derived.ProofKit
import Derived.OpenShut
import Derived.ShutString
import Derived.ChangeOld
import Derived.Below
import Derived.SizedLaws
namespace Go.Proofs.Ytmkpddhnnejfhaa.daemonListsWhatItPermits
open Go.ChangeShapes Go.WideShapes Go.ChangeAt Go.RowKit Go.Proofs.Ytmkpddhnnejfhaa.P Go.Proofs.YtmkpddhnnejfhaaW.PrintWords
open Go.ChangeMaps (open_string shut_string)
set_option linter.unusedVariables false
set_option maxRecDepth 100000 in
theorem lifted (os : Os) (started : os.Started) (H : Type) (enc : TypeId × Value → H) :
    ReturnsInHanded {} Try.checked os 5 .any (Rows.daemonListsWhatItPermitsSpec.pre6 enc Try.prog Try.f5 Rows.daemonListsWhatItPermitsRow.domain false) (Rows.daemonListsWhatItPermitsSpec.post enc Try.prog Try.f5 false true false false) := by
  refine returnsInHanded_of_change_sized (C := Try.checked) own_ started (by kernel_rfl) Try.func5
    (ChangeSpec.witness6 (enc := enc) (C := Try.checked) false ⟨#[], #[.agg #[.slice none 0 0, .slice none 0 0], .int .i64 0, .int .u32 0, .int .u32 0], []⟩ 8 (by kernel_rfl) (by kernel_rfl) (by kernel_rfl) (by kernel_rfl)) ?_
  intro W base args ds gs before hval0 hW hcnd hsz0 _
  have hval : ∀ (j : Nat) t v, Try.f5.params[j]? = some t → args[j]? = some v → Value.okWide Try.prog W .any base t v := hval0
  have hW' := hW
  obtain ⟨p, q, hA0, hV, rfl, hfz, hnd⟩ := hW
  have hA : DataW.TrodAll enc Try.prog W 0 (fun _ => true) true Try.f5.params.toList args.toList ds p := hA0
  rw [Try.params5] at hA hval
  obtain ⟨v0, vs0, d0, ds0, p0, q0, hargs, rfl, rfl, h0, r0⟩ := trodAll_cons hA
  obtain ⟨v1, vs1, d1, ds1, p1, q1, rfl, rfl, rfl, h1, r1⟩ := trodAll_cons r0
  obtain ⟨v2, vs2, d2, ds2, p2, q2, rfl, rfl, rfl, h2, r2⟩ := trodAll_cons r1
  obtain ⟨v3, vs3, d3, ds3, p3, q3, rfl, rfl, rfl, h3, r3⟩ := trodAll_cons r2
  obtain ⟨rfl, rfl, rfl⟩ := trodAll_nil r3
  obtain rfl : args = #[v0, v1, v2, v3] := by cases args; simp_all
  obtain ⟨rfl, rfl⟩ := trodVars_none hV
  have k0 := h0
  have lt0 : ∀ x ∈ p0, x.block < W.heap.size := by obtain ⟨m, hm⟩ := k0; exact DataW.trod_lt m _ _ _ hm
  obtain ⟨u0, hu0⟩ := h0
  obtain ⟨x0, K0, g0⟩ := opens_25 _ _ _ _ _ _ _ _ hu0
  obtain ⟨cs0, rfl, hsz0⟩ := okWide_struct Try.underlying25 (hval 0 25 v0 rfl rfl)
  obtain ⟨A0_0, c0_0, A0_1, c0_1, e0, hc0_0, hr0_0, hc0_1, hr0_1⟩ := k25_open K0
  obtain rfl : cs0 = #[.slice A0_0 x0.f0.length c0_0, .slice A0_1 x0.f1.length c0_1] := by
    apply Array.toList_inj.1
    simpa [Value.cells] using e0
  have k1 := h1
  have lt1 : ∀ x ∈ p1, x.block < W.heap.size := by obtain ⟨m, hm⟩ := k1; exact DataW.trod_lt m _ _ _ hm
  obtain ⟨x1, rfl, rfl, rfl, g1⟩ := open_int Try.underlying3 (hval 1 3 v1 rfl rfl) h1
  have k2 := h2
  have lt2 : ∀ x ∈ p2, x.block < W.heap.size := by obtain ⟨m, hm⟩ := k2; exact DataW.trod_lt m _ _ _ hm
  obtain ⟨x2, rfl, rfl, rfl, g2⟩ := open_int Try.underlying26 (hval 2 26 v2 rfl rfl) h2
  have k3 := h3
  have lt3 : ∀ x ∈ p3, x.block < W.heap.size := by obtain ⟨m, hm⟩ := k3; exact DataW.trod_lt m _ _ _ hm
  obtain ⟨x3, rfl, rfl, rfl, g3⟩ := open_int Try.underlying26 (hval 3 26 v3 rfl rfl) h3
  clear hA0 hval0 hsz0
  obtain ⟨k, hk⟩ := Go.Proofs.Ytmkpddhnnejfhaa.P.Pure_DaemonListsWhatItPermits x0 x1 x2 x3 g0 g1 g2 g3
  refine (selfstablaw15_DaemonListsWhatItPermits.calls k A0_0 c0_0 x0.f0 A0_1 c0_1 x0.f1 x1 x2 x3 true W hr0_0 hc0_0 hr0_1 hc0_1 hk).mono fun e W' ⟨he, bel0⟩ => ?_
  have bel : Below W.heap.size W W' := bel0
  subst he
  exact ⟨_, rfl, _, _, _, [], _, [], hW', trodAll_mk1 (shut_bool Try.underlying4 _), (trodAll_cons_mk (Below.trod laidOut_ (by kernel_rfl) (of_decide_eq_true (by kernel_rfl)) k0 bel lt0) (trodAll_cons_mk (shut_int Try.underlying3 g1) (trodAll_cons_mk (shut_int Try.underlying26 g2) (trodAll_cons_mk (shut_int Try.underlying26 g3) trodAll_mk0)))), rfl, bel.frame _, fun h => by cases h⟩
theorem over : Rows.daemonListsWhatItPermitsRow.holds Try.pinned (OpenSpec.ofChange Rows.daemonListsWhatItPermitsSpec) :=
  OpenClaim.holds_of_wide 5 Try.f5 rfl rfl rfl rfl rfl rfl rfl ⟨rfl, rfl, rfl, rfl, rfl⟩ rfl rfl rfl rfl rfl (by kernel_rfl) Try.func5 (by kernel_rfl)
    (of_decide_eq_true (by kernel_rfl)) (by unfold Func.isWrapper; first | (rw [if_pos (by decide +kernel)]; kernel_rfl) | (rw [if_neg (by decide +kernel)]; exact ⟨rfl, rfl⟩))
    (fun os started H enc _ => lifted os started H enc)
theorem proved : Rows.DaemonListsWhatItPermitsSaid := over
#print axioms proved
end Go.Proofs.Ytmkpddhnnejfhaa.daemonListsWhatItPermits
namespace Go.Proofs.Ytmkpddhnnejfhaa
/-- The row, under a short name, for the claim. -/
theorem daemonListsWhatItPermits_holds : Rows.DaemonListsWhatItPermitsSaid := daemonListsWhatItPermits.proved
end Go.Proofs.Ytmkpddhnnejfhaa
