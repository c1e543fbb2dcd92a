/- daemon.Resolve as its callers' prints name it. -/
import Derived.Test.YtmkpddhnnejfhaaGResolveQ
import Derived.Test.YtmkpddhnnejfhaaGResolveL
namespace Go.Proofs.Ytmkpddhnnejfhaa.P
open Go.RowKit Go.Proofs.YtmkpddhnnejfhaaW.PrintWords Go.Proofs.YtmkpddhnnejfhaaW.PrintLast Go.Proofs.YtmkpddhnnejfhaaW.PrintMore
set_option linter.unusedVariables false
def daemon_Resolve.f (k : Nat) (l0_0 : List Int) (l0_1 : List (List Lk)) (a1 : Int) (a2 : Int) (a3 : Int) : Option Int :=
  if a1 = 2 ∧ validB l0_0 l0_1 = true ∧ daemon_nodes.f l0_0 l0_1 a2 = some true ∧ a2 ≠ 0 then lcLoop k l0_0 l0_1 (eachL 32 (wishS a2 a3)) 0 else daemon_ResolveQ.f k l0_0 l0_1 a1 a2 a3
theorem lcLoop_mono (k : Nat) (l0 : List Int) (l1 : List (List Lk)) : ∀ (xs : List Int) (t : Int), LeO (lcLoop k l0 l1 xs t) (lcLoop (k + 1) l0 l1 xs t)
  | [], t => LeO.refl _
  | x :: xs, t => by
    simp only [lcLoop]
    refine LeO.bind (graph_Neighbours.mono _ _ _ _) fun nb => LeO.ite ?_ ?_
    · exact lcLoop_mono k l0 l1 xs _
    · exact lcLoop_mono k l0 l1 xs _
theorem daemon_Resolve.mono : ∀ a0 a1 a2 a3 a4 k, LeO (daemon_Resolve.f k a0 a1 a2 a3 a4) (daemon_Resolve.f (k + 1) a0 a1 a2 a3 a4) := fun a0 a1 a2 a3 a4 k => by
  unfold daemon_Resolve.f
  exact LeO.ite (lcLoop_mono _ _ _ _ _) (daemon_ResolveQ.mono _ _ _ _ _ _)
theorem daemon_Resolve.calls (k : Nat) (A0_0 : Option Addr) (c0_0 : Nat) (l0_0 : List Int) (A0_1 : Option Addr) (c0_1 : Nat) (l0_1 : List (List Lk)) (a1 : Int) (a2 : Int) (a3 : Int) (r : Int) (w : World) (hr0_0 : Kd.C (Kd.int .i64) w A0_0 l0_0.length l0_0) (hc0_0 : l0_0.length ≤ c0_0) (hr0_1 : Kd.C (Kd.slice 58 k58) w A0_1 l0_1.length l0_1) (hc0_1 : l0_1.length ≤ c0_1) (h : daemon_Resolve.f k l0_0 l0_1 a1 a2 a3 = some r) :
    Calls Try.prog 15 #[.agg #[.slice A0_0 l0_0.length c0_0, .slice A0_1 l0_1.length c0_1], .int .i64 a1, .int .u32 a2, .int .u32 a3] w fun e w' => e = .returned (.int .u32 r) ∧ Below w.heap.size w w' := by
  unfold daemon_Resolve.f at h
  split at h
  · rename_i hc
    obtain ⟨rfl, h1, h2, h3⟩ := hc
    exact resolve_local k A0_0 c0_0 l0_0 A0_1 c0_1 l0_1 a2 a3 r w hr0_0 hc0_0 hr0_1 hc0_1 h1 h2 h3 h
  · exact daemon_ResolveQ.calls k A0_0 c0_0 l0_0 A0_1 c0_1 l0_1 a1 a2 a3 r w hr0_0 hc0_0 hr0_1 hc0_1 h
end Go.Proofs.Ytmkpddhnnejfhaa.P
