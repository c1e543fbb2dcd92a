/- daemon.each: the nodes of a set, one after the other, as a contract for ranges over it. -/
import Derived.Test.YtmkpddhnnejfhaaKRange
import Derived.Test.YtmkpddhnnejfhaaMLeast
import Derived.Shelf.Abstract
import Derived.WalkKit
import Derived.OwnWalkIn
import Derived.TacticsInMore
import Derived.LoopNIn
import Derived.LoopIn
namespace Go.Proofs.Ytmkpddhnnejfhaa.P
open Go.RowKit Go.Proofs.YtmkpddhnnejfhaaW.PrintWords Go.Shelf
attribute [local go_sem] Oper.semAt_some
set_option linter.unusedVariables false
theorem least_calls (v : Int) (w : World) : Calls Try.prog 38 #[.int .u32 v] w fun e w' => e = .returned (.int .u32 (leastS v)) ∧ w' = w := by
  go_enter Try.func38, Try.ntmps38
  go_wp2
  go_ret
  exact ⟨rfl, rfl⟩
set_option maxHeartbeats 4000000 in
set_option maxRecDepth 100000 in
theorem each1_in (b n0 : Nat) (v0 : Int) (l : Nat) (J : List Int → World → Prop) (m : Nat) (hv0 : M32 v0)
    (hJ : Stands b J)
    (hY : ∀ pre x W1, J pre W1 → (∃ rest, eachL n0 v0 = pre ++ x :: rest) → YieldAt Fence.wide (m - 1) Try.prog l #[.int .u32 x] W1 fun e W' => e = .returned (.bool true) ∧ J (pre ++ [x]) W' ∧ W'.heap[b]? = W1.heap[b]?)
    (W : World) (hb : W.heap[b]? = some (.cells #[.int .u32 v0] 26 (0, 0))) (h0 : J [] W) (hd : eachDone n0 v0) :
    CallsIn Fence.wide m Try.prog 44 #[.func (.yield l) #[] #[], .pointer (some ⟨b, 0, none⟩)] W fun e W' => (∃ v, e = .returned v) ∧ J (eachL n0 v0) W' := by
  refine callsIn_of_wp Try.func44 rfl trivial ?_ rfl
  simp only [Try.ntmps44, List.size_toArray, List.length_cons, List.length_nil, Nat.reduceAdd, Nat.reduceSub, Array.replicate_succ, Array.replicate_zero, List.push_toArray, List.append_toArray, List.nil_append, List.cons_append]
  gi_wp2
  gi_loopw [3] (fun p wr => ∃ (pre : List Int) (v : Int) (k : Nat), wr.heap[b]? = some (.cells #[.int .u32 v] 26 (0, 0)) ∧ eachL n0 v0 = pre ++ eachL k v ∧ eachDone k v ∧ J pre wr ∧ M32 v)
    (fun p wr => (intOf ((wr.cell? ⟨b, 0, none⟩).getD undef)).toNat)
  case atStart => exact ⟨[], v0, n0, hb, rfl, hd, h0, hv0⟩
  case round =>
    obtain ⟨pre, v, k, hb, hx, hd, hJs, hv⟩ := hrel
    have hc : wr.cell? ⟨b, 0, none⟩ = some (.int .u32 v) := (blk_cell hb 0).trans rfl
    have hf : wr.frozen? ⟨b, 0, none⟩ = false := blk_frozen hb 0
    by_cases h0 : v = 0
    · subst h0
      gi_wp2
      go_end0
      refine ⟨⟨_, rfl⟩, ?_⟩
      rw [hx]
      have e : eachL k 0 = [] := by cases k <;> simp [eachL]
      rw [e, List.append_nil]
      exact hJs
    · have h0b : (v != 0) = true := bne_iff_ne.mpr h0
      have h0c : (v == 0) = false := beq_eq_false_iff_ne.mpr h0
      cases k with
      | zero => exact absurd hd h0
      | succ k =>
        obtain ⟨fn, tmps, assign, body, hy, hR⟩ := hY pre (leastS v) wr hJs ⟨eachL k (Go.bits .andNot .u32 v (leastS v)), by
          rw [hx]
          show pre ++ (if v = 0 then [] else leastS v :: eachL k (Go.bits .andNot .u32 v (leastS v))) = _
          rw [if_neg h0]⟩
        gi_wp2_with (refine ⟨trivial, nofun, ?_⟩; gi_at_call 38; refine (callsIn_wide.2 (least_calls v _)).mono ?_; rintro e w' ⟨rfl, rfl⟩)
        refine ⟨nofun, hR.mono ?_⟩
        rintro e W3 ⟨rfl, hJ3, hb3⟩
        have hb4 : W3.heap[b]? = some (.cells #[.int .u32 v] 26 (0, 0)) := hb3.trans hb
        have hc3 : W3.cell? ⟨b, 0, none⟩ = some (.int .u32 v) := (blk_cell hb4 0).trans rfl
        have hf3 : W3.frozen? ⟨b, 0, none⟩ = false := blk_frozen hb4 0
        gi_wp2
        refine wpIn_wide.2 ?_
        go_region_with (go_at_call 38; refine (least_calls v _).mono ?_; rintro e w' ⟨rfl, rfl⟩)
        all_goals
          obtain ⟨r1, r2⟩ := rest_lt hv h0
          have hJ4 := hJ.2 _ _ (.int .u32 (Go.bits .andNot .u32 v (leastS v))) hJ3
          have hb5 := blk_drew (one_setCell (u := .int .u32 (Go.bits .andNot .u32 v (leastS v))) hb4)
          refine ⟨⟨_, _, _, _, _, _, _, _, _, _, _, ?_, rfl⟩, ?_⟩
          · refine ⟨pre ++ [leastS v], Go.bits .andNot .u32 v (leastS v), k, hb5, ?_, hd.resolve_left h0, hJ.1 _ _ _ hJ4 ⟨rfl, rfl, rfl, Nat.le_refl _, fun _ _ _ => rfl⟩, r1⟩
            rw [hx]
            show pre ++ (if v = 0 then [] else leastS v :: eachL k (Go.bits .andNot .u32 v (leastS v))) = _
            rw [if_neg h0, List.append_assoc]; rfl
          · rw [(blk_cell hb5 0).trans rfl, hc]
            have := r1.1
            simp [intOf]
            omega
/-- The nodes of a set, as a range over 'each' meets them. -/
theorem each_gives (n : Nat) (b : Nat) (v : Int) (hv : M32 v) (w : World) (hb : w.heap[b]? = some (.cells #[.int .u32 v] 26 (0, 0))) :
    GivesAll Fence.wide n Try.prog 44 #[.pointer (some ⟨b, 0, none⟩)] (fun x : Int => #[.int .u32 x]) b (eachL 32 v) w := fun l J W hW hs hJ hY h0 =>
  each1_in b 32 v l J n hv hJ hY W (hW.trans hb) h0 (each_all hv).2
theorem each_calls (v : Int) (w : World) : Calls Try.prog 32 #[.int .u32 v] w fun e w' => e = .returned (.func (.func 44) #[] #[.pointer (some ⟨w.heap.size, 0, none⟩)]) ∧ w' = w.alloc (.cells #[.int .u32 v] 26) := by
  go_enter Try.func32, Try.ntmps32
  go_wp2
  go_ret
  exact ⟨rfl, rfl⟩
end Go.Proofs.Ytmkpddhnnejfhaa.P
