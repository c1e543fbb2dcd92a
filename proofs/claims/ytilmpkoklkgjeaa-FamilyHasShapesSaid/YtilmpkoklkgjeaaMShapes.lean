/- The families up to 24 nodes, computed. -/
import Derived.Test.YtilmpkoklkgjeaaP9
import Derived.Test.YtilmpkoklkgjeaaP2
import Derived.Test.YtilmpkoklkgjeaaGRelGrid
import Derived.Test.YtilmpkoklkgjeaaGRelPath
namespace Go.Proofs.Ytilmpkoklkgjeaa.P
open Go.RowKit Go.Proofs.YtilmpkoklkgjeaaW.PrintWords Go.Proofs.YtilmpkoklkgjeaaW.PrintMore
set_option linter.unusedVariables false
def chkRing (n : Int) : Bool := match family_Ring.f 1001 n with
  | some a => decide (a.2.2 = 0) && decide (selfstablaw03_shape.f 1000 a.1 a.2.1 n n (wrap64 (Int.tdiv n 2)) = some true) && decide (graph_Tree.f 1000 a.1 a.2.1 = some false)
  | none => false
def chkPath (n : Int) : Bool := match family_Path.f 1001 n with
  | some a => decide (a.2.2 = 0) && decide (selfstablaw03_shape.f 1000 a.1 a.2.1 n (wrap64 (n - 1)) (wrap64 (n - 1)) = some true) && decide (graph_Tree.f 1000 a.1 a.2.1 = some true)
  | none => false
def chkStar (n : Int) : Bool := match family_Star.f 1001 n with
  | some a => decide (a.2.2 = 0) && decide (selfstablaw03_shape.f 1000 a.1 a.2.1 n (wrap64 (n - 1)) 2 = some true) && decide (graph_Tree.f 1000 a.1 a.2.1 = some true)
  | none => false
def chkComplete (n : Int) : Bool := match family_Complete.f 1001 n with
  | some a => decide (a.2.2 = 0) && decide (selfstablaw03_shape.f 1000 a.1 a.2.1 n (wrap64 (Int.tdiv (wrap64 (n * (wrap64 (n - 1)))) 2)) 1 = some true)
  | none => false
def chkGrid (a b : Int) : Bool := match family_Grid.f 1001 a b with
  | some x => decide (x.2.2 = 0) && decide (selfstablaw03_shape.f 1000 x.1 x.2.1 (wrap64 (a * b)) (wrap64 ((wrap64 (a * (wrap64 (b - 1)))) + (wrap64 (b * (wrap64 (a - 1)))))) (wrap64 ((wrap64 (a + b)) - 2)) = some true)
  | none => false
set_option maxRecDepth 100000 in
theorem awake_1000 : selfstablaw03_awake.f 1000 = some true := by kernel_rfl
set_option maxRecDepth 100000 in
theorem all_ring : (List.range 22).all (fun i => chkRing (3 + (i : Int))) = true := by kernel_rfl
set_option maxRecDepth 100000 in
theorem all_path : (List.range 22).all (fun i => chkPath (3 + (i : Int))) = true := by kernel_rfl
set_option maxRecDepth 100000 in
theorem all_star : (List.range 22).all (fun i => chkStar (3 + (i : Int))) = true := by kernel_rfl
set_option maxRecDepth 100000 in
theorem all_complete : (List.range 22).all (fun i => chkComplete (3 + (i : Int))) = true := by kernel_rfl
set_option maxRecDepth 100000 in
theorem all_grid : (List.range 4).all (fun i => (List.range 6).all fun j => chkGrid (1 + (i : Int)) (1 + (j : Int))) = true := by kernel_rfl
theorem of_range {p : Int → Bool} {b : Int} {m : Nat} (h : (List.range m).all (fun i => p (b + (i : Int))) = true) (t : Int) (h0 : 0 ≤ t) (h1 : t < m) : p (b + t) = true := by
  have := List.all_eq_true.mp h t.toNat (List.mem_range.mpr (by omega))
  rwa [Int.toNat_of_nonneg h0] at this
theorem ring_ok (t : Int) (h0 : 0 ≤ t) (h1 : t < 22) : ∃ a, family_Ring.f 1001 (3 + t) = some a ∧ a.2.2 = 0 ∧ selfstablaw03_shape.f 1000 a.1 a.2.1 (3 + t) (3 + t) (wrap64 (Int.tdiv (3 + t) 2)) = some true ∧ graph_Tree.f 1000 a.1 a.2.1 = some false := by
  have h := of_range (p := chkRing) all_ring t h0 h1
  unfold chkRing at h
  split at h
  · rename_i a e; simp only [Bool.and_eq_true, decide_eq_true_eq] at h; exact ⟨a, e, h.1.1, h.1.2, h.2⟩
  · cases h
theorem path_ok (t : Int) (h0 : 0 ≤ t) (h1 : t < 22) : ∃ a, family_Path.f 1001 (3 + t) = some a ∧ a.2.2 = 0 ∧ selfstablaw03_shape.f 1000 a.1 a.2.1 (3 + t) (wrap64 ((3 + t) - 1)) (wrap64 ((3 + t) - 1)) = some true ∧ graph_Tree.f 1000 a.1 a.2.1 = some true := by
  have h := of_range (p := chkPath) all_path t h0 h1
  unfold chkPath at h
  split at h
  · rename_i a e; simp only [Bool.and_eq_true, decide_eq_true_eq] at h; exact ⟨a, e, h.1.1, h.1.2, h.2⟩
  · cases h
theorem star_ok (t : Int) (h0 : 0 ≤ t) (h1 : t < 22) : ∃ a, family_Star.f 1001 (3 + t) = some a ∧ a.2.2 = 0 ∧ selfstablaw03_shape.f 1000 a.1 a.2.1 (3 + t) (wrap64 ((3 + t) - 1)) 2 = some true ∧ graph_Tree.f 1000 a.1 a.2.1 = some true := by
  have h := of_range (p := chkStar) all_star t h0 h1
  unfold chkStar at h
  split at h
  · rename_i a e; simp only [Bool.and_eq_true, decide_eq_true_eq] at h; exact ⟨a, e, h.1.1, h.1.2, h.2⟩
  · cases h
theorem complete_ok (t : Int) (h0 : 0 ≤ t) (h1 : t < 22) : ∃ a, family_Complete.f 1001 (3 + t) = some a ∧ a.2.2 = 0 ∧ selfstablaw03_shape.f 1000 a.1 a.2.1 (3 + t) (wrap64 (Int.tdiv (wrap64 ((3 + t) * (wrap64 ((3 + t) - 1)))) 2)) 1 = some true := by
  have h := of_range (p := chkComplete) all_complete t h0 h1
  unfold chkComplete at h
  split at h
  · rename_i a e; simp only [Bool.and_eq_true, decide_eq_true_eq] at h; exact ⟨a, e, h.1, h.2⟩
  · cases h
theorem grid_ok (t u : Int) (h0 : 0 ≤ t) (h1 : t < 4) (g0 : 0 ≤ u) (g1 : u < 6) : ∃ a, family_Grid.f 1001 (1 + t) (1 + u) = some a ∧ a.2.2 = 0 ∧ selfstablaw03_shape.f 1000 a.1 a.2.1 (wrap64 ((1 + t) * (1 + u))) (wrap64 ((wrap64 ((1 + t) * (wrap64 ((1 + u) - 1)))) + (wrap64 ((1 + u) * (wrap64 ((1 + t) - 1)))))) (wrap64 ((wrap64 ((1 + t) + (1 + u))) - 2)) = some true := by
  have h' := of_range (p := fun x => (List.range 6).all fun j => chkGrid x (1 + (j : Int))) all_grid t h0 h1
  have h := of_range (p := fun y => chkGrid (1 + t) y) h' u g0 g1
  simp only [chkGrid] at h
  split at h
  · rename_i a e; simp only [Bool.and_eq_true, decide_eq_true_eq] at h; exact ⟨a, e, h.1, h.2⟩
  · cases h
end Go.Proofs.Ytilmpkoklkgjeaa.P
