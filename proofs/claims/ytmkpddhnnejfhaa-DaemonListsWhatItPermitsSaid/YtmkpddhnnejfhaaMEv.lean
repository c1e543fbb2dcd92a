/- Small lemmas on the printed functions: rounds, reads, counters. -/
import Derived.Test.YtmkpddhnnejfhaaGLem
import Derived.Test.YtmkpddhnnejfhaaGValid
namespace Go.Proofs.Ytmkpddhnnejfhaa.P
open Go.RowKit Go.Proofs.YtmkpddhnnejfhaaW.PrintWords Go.Proofs.YtmkpddhnnejfhaaW.PrintMore
set_option linter.unusedVariables false
theorem wrap_nat (i : Nat) (h : i < 4611686018427387904) : wrap64 ((i : Int) + 1) = ((i + 1 : Nat) : Int) := by unfold wrap64; omega
theorem wrap_id (x : Int) (h0 : -9223372036854775808 ≤ x) (h1 : x ≤ 9223372036854775807) : wrap64 x = x := by unfold wrap64; omega
theorem Ev_eq {α : Type} {g : Nat → Option α} {r : α} (h : ∀ k, g k = some r) : Ev g r := ⟨0, fun k _ => h k⟩
theorem Ev_uniq {α : Type} {g : Nat → Option α} {r s : α} (h : Ev g r) (k : Ev g s) : r = s := by
  obtain ⟨K, h⟩ := h
  obtain ⟨L, k⟩ := k
  have h1 := h (K + L) (by omega)
  rw [k (K + L) (by omega)] at h1
  exact (Option.some.inj h1).symm
theorem Ev_cast {α : Type} {g : Nat → Option α} {r s : α} (h : Ev g r) (e : r = s) : Ev g s := e ▸ h
theorem rd_getD (l : List Int) (i : Nat) : rd l (i : Int) = l.getD i 0 := by simp [rd]
/-- A big number that no list's length comes near. -/
def Big : Nat := 4611686018427387904
theorem rd_map (f : Nat → Int) (n i : Nat) (h : i < n) : rd ((List.range n).map f) (i : Int) = f i := by
  rw [rd_getD, List.getD_eq_getElem?_getD, List.getElem?_map, List.getElem?_range h]
  rfl
theorem set_map (f : Nat → Int) (n i : Nat) (x : Int) : ((List.range n).map f).set i x = (List.range n).map (fun j => if j = i then x else f j) := by
  apply List.ext_getElem (by simp)
  intro j h1 h2
  simp at h1
  rw [List.getElem_set]
  by_cases e : i = j
  · simp [e]
  · simp [e, show ¬ j = i from fun h => e h.symm]
theorem replicate_map (c : Int) (n : Nat) : List.replicate n c = (List.range n).map (fun _ => c) := by
  apply List.ext_getElem <;> simp
theorem len_map (f : Nat → Int) (n : Nat) : ((List.range n).map f).length = n := by simp
theorem map_congr_n {f g : Nat → Int} {n : Nat} (h : ∀ i, i < n → f i = g i) : (List.range n).map f = (List.range n).map g :=
  List.map_congr_left fun i hi => h i (List.mem_range.1 hi)
theorem prt_big (P : List (List Lk)) (v : Nat) (h : P.length ≤ v) : prt P v = [] := by
  simp [prt, List.getD_eq_getElem?_getD, List.getElem?_eq_none h]
end Go.Proofs.Ytmkpddhnnejfhaa.P
