/- How the arguments of the laws read as the printed kinds. By a program of this session (wip/tools/myrow.py). -/
import Derived.Test.YtilmpkoklkgjeaaP0
import Derived.Deep.Slices
import Derived.ProofKit
import Derived.OpenShut
import Derived.ShutString
import Derived.ChangeOld
import Derived.SizedLaws
namespace Go.Proofs.Ytilmpkoklkgjeaa.P
open Go.RowKit Go.Proofs.YtilmpkoklkgjeaaW.PrintWords Go.Deep
set_option linter.unusedVariables false
/-- Whatever is read at type t is of kind d. -/
def Opens (P : Program) (t : TypeId) {α : Type} (d : Kd α) (G : α → Prop) : Prop :=
  ∀ (H : Type) (enc : TypeId × Value → H) (w : World) (sp : Nat → Bool) (held : Bool) (fuel : Nat) (cs : List Value) (x : DataW H × List MemPlace), DataW.trod enc P w 0 sp held fuel t cs = some x → ∃ y, d.K w y cs ∧ G y
theorem opens_int {P : Program} {t : TypeId} {k : IntKind} (ht : P.underlying t = some (.int k)) : Opens P t (Kd.int k) (fun n => (Lit.int k n).wf = true) := by
  intro H enc w sp held fuel cs x h
  obtain ⟨n, rfl, _, hw⟩ := DataW.trod_int ht h
  exact ⟨n, rfl, hw⟩
theorem opens_bool {P : Program} {t : TypeId} (ht : P.underlying t = some .bool) : Opens P t Kd.bool (fun _ => True) := by
  intro H enc w sp held fuel cs x h
  obtain ⟨b, rfl, _⟩ := DataW.trod_bool ht h
  exact ⟨b, rfl, trivial⟩
theorem opens_str {P : Program} {t : TypeId} (ht : P.underlying t = some .string) : Opens P t Kd.string (fun s => s.size ≤ maxLen) := by
  intro H enc w sp held fuel cs x h
  obtain ⟨s, rfl, _, hs⟩ := DataW.trod_string ht h
  exact ⟨s, rfl, hs⟩
theorem list_of {α : Type} (Q : Nat → α → Prop) : ∀ n : Nat, (∀ i, i < n → ∃ y, Q i y) → ∃ l : List α, l.length = n ∧ ∀ i y, l[i]? = some y → Q i y
  | 0, _ => ⟨[], rfl, fun i y h => by simp at h⟩
  | n + 1, h => by
    obtain ⟨l, hl, hq⟩ := list_of Q n (fun i hi => h i (by omega))
    obtain ⟨y, hy⟩ := h n (by omega)
    refine ⟨l ++ [y], by simp [hl], fun i z hz => ?_⟩
    rcases Nat.lt_or_ge i l.length with hi | hi
    · rw [List.getElem?_append_left hi] at hz
      exact hq i z hz
    · have hin : i = l.length := by
        have := (List.getElem?_eq_some_iff.1 hz).1
        simp at this
        omega
      subst hin
      simp at hz
      subst hz
      rw [hl]
      exact hy
theorem mapM_get {α β : Type} {f : α → Option β} : ∀ (l : List α) (r : List β), l.mapM f = some r → r.length = l.length ∧ ∀ (i : Nat) (u : β), r[i]? = some u → ∃ a, l[i]? = some a ∧ f a = some u
  | [], r, h => by
    simp at h
    subst h
    exact ⟨rfl, fun i u h => by simp at h⟩
  | a :: l, r, h => by
    simp only [List.mapM_cons, Option.bind_eq_bind, Option.bind_eq_some_iff] at h
    obtain ⟨b, hb, r', hr, he⟩ := h
    obtain rfl : b :: r' = r := by simpa using he
    obtain ⟨h1, h2⟩ := mapM_get l r' hr
    refine ⟨by simp [h1], fun i u hu => ?_⟩
    cases i with
    | zero => simp at hu; subst hu; exact ⟨a, rfl, hb⟩
    | succ i => exact h2 i u (by simpa using hu)
theorem opens_slice {P : Program} {t e : TypeId} {α : Type} {d : Kd α} {G : α → Prop} (ht : P.underlying t = some (.slice e)) (hc : P.cellsOf e = d.sz) (hl : ∀ {w x cs}, d.K w x cs → cs.length = d.sz) (he : Opens P e d G) :
    Opens P t (Kd.slice e d) (fun l => l.length ≤ maxLen ∧ ∀ y ∈ l, G y) := by
  intro H enc w sp held fuel cs x h
  rcases Go.Deep.open_slice ht h with ⟨rfl, _⟩ | ⟨a, len, cap, m, n, D, Pl, rfl, _, hlen, hcap, hm, _, hall⟩
  · exact ⟨[], ⟨none, 0, rfl, Nat.le_refl _, rfl, Nat.zero_le _, fun h => absurd h (Nat.lt_irrefl _)⟩, Nat.zero_le _, fun y hy => by simp at hy⟩
  · have hml : len ≤ m := by rw [hm]; split <;> omega
    obtain ⟨l, hll, hq⟩ := list_of (fun i y => ∃ cs', w.cells? 0 (a.add (i * P.cellsOf e)) (P.cellsOf e) = some cs' ∧ d.K w y cs' ∧ G y) len (fun i hi => by
      obtain ⟨cs', h1, h2⟩ := hall i (by omega)
      obtain ⟨y, hk, hg⟩ := he _ _ _ _ _ _ _ _ h2
      exact ⟨y, cs', h1, hk, hg⟩)
    refine ⟨l, ⟨some a, cap, by rw [hll], by omega, rfl, by rw [hll]; exact Nat.le_trans hlen hcap, fun _ => ⟨a, rfl, fun j p hj => ?_⟩⟩, by rw [hll]; exact Nat.le_trans hlen hcap, fun y hy => ?_⟩
    · obtain ⟨cs', h1, hk, _⟩ := hq j p hj
      refine ⟨cs', hl hk, hk, fun i u hu => ?_⟩
      unfold World.cells? at h1
      rw [if_pos (Nat.zero_le _)] at h1
      obtain ⟨h3, h4⟩ := mapM_get _ _ h1
      obtain ⟨i', hi', hu'⟩ := h4 i u hu
      have hii : i' = i := by
        have := (List.getElem?_eq_some_iff.1 hi').2
        simpa using this.symm
      subst hii
      rw [Go.Deep.add_add, hc] at hu'
      exact hu'
    · obtain ⟨i, hi⟩ := List.getElem?_of_mem hy
      obtain ⟨_, _, _, hg⟩ := hq i y hi
      exact hg
theorem split_at (cs : List Value) (off s : Nat) : cs.drop off = (cs.drop off).take s ++ cs.drop (off + s) := by
  rw [← List.drop_drop, List.take_append_drop]
theorem laidOut_ : laidOutB Try.prog = true := by kernel_rfl
theorem own_ : ownKnob Try.prog.godebug = none := by kernel_rfl
theorem cells_3 : Try.prog.cellsOf 3 = 1 := by kernel_rfl
theorem opens_3 : Opens Try.prog 3 (Kd.int .i64) (fun x : Int => (Lit.int .i64 x).wf = true) := opens_int Try.underlying3
theorem cells_22 : Try.prog.cellsOf 22 = 1 := by kernel_rfl
theorem opens_22 : Opens Try.prog 22 (Kd.slice 3 (Kd.int .i64)) (fun x : List Int => (x.length ≤ maxLen ∧ ∀ y0 ∈ x, (Lit.int .i64 y0).wf = true)) := opens_slice Try.underlying22 (by rw [cells_3]; rfl) (fun h => (Kd.int .i64).K_len h) opens_3
def Good50 (x : S50) : Prop := (Lit.int .i64 x.f0).wf = true ∧ (Lit.int .i64 x.f1).wf = true
theorem cells_50 : Try.prog.cellsOf 50 = 2 := by kernel_rfl
theorem opens_50 : Opens Try.prog 50 k50 (fun x : S50 => Good50 x) := by
  intro H enc w sp held fuel cs x h
  obtain ⟨xs, n, rfl, rfl, hlen, hx, hf⟩ := DataW.trod_struct Try.underlying50 h
  rw [cells_50] at hlen
  simp only [List.size_toArray, List.length_cons, List.length_nil] at hx
  have g0 : DataW.trod enc Try.prog w 0 sp held n 3 ((cs.drop 0).take (Try.prog.cellsOf 3)) = xs[0]? := hf 0 _ rfl
  rw [cells_3] at g0
  rw [show xs[0]? = some xs[0] from List.getElem?_eq_getElem (by omega)] at g0
  obtain ⟨y0, k0, q0⟩ := opens_3 _ _ _ _ _ _ _ _ g0
  have g1 : DataW.trod enc Try.prog w 0 sp held n 3 ((cs.drop 1).take (Try.prog.cellsOf 3)) = xs[1]? := hf 1 _ rfl
  rw [cells_3] at g1
  rw [show xs[1]? = some xs[1] from List.getElem?_eq_getElem (by omega)] at g1
  obtain ⟨y1, k1, q1⟩ := opens_3 _ _ _ _ _ _ _ _ g1
  refine ⟨⟨y0, y1⟩, ?_, ⟨q0, q1⟩⟩
  have r1 : ((Kd.int .i64)).K w y1 (cs.drop 1) := by rw [← List.take_of_length_le (show (cs.drop 1).length ≤ 1 by rw [List.length_drop]; omega)]; exact k1
  have r0 : (Kd.pair (Kd.int .i64) (Kd.int .i64)).K w (y0, y1) (cs.drop 0) := ⟨(cs.drop 0).take 1, cs.drop 1, split_at _ _ _, k0, r1⟩
  rw [List.drop_zero] at r0
  exact r0
theorem cells_48 : Try.prog.cellsOf 48 = 1 := by kernel_rfl
theorem opens_48 : Opens Try.prog 48 (Kd.slice 50 k50) (fun x : List S50 => (x.length ≤ maxLen ∧ ∀ y0 ∈ x, Good50 y0)) := opens_slice Try.underlying48 (by rw [cells_50]; rfl) (fun h => k50.K_len h) opens_50
theorem cells_24 : Try.prog.cellsOf 24 = 1 := by kernel_rfl
theorem opens_24 : Opens Try.prog 24 (Kd.slice 48 (Kd.slice 50 k50)) (fun x : List (List S50) => (x.length ≤ maxLen ∧ ∀ y0 ∈ x, (y0.length ≤ maxLen ∧ ∀ y1 ∈ y0, Good50 y1))) := opens_slice Try.underlying24 (by rw [cells_48]; rfl) (fun h => (Kd.slice 50 k50).K_len h) opens_48
def Good26 (x : S26) : Prop := (x.f0.length ≤ maxLen ∧ ∀ y0 ∈ x.f0, (Lit.int .i64 y0).wf = true) ∧ (x.f1.length ≤ maxLen ∧ ∀ y0 ∈ x.f1, (y0.length ≤ maxLen ∧ ∀ y1 ∈ y0, Good50 y1))
theorem cells_26 : Try.prog.cellsOf 26 = 2 := by kernel_rfl
theorem opens_26 : Opens Try.prog 26 k26 (fun x : S26 => Good26 x) := by
  intro H enc w sp held fuel cs x h
  obtain ⟨xs, n, rfl, rfl, hlen, hx, hf⟩ := DataW.trod_struct Try.underlying26 h
  rw [cells_26] at hlen
  simp only [List.size_toArray, List.length_cons, List.length_nil] at hx
  have g0 : DataW.trod enc Try.prog w 0 sp held n 22 ((cs.drop 0).take (Try.prog.cellsOf 22)) = xs[0]? := hf 0 _ rfl
  rw [cells_22] at g0
  rw [show xs[0]? = some xs[0] from List.getElem?_eq_getElem (by omega)] at g0
  obtain ⟨y0, k0, q0⟩ := opens_22 _ _ _ _ _ _ _ _ g0
  have g1 : DataW.trod enc Try.prog w 0 sp held n 24 ((cs.drop 1).take (Try.prog.cellsOf 24)) = xs[1]? := hf 1 _ rfl
  rw [cells_24] at g1
  rw [show xs[1]? = some xs[1] from List.getElem?_eq_getElem (by omega)] at g1
  obtain ⟨y1, k1, q1⟩ := opens_24 _ _ _ _ _ _ _ _ g1
  refine ⟨⟨y0, y1⟩, ?_, ⟨q0, q1⟩⟩
  have r1 : ((Kd.slice 48 (Kd.slice 50 k50))).K w y1 (cs.drop 1) := by rw [← List.take_of_length_le (show (cs.drop 1).length ≤ 1 by rw [List.length_drop]; omega)]; exact k1
  have r0 : (Kd.pair (Kd.slice 3 (Kd.int .i64)) (Kd.slice 48 (Kd.slice 50 k50))).K w (y0, y1) (cs.drop 0) := ⟨(cs.drop 0).take 1, cs.drop 1, split_at _ _ _, k0, r1⟩
  rw [List.drop_zero] at r0
  exact r0
end Go.Proofs.Ytilmpkoklkgjeaa.P
