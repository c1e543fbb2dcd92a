/- How the arguments of the laws read as the printed kinds. By a program of this session (wip/tools/myrow.py). -/
import Derived.Test.YtdhkplfkbdldfaaP0
import Derived.Deep.Slices
import Derived.ProofKit
import Derived.OpenShut
import Derived.ShutString
import Derived.ChangeOld
import Derived.SizedLaws
namespace Go.Proofs.Ytdhkplfkbdldfaa.P
open Go.RowKit Go.Proofs.YtdhkplfkbdldfaaW.PrintWords Go.Deep
set_option linter.unusedVariables false
/-- Whatever is read at type t is of kind d. -/
def Opens (P : Program) (t : TypeId) {α : Type} (d : Kd α) (G : α → Prop) : Prop :=
  ∀ (H : Type) (enc : TypeId × Value → H) (w : World) (sp : Nat → Bool) (held : Bool) (fuel : Nat) (cs : List Value) (x : DataW H × List MemPlace), DataW.trod enc P w 0 sp held fuel t cs = some x → ∃ y, d.K w y cs ∧ G y
theorem opens_int {P : Program} {t : TypeId} {k : IntKind} (ht : P.underlying t = some (.int k)) : Opens P t (Kd.int k) (fun n => (Lit.int k n).wf = true) := by
  intro H enc w sp held fuel cs x h
  obtain ⟨n, rfl, _, hw⟩ := DataW.trod_int ht h
  exact ⟨n, rfl, hw⟩
theorem opens_bool {P : Program} {t : TypeId} (ht : P.underlying t = some .bool) : Opens P t Kd.bool (fun _ => True) := by
  intro H enc w sp held fuel cs x h
  obtain ⟨b, rfl, _⟩ := DataW.trod_bool ht h
  exact ⟨b, rfl, trivial⟩
theorem opens_str {P : Program} {t : TypeId} (ht : P.underlying t = some .string) : Opens P t Kd.string (fun s => s.size ≤ maxLen) := by
  intro H enc w sp held fuel cs x h
  obtain ⟨s, rfl, _, hs⟩ := DataW.trod_string ht h
  exact ⟨s, rfl, hs⟩
theorem list_of {α : Type} (Q : Nat → α → Prop) : ∀ n : Nat, (∀ i, i < n → ∃ y, Q i y) → ∃ l : List α, l.length = n ∧ ∀ i y, l[i]? = some y → Q i y
  | 0, _ => ⟨[], rfl, fun i y h => by simp at h⟩
  | n + 1, h => by
    obtain ⟨l, hl, hq⟩ := list_of Q n (fun i hi => h i (by omega))
    obtain ⟨y, hy⟩ := h n (by omega)
    refine ⟨l ++ [y], by simp [hl], fun i z hz => ?_⟩
    rcases Nat.lt_or_ge i l.length with hi | hi
    · rw [List.getElem?_append_left hi] at hz
      exact hq i z hz
    · have hin : i = l.length := by
        have := (List.getElem?_eq_some_iff.1 hz).1
        simp at this
        omega
      subst hin
      simp at hz
      subst hz
      rw [hl]
      exact hy
theorem mapM_get {α β : Type} {f : α → Option β} : ∀ (l : List α) (r : List β), l.mapM f = some r → r.length = l.length ∧ ∀ (i : Nat) (u : β), r[i]? = some u → ∃ a, l[i]? = some a ∧ f a = some u
  | [], r, h => by
    simp at h
    subst h
    exact ⟨rfl, fun i u h => by simp at h⟩
  | a :: l, r, h => by
    simp only [List.mapM_cons, Option.bind_eq_bind, Option.bind_eq_some_iff] at h
    obtain ⟨b, hb, r', hr, he⟩ := h
    obtain rfl : b :: r' = r := by simpa using he
    obtain ⟨h1, h2⟩ := mapM_get l r' hr
    refine ⟨by simp [h1], fun i u hu => ?_⟩
    cases i with
    | zero => simp at hu; subst hu; exact ⟨a, rfl, hb⟩
    | succ i => exact h2 i u (by simpa using hu)
theorem opens_slice {P : Program} {t e : TypeId} {α : Type} {d : Kd α} {G : α → Prop} (ht : P.underlying t = some (.slice e)) (hc : P.cellsOf e = d.sz) (hl : ∀ {w x cs}, d.K w x cs → cs.length = d.sz) (he : Opens P e d G) :
    Opens P t (Kd.slice e d) (fun l => l.length ≤ maxLen ∧ ∀ y ∈ l, G y) := by
  intro H enc w sp held fuel cs x h
  rcases Go.Deep.open_slice ht h with ⟨rfl, _⟩ | ⟨a, len, cap, m, n, D, Pl, rfl, _, hlen, hcap, hm, _, hall⟩
  · exact ⟨[], ⟨none, 0, rfl, Nat.le_refl _, rfl, Nat.zero_le _, fun h => absurd h (Nat.lt_irrefl _)⟩, Nat.zero_le _, fun y hy => by simp at hy⟩
  · have hml : len ≤ m := by rw [hm]; split <;> omega
    obtain ⟨l, hll, hq⟩ := list_of (fun i y => ∃ cs', w.cells? 0 (a.add (i * P.cellsOf e)) (P.cellsOf e) = some cs' ∧ d.K w y cs' ∧ G y) len (fun i hi => by
      obtain ⟨cs', h1, h2⟩ := hall i (by omega)
      obtain ⟨y, hk, hg⟩ := he _ _ _ _ _ _ _ _ h2
      exact ⟨y, cs', h1, hk, hg⟩)
    refine ⟨l, ⟨some a, cap, by rw [hll], by omega, rfl, by rw [hll]; exact Nat.le_trans hlen hcap, fun _ => ⟨a, rfl, fun j p hj => ?_⟩⟩, by rw [hll]; exact Nat.le_trans hlen hcap, fun y hy => ?_⟩
    · obtain ⟨cs', h1, hk, _⟩ := hq j p hj
      refine ⟨cs', hl hk, hk, fun i u hu => ?_⟩
      unfold World.cells? at h1
      rw [if_pos (Nat.zero_le _)] at h1
      obtain ⟨h3, h4⟩ := mapM_get _ _ h1
      obtain ⟨i', hi', hu'⟩ := h4 i u hu
      have hii : i' = i := by
        have := (List.getElem?_eq_some_iff.1 hi').2
        simpa using this.symm
      subst hii
      rw [Go.Deep.add_add, hc] at hu'
      exact hu'
    · obtain ⟨i, hi⟩ := List.getElem?_of_mem hy
      obtain ⟨_, _, _, hg⟩ := hq i y hi
      exact hg
theorem split_at (cs : List Value) (off s : Nat) : cs.drop off = (cs.drop off).take s ++ cs.drop (off + s) := by
  rw [← List.drop_drop, List.take_append_drop]
theorem laidOut_ : laidOutB Try.prog = true := by kernel_rfl
theorem own_ : ownKnob Try.prog.godebug = none := by kernel_rfl
theorem cells_3 : Try.prog.cellsOf 3 = 1 := by kernel_rfl
theorem opens_3 : Opens Try.prog 3 (Kd.int .i64) (fun x : Int => (Lit.int .i64 x).wf = true) := opens_int Try.underlying3
theorem cells_22 : Try.prog.cellsOf 22 = 1 := by kernel_rfl
theorem opens_22 : Opens Try.prog 22 (Kd.slice 3 (Kd.int .i64)) (fun x : List Int => (x.length ≤ maxLen ∧ ∀ y0 ∈ x, (Lit.int .i64 y0).wf = true)) := opens_slice Try.underlying22 (by rw [cells_3]; rfl) (fun h => (Kd.int .i64).K_len h) opens_3
/-! #### struct type 24: the law's raw link -/
structure S24 where
  f0 : Int
  f1 : Int
  f2 : Int
  f3 : Int
  f4 : Int
  f5 : List Int
  f6 : List Int
  f7 : List Int
def k24 : Kd S24 := Kd.iso (Kd.pair (Kd.int .i64) (Kd.pair (Kd.int .i64) (Kd.pair (Kd.int .i64) (Kd.pair (Kd.int .i64) (Kd.pair (Kd.int .i64) (Kd.pair (Kd.slice 3 (Kd.int .i64)) (Kd.pair (Kd.slice 3 (Kd.int .i64)) (Kd.slice 3 (Kd.int .i64))))))))) (fun x : S24 => (x.f0, x.f1, x.f2, x.f3, x.f4, x.f5, x.f6, x.f7))
theorem k24_open {w : World} {x : S24} {cs : List Value} (h : k24.K w x cs) : ∃ A5 c5 A6 c6 A7 c7, cs = [.int .i64 x.f0, .int .i64 x.f1, .int .i64 x.f2, .int .i64 x.f3, .int .i64 x.f4, .slice A5 x.f5.length c5, .slice A6 x.f6.length c6, .slice A7 x.f7.length c7] ∧ x.f5.length ≤ c5 ∧ (Kd.int .i64).C w A5 x.f5.length x.f5 ∧ x.f6.length ≤ c6 ∧ (Kd.int .i64).C w A6 x.f6.length x.f6 ∧ x.f7.length ≤ c7 ∧ (Kd.int .i64).C w A7 x.f7.length x.f7 := by
  obtain ⟨_, _, rfl, rfl, ⟨_, _, rfl, rfl, ⟨_, _, rfl, rfl, ⟨_, _, rfl, rfl, ⟨_, _, rfl, rfl, ⟨_, _, rfl, ⟨A5, c5, rfl, l5, g5⟩, ⟨_, _, rfl, ⟨A6, c6, rfl, l6, g6⟩, ⟨A7, c7, rfl, l7, g7⟩⟩⟩⟩⟩⟩⟩⟩ := h
  exact ⟨A5, c5, A6, c6, A7, c7, rfl, l5, g5, l6, g6, l7, g7⟩
def Good24 (x : S24) : Prop := (Lit.int .i64 x.f0).wf = true ∧ (Lit.int .i64 x.f1).wf = true ∧ (Lit.int .i64 x.f2).wf = true ∧ (Lit.int .i64 x.f3).wf = true ∧ (Lit.int .i64 x.f4).wf = true ∧ (x.f5.length ≤ maxLen ∧ ∀ y0 ∈ x.f5, (Lit.int .i64 y0).wf = true) ∧ (x.f6.length ≤ maxLen ∧ ∀ y0 ∈ x.f6, (Lit.int .i64 y0).wf = true) ∧ (x.f7.length ≤ maxLen ∧ ∀ y0 ∈ x.f7, (Lit.int .i64 y0).wf = true)
theorem cells_24 : Try.prog.cellsOf 24 = 8 := by kernel_rfl
theorem opens_24 : Opens Try.prog 24 k24 (fun x : S24 => Good24 x) := by
  intro H enc w sp held fuel cs x h
  obtain ⟨xs, n, rfl, rfl, hlen, hx, hf⟩ := DataW.trod_struct Try.underlying24 h
  rw [cells_24] at hlen
  simp only [List.size_toArray, List.length_cons, List.length_nil] at hx
  have g0 : DataW.trod enc Try.prog w 0 sp held n 3 ((cs.drop 0).take (Try.prog.cellsOf 3)) = xs[0]? := hf 0 _ rfl
  rw [cells_3] at g0
  rw [show xs[0]? = some xs[0] from List.getElem?_eq_getElem (by omega)] at g0
  obtain ⟨y0, k0, q0⟩ := opens_3 _ _ _ _ _ _ _ _ g0
  have g1 : DataW.trod enc Try.prog w 0 sp held n 3 ((cs.drop 1).take (Try.prog.cellsOf 3)) = xs[1]? := hf 1 _ rfl
  rw [cells_3] at g1
  rw [show xs[1]? = some xs[1] from List.getElem?_eq_getElem (by omega)] at g1
  obtain ⟨y1, k1, q1⟩ := opens_3 _ _ _ _ _ _ _ _ g1
  have g2 : DataW.trod enc Try.prog w 0 sp held n 3 ((cs.drop 2).take (Try.prog.cellsOf 3)) = xs[2]? := hf 2 _ rfl
  rw [cells_3] at g2
  rw [show xs[2]? = some xs[2] from List.getElem?_eq_getElem (by omega)] at g2
  obtain ⟨y2, k2, q2⟩ := opens_3 _ _ _ _ _ _ _ _ g2
  have g3 : DataW.trod enc Try.prog w 0 sp held n 3 ((cs.drop 3).take (Try.prog.cellsOf 3)) = xs[3]? := hf 3 _ rfl
  rw [cells_3] at g3
  rw [show xs[3]? = some xs[3] from List.getElem?_eq_getElem (by omega)] at g3
  obtain ⟨y3, k3, q3⟩ := opens_3 _ _ _ _ _ _ _ _ g3
  have g4 : DataW.trod enc Try.prog w 0 sp held n 3 ((cs.drop 4).take (Try.prog.cellsOf 3)) = xs[4]? := hf 4 _ rfl
  rw [cells_3] at g4
  rw [show xs[4]? = some xs[4] from List.getElem?_eq_getElem (by omega)] at g4
  obtain ⟨y4, k4, q4⟩ := opens_3 _ _ _ _ _ _ _ _ g4
  have g5 : DataW.trod enc Try.prog w 0 sp held n 22 ((cs.drop 5).take (Try.prog.cellsOf 22)) = xs[5]? := hf 5 _ rfl
  rw [cells_22] at g5
  rw [show xs[5]? = some xs[5] from List.getElem?_eq_getElem (by omega)] at g5
  obtain ⟨y5, k5, q5⟩ := opens_22 _ _ _ _ _ _ _ _ g5
  have g6 : DataW.trod enc Try.prog w 0 sp held n 22 ((cs.drop 6).take (Try.prog.cellsOf 22)) = xs[6]? := hf 6 _ rfl
  rw [cells_22] at g6
  rw [show xs[6]? = some xs[6] from List.getElem?_eq_getElem (by omega)] at g6
  obtain ⟨y6, k6, q6⟩ := opens_22 _ _ _ _ _ _ _ _ g6
  have g7 : DataW.trod enc Try.prog w 0 sp held n 22 ((cs.drop 7).take (Try.prog.cellsOf 22)) = xs[7]? := hf 7 _ rfl
  rw [cells_22] at g7
  rw [show xs[7]? = some xs[7] from List.getElem?_eq_getElem (by omega)] at g7
  obtain ⟨y7, k7, q7⟩ := opens_22 _ _ _ _ _ _ _ _ g7
  refine ⟨⟨y0, y1, y2, y3, y4, y5, y6, y7⟩, ?_, ⟨q0, q1, q2, q3, q4, q5, q6, q7⟩⟩
  have r7 : ((Kd.slice 3 (Kd.int .i64))).K w y7 (cs.drop 7) := by rw [← List.take_of_length_le (show (cs.drop 7).length ≤ 1 by rw [List.length_drop]; omega)]; exact k7
  have r6 : (Kd.pair (Kd.slice 3 (Kd.int .i64)) (Kd.slice 3 (Kd.int .i64))).K w (y6, y7) (cs.drop 6) := ⟨(cs.drop 6).take 1, cs.drop 7, split_at _ _ _, k6, r7⟩
  have r5 : (Kd.pair (Kd.slice 3 (Kd.int .i64)) (Kd.pair (Kd.slice 3 (Kd.int .i64)) (Kd.slice 3 (Kd.int .i64)))).K w (y5, (y6, y7)) (cs.drop 5) := ⟨(cs.drop 5).take 1, cs.drop 6, split_at _ _ _, k5, r6⟩
  have r4 : (Kd.pair (Kd.int .i64) (Kd.pair (Kd.slice 3 (Kd.int .i64)) (Kd.pair (Kd.slice 3 (Kd.int .i64)) (Kd.slice 3 (Kd.int .i64))))).K w (y4, (y5, (y6, y7))) (cs.drop 4) := ⟨(cs.drop 4).take 1, cs.drop 5, split_at _ _ _, k4, r5⟩
  have r3 : (Kd.pair (Kd.int .i64) (Kd.pair (Kd.int .i64) (Kd.pair (Kd.slice 3 (Kd.int .i64)) (Kd.pair (Kd.slice 3 (Kd.int .i64)) (Kd.slice 3 (Kd.int .i64)))))).K w (y3, (y4, (y5, (y6, y7)))) (cs.drop 3) := ⟨(cs.drop 3).take 1, cs.drop 4, split_at _ _ _, k3, r4⟩
  have r2 : (Kd.pair (Kd.int .i64) (Kd.pair (Kd.int .i64) (Kd.pair (Kd.int .i64) (Kd.pair (Kd.slice 3 (Kd.int .i64)) (Kd.pair (Kd.slice 3 (Kd.int .i64)) (Kd.slice 3 (Kd.int .i64))))))).K w (y2, (y3, (y4, (y5, (y6, y7))))) (cs.drop 2) := ⟨(cs.drop 2).take 1, cs.drop 3, split_at _ _ _, k2, r3⟩
  have r1 : (Kd.pair (Kd.int .i64) (Kd.pair (Kd.int .i64) (Kd.pair (Kd.int .i64) (Kd.pair (Kd.int .i64) (Kd.pair (Kd.slice 3 (Kd.int .i64)) (Kd.pair (Kd.slice 3 (Kd.int .i64)) (Kd.slice 3 (Kd.int .i64)))))))).K w (y1, (y2, (y3, (y4, (y5, (y6, y7)))))) (cs.drop 1) := ⟨(cs.drop 1).take 1, cs.drop 2, split_at _ _ _, k1, r2⟩
  have r0 : (Kd.pair (Kd.int .i64) (Kd.pair (Kd.int .i64) (Kd.pair (Kd.int .i64) (Kd.pair (Kd.int .i64) (Kd.pair (Kd.int .i64) (Kd.pair (Kd.slice 3 (Kd.int .i64)) (Kd.pair (Kd.slice 3 (Kd.int .i64)) (Kd.slice 3 (Kd.int .i64))))))))).K w (y0, (y1, (y2, (y3, (y4, (y5, (y6, y7))))))) (cs.drop 0) := ⟨(cs.drop 0).take 1, cs.drop 1, split_at _ _ _, k0, r1⟩
  rw [List.drop_zero] at r0
  exact r0
def Good40 (x : S40) : Prop := (Lit.int .i64 x.f0).wf = true ∧ (Lit.int .i64 x.f1).wf = true
theorem cells_40 : Try.prog.cellsOf 40 = 2 := by kernel_rfl
theorem opens_40 : Opens Try.prog 40 k40 (fun x : S40 => Good40 x) := by
  intro H enc w sp held fuel cs x h
  obtain ⟨xs, n, rfl, rfl, hlen, hx, hf⟩ := DataW.trod_struct Try.underlying40 h
  rw [cells_40] at hlen
  simp only [List.size_toArray, List.length_cons, List.length_nil] at hx
  have g0 : DataW.trod enc Try.prog w 0 sp held n 3 ((cs.drop 0).take (Try.prog.cellsOf 3)) = xs[0]? := hf 0 _ rfl
  rw [cells_3] at g0
  rw [show xs[0]? = some xs[0] from List.getElem?_eq_getElem (by omega)] at g0
  obtain ⟨y0, k0, q0⟩ := opens_3 _ _ _ _ _ _ _ _ g0
  have g1 : DataW.trod enc Try.prog w 0 sp held n 3 ((cs.drop 1).take (Try.prog.cellsOf 3)) = xs[1]? := hf 1 _ rfl
  rw [cells_3] at g1
  rw [show xs[1]? = some xs[1] from List.getElem?_eq_getElem (by omega)] at g1
  obtain ⟨y1, k1, q1⟩ := opens_3 _ _ _ _ _ _ _ _ g1
  refine ⟨⟨y0, y1⟩, ?_, ⟨q0, q1⟩⟩
  have r1 : ((Kd.int .i64)).K w y1 (cs.drop 1) := by rw [← List.take_of_length_le (show (cs.drop 1).length ≤ 1 by rw [List.length_drop]; omega)]; exact k1
  have r0 : (Kd.pair (Kd.int .i64) (Kd.int .i64)).K w (y0, y1) (cs.drop 0) := ⟨(cs.drop 0).take 1, cs.drop 1, split_at _ _ _, k0, r1⟩
  rw [List.drop_zero] at r0
  exact r0
theorem cells_25 : Try.prog.cellsOf 25 = 1 := by kernel_rfl
theorem opens_25 : Opens Try.prog 25 (Kd.slice 40 k40) (fun x : List S40 => (x.length ≤ maxLen ∧ ∀ y0 ∈ x, Good40 y0)) := opens_slice Try.underlying25 (by rw [cells_40]; rfl) (fun h => k40.K_len h) opens_40
def Good46 (x : S46) : Prop := (Lit.int .i64 x.f0).wf = true ∧ (Lit.int .i64 x.f1).wf = true
theorem cells_46 : Try.prog.cellsOf 46 = 2 := by kernel_rfl
theorem opens_46 : Opens Try.prog 46 k46 (fun x : S46 => Good46 x) := by
  intro H enc w sp held fuel cs x h
  obtain ⟨xs, n, rfl, rfl, hlen, hx, hf⟩ := DataW.trod_struct Try.underlying46 h
  rw [cells_46] at hlen
  simp only [List.size_toArray, List.length_cons, List.length_nil] at hx
  have g0 : DataW.trod enc Try.prog w 0 sp held n 3 ((cs.drop 0).take (Try.prog.cellsOf 3)) = xs[0]? := hf 0 _ rfl
  rw [cells_3] at g0
  rw [show xs[0]? = some xs[0] from List.getElem?_eq_getElem (by omega)] at g0
  obtain ⟨y0, k0, q0⟩ := opens_3 _ _ _ _ _ _ _ _ g0
  have g1 : DataW.trod enc Try.prog w 0 sp held n 3 ((cs.drop 1).take (Try.prog.cellsOf 3)) = xs[1]? := hf 1 _ rfl
  rw [cells_3] at g1
  rw [show xs[1]? = some xs[1] from List.getElem?_eq_getElem (by omega)] at g1
  obtain ⟨y1, k1, q1⟩ := opens_3 _ _ _ _ _ _ _ _ g1
  refine ⟨⟨y0, y1⟩, ?_, ⟨q0, q1⟩⟩
  have r1 : ((Kd.int .i64)).K w y1 (cs.drop 1) := by rw [← List.take_of_length_le (show (cs.drop 1).length ≤ 1 by rw [List.length_drop]; omega)]; exact k1
  have r0 : (Kd.pair (Kd.int .i64) (Kd.int .i64)).K w (y0, y1) (cs.drop 0) := ⟨(cs.drop 0).take 1, cs.drop 1, split_at _ _ _, k0, r1⟩
  rw [List.drop_zero] at r0
  exact r0
theorem cells_27 : Try.prog.cellsOf 27 = 1 := by kernel_rfl
theorem opens_27 : Opens Try.prog 27 (Kd.slice 46 k46) (fun x : List S46 => (x.length ≤ maxLen ∧ ∀ y0 ∈ x, Good46 y0)) := opens_slice Try.underlying27 (by rw [cells_46]; rfl) (fun h => k46.K_len h) opens_46
def Good29 (x : S29) : Prop := (Lit.int .i64 x.f0).wf = true ∧ (Lit.int .i64 x.f1).wf = true ∧ (Lit.int .i64 x.f2).wf = true ∧ (Lit.int .i64 x.f3).wf = true ∧ (Lit.int .i64 x.f4).wf = true ∧ (x.f5.length ≤ maxLen ∧ ∀ y0 ∈ x.f5, Good46 y0) ∧ (x.f6.length ≤ maxLen ∧ ∀ y0 ∈ x.f6, (Lit.int .i64 y0).wf = true)
theorem cells_29 : Try.prog.cellsOf 29 = 7 := by kernel_rfl
theorem opens_29 : Opens Try.prog 29 k29 (fun x : S29 => Good29 x) := by
  intro H enc w sp held fuel cs x h
  obtain ⟨xs, n, rfl, rfl, hlen, hx, hf⟩ := DataW.trod_struct Try.underlying29 h
  rw [cells_29] at hlen
  simp only [List.size_toArray, List.length_cons, List.length_nil] at hx
  have g0 : DataW.trod enc Try.prog w 0 sp held n 3 ((cs.drop 0).take (Try.prog.cellsOf 3)) = xs[0]? := hf 0 _ rfl
  rw [cells_3] at g0
  rw [show xs[0]? = some xs[0] from List.getElem?_eq_getElem (by omega)] at g0
  obtain ⟨y0, k0, q0⟩ := opens_3 _ _ _ _ _ _ _ _ g0
  have g1 : DataW.trod enc Try.prog w 0 sp held n 3 ((cs.drop 1).take (Try.prog.cellsOf 3)) = xs[1]? := hf 1 _ rfl
  rw [cells_3] at g1
  rw [show xs[1]? = some xs[1] from List.getElem?_eq_getElem (by omega)] at g1
  obtain ⟨y1, k1, q1⟩ := opens_3 _ _ _ _ _ _ _ _ g1
  have g2 : DataW.trod enc Try.prog w 0 sp held n 3 ((cs.drop 2).take (Try.prog.cellsOf 3)) = xs[2]? := hf 2 _ rfl
  rw [cells_3] at g2
  rw [show xs[2]? = some xs[2] from List.getElem?_eq_getElem (by omega)] at g2
  obtain ⟨y2, k2, q2⟩ := opens_3 _ _ _ _ _ _ _ _ g2
  have g3 : DataW.trod enc Try.prog w 0 sp held n 3 ((cs.drop 3).take (Try.prog.cellsOf 3)) = xs[3]? := hf 3 _ rfl
  rw [cells_3] at g3
  rw [show xs[3]? = some xs[3] from List.getElem?_eq_getElem (by omega)] at g3
  obtain ⟨y3, k3, q3⟩ := opens_3 _ _ _ _ _ _ _ _ g3
  have g4 : DataW.trod enc Try.prog w 0 sp held n 3 ((cs.drop 4).take (Try.prog.cellsOf 3)) = xs[4]? := hf 4 _ rfl
  rw [cells_3] at g4
  rw [show xs[4]? = some xs[4] from List.getElem?_eq_getElem (by omega)] at g4
  obtain ⟨y4, k4, q4⟩ := opens_3 _ _ _ _ _ _ _ _ g4
  have g5 : DataW.trod enc Try.prog w 0 sp held n 27 ((cs.drop 5).take (Try.prog.cellsOf 27)) = xs[5]? := hf 5 _ rfl
  rw [cells_27] at g5
  rw [show xs[5]? = some xs[5] from List.getElem?_eq_getElem (by omega)] at g5
  obtain ⟨y5, k5, q5⟩ := opens_27 _ _ _ _ _ _ _ _ g5
  have g6 : DataW.trod enc Try.prog w 0 sp held n 22 ((cs.drop 6).take (Try.prog.cellsOf 22)) = xs[6]? := hf 6 _ rfl
  rw [cells_22] at g6
  rw [show xs[6]? = some xs[6] from List.getElem?_eq_getElem (by omega)] at g6
  obtain ⟨y6, k6, q6⟩ := opens_22 _ _ _ _ _ _ _ _ g6
  refine ⟨⟨y0, y1, y2, y3, y4, y5, y6⟩, ?_, ⟨q0, q1, q2, q3, q4, q5, q6⟩⟩
  have r6 : ((Kd.slice 3 (Kd.int .i64))).K w y6 (cs.drop 6) := by rw [← List.take_of_length_le (show (cs.drop 6).length ≤ 1 by rw [List.length_drop]; omega)]; exact k6
  have r5 : (Kd.pair (Kd.slice 46 k46) (Kd.slice 3 (Kd.int .i64))).K w (y5, y6) (cs.drop 5) := ⟨(cs.drop 5).take 1, cs.drop 6, split_at _ _ _, k5, r6⟩
  have r4 : (Kd.pair (Kd.int .i64) (Kd.pair (Kd.slice 46 k46) (Kd.slice 3 (Kd.int .i64)))).K w (y4, (y5, y6)) (cs.drop 4) := ⟨(cs.drop 4).take 1, cs.drop 5, split_at _ _ _, k4, r5⟩
  have r3 : (Kd.pair (Kd.int .i64) (Kd.pair (Kd.int .i64) (Kd.pair (Kd.slice 46 k46) (Kd.slice 3 (Kd.int .i64))))).K w (y3, (y4, (y5, y6))) (cs.drop 3) := ⟨(cs.drop 3).take 1, cs.drop 4, split_at _ _ _, k3, r4⟩
  have r2 : (Kd.pair (Kd.int .i64) (Kd.pair (Kd.int .i64) (Kd.pair (Kd.int .i64) (Kd.pair (Kd.slice 46 k46) (Kd.slice 3 (Kd.int .i64)))))).K w (y2, (y3, (y4, (y5, y6)))) (cs.drop 2) := ⟨(cs.drop 2).take 1, cs.drop 3, split_at _ _ _, k2, r3⟩
  have r1 : (Kd.pair (Kd.int .i64) (Kd.pair (Kd.int .i64) (Kd.pair (Kd.int .i64) (Kd.pair (Kd.int .i64) (Kd.pair (Kd.slice 46 k46) (Kd.slice 3 (Kd.int .i64))))))).K w (y1, (y2, (y3, (y4, (y5, y6))))) (cs.drop 1) := ⟨(cs.drop 1).take 1, cs.drop 2, split_at _ _ _, k1, r2⟩
  have r0 : (Kd.pair (Kd.int .i64) (Kd.pair (Kd.int .i64) (Kd.pair (Kd.int .i64) (Kd.pair (Kd.int .i64) (Kd.pair (Kd.int .i64) (Kd.pair (Kd.slice 46 k46) (Kd.slice 3 (Kd.int .i64)))))))).K w (y0, (y1, (y2, (y3, (y4, (y5, y6)))))) (cs.drop 0) := ⟨(cs.drop 0).take 1, cs.drop 1, split_at _ _ _, k0, r1⟩
  rw [List.drop_zero] at r0
  exact r0
end Go.Proofs.Ytdhkplfkbdldfaa.P
