/- What is delivered, held against the awaited items: over all events. -/
import Derived.Test.YtdhkplfkbdldfaaGDRun
import Derived.Test.YtdhkplfkbdldfaaMLink
namespace Go.Proofs.Ytdhkplfkbdldfaa.P
set_option linter.unusedVariables false
def awaits (f : Int) : Int → List Int → Option Int
  | n, [] => some n
  | n, d :: r => (await f n d).bind fun n' => awaits f n' r
theorem awaits_append (f : Int) : ∀ (l : List Int) (n d : Int), awaits f n (l ++ [d]) = (awaits f n l).bind fun n' => await f n' d
  | [], n, d => by simp only [List.nil_append, awaits, Option.bind_some]; cases await f n d <;> rfl
  | a :: l, n, d => by
    simp only [List.cons_append, awaits]
    cases await f n a with
    | none => rfl
    | some n' => simp only [Option.bind_some]; exact awaits_append f l n' d
theorem run_way {x : DL} {L0 I0 j f n : Int} (hv : ValidD x) (hj0 : 0 ≤ j) (hj : j < x.mod) (hf : f = I0 + x.mod - 1) (hi : x.item < 1000) (h : Way L0 I0 j f n x) (l : List S40) (hl : l.length ≤ 65536) :
    ∀ k, k ≤ l.length → ∃ n', awaits f n (runD x (l.take k)).2 = some n' ∧ Way L0 I0 j f n' (runD x (l.take k)).1 ∧ (runD x (l.take k)).1.mod = x.mod ∧ (runD x (l.take k)).1.item ≤ x.item + k := by
  intro k
  induction k with
  | zero => intro _; exact ⟨n, rfl, h, rfl, by show x.item ≤ _; omega⟩
  | succ k ih =>
    intro hk
    obtain ⟨n1, h1, h2, h3, h4⟩ := ih (by omega)
    have hvk := (runD_inv x hv l k (by omega)).1
    rw [runD_take x l k (by omega)]
    obtain ⟨n', h5, h6⟩ := way_step hvk hj0 (by rw [h3]; exact hj) (by rw [h3]; exact hf) (by omega) h2 l[k].f0 l[k].f1
    refine ⟨n', ?_, h6, (stepD_const _ _ _).2.trans h3, by have := (item_step hvk l[k].f0 l[k].f1).2; show (stepD _ _ _).1.item ≤ _; omega⟩
    unfold stepR
    dsimp only
    split
    · rename_i hd
      rw [if_pos hd] at h5
      rw [awaits_append, h1]
      exact h5
    · rename_i hd
      rw [if_neg hd] at h5
      rw [h1]; exact h5
end Go.Proofs.Ytdhkplfkbdldfaa.P
