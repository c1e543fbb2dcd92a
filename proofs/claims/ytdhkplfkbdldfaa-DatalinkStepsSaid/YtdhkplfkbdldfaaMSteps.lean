/- The reference's Valid and Same, in plain words. -/
import Derived.Test.YtdhkplfkbdldfaaMEv
import Derived.Test.YtdhkplfkbdldfaaGDValid
import Derived.Test.YtdhkplfkbdldfaaP6
import Derived.Test.YtdhkplfkbdldfaaP7
namespace Go.Proofs.Ytdhkplfkbdldfaa.P
open Go.RowKit Go.Proofs.YtdhkplfkbdldfaaW.PrintWords Go.Proofs.YtdhkplfkbdldfaaW.PrintMore
set_option linter.unusedVariables false
theorem in_f (a b c : Int) : selfstabref01_In.f a b c = some (decide (b ≤ a ∧ a ≤ c)) := by
  unfold selfstabref01_In.f
  by_cases h : a ≥ b
  · rw [if_pos h]; congr 1; simp [show b ≤ a from h]
  · rw [if_neg h]; congr 1; simp; omega
def Fo (m : Int) (f : S46) : Prop := 0 ≤ f.f0 ∧ f.f0 < m ∧ -1073741824 ≤ f.f1 ∧ f.f1 ≤ 1073741824
instance (m : Int) (f : S46) : Decidable (Fo m f) := by unfold Fo; infer_instance
theorem drop_rdF (l : List S46) (i : Nat) (h : i < l.length) : l.drop i = rd_T46 l (i : Int) :: l.drop (i + 1) := by
  rw [List.drop_eq_getElem_cons h]
  simp [rd_T46, h]
theorem rv_l1 (a0 m a2 a3 a4 : Int) (l5 : List S46) (l6 : List Int) (hl : l6.length ≤ 100) (hm0 : 0 ≤ m) (hm : m ≤ 64) : ∀ (d i : Nat), i + d = l6.length →
    Ev (fun k => selfstabref42_Valid.l1 k (i : Int) a0 m a2 a3 a4 l5 l6) (decide (∀ a ∈ l6.drop i, 0 ≤ a ∧ a < m)) := by
  intro d
  induction d with
  | zero =>
    intro i hi
    refine Ev.step (fun k => by rw [selfstabref42_Valid.l1]) ?_
    simp only [if_neg (show ¬ (i : Int) < (l6.length : Int) by omega)]
    rw [List.drop_of_length_le (by omega)]
    simp only [List.not_mem_nil, false_implies, implies_true, decide_true]
    exact Ev.now _
  | succ d ih =>
    intro i hi
    refine Ev.step (fun k => by rw [selfstabref42_Valid.l1]) ?_
    simp only [if_pos (show (i : Int) < (l6.length : Int) by omega), if_pos (show 0 ≤ (i : Int) by omega), in_f, Option.bind_some, wrap_nat i (by omega), wrap_id (m - 1) (by omega) (by omega)]
    rw [drop_rd l6 i (by omega)]
    by_cases h : 0 ≤ rd l6 (i : Int) ∧ rd l6 (i : Int) ≤ m - 1
    · simp only [decide_eq_true h, if_true]
      refine Ev_cast (ih (i + 1) (by omega)) ?_
      apply decide_eq_decide.2
      constructor
      · intro hh a ha
        rcases List.mem_cons.1 ha with rfl | ha
        · exact ⟨h.1, by omega⟩
        · exact hh a ha
      · exact fun hh a ha => hh a (List.mem_cons_of_mem _ ha)
    · simp only [decide_eq_false h, Bool.false_eq_true, if_false]
      rw [decide_eq_false (fun hh => h ⟨(hh _ List.mem_cons_self).1, by have := (hh _ List.mem_cons_self).2; omega⟩)]
      exact Ev.now _
theorem rv_l0 (a0 m a2 a3 a4 : Int) (l5 : List S46) (l6 : List Int) (h5 : l5.length ≤ 100) (hl : l6.length ≤ 100) (hm0 : 0 ≤ m) (hm : m ≤ 64) : ∀ (d i : Nat), i + d = l5.length →
    Ev (fun k => selfstabref42_Valid.l0 k (i : Int) a0 m a2 a3 a4 l5 l6) (decide ((∀ f ∈ l5.drop i, Fo m f) ∧ ∀ a ∈ l6, 0 ≤ a ∧ a < m)) := by
  intro d
  induction d with
  | zero =>
    intro i hi
    refine Ev.step (fun k => by rw [selfstabref42_Valid.l0]) ?_
    simp only [if_neg (show ¬ (i : Int) < (l5.length : Int) by omega)]
    rw [List.drop_of_length_le (by omega)]
    refine Ev_cast (rv_l1 a0 m a2 a3 a4 l5 l6 hl hm0 hm l6.length 0 (by omega)) ?_
    simp
  | succ d ih =>
    intro i hi
    refine Ev.step (fun k => by rw [selfstabref42_Valid.l0]) ?_
    simp only [if_pos (show (i : Int) < (l5.length : Int) by omega), if_pos (show 0 ≤ (i : Int) by omega), in_f, Option.bind_some, wrap_nat i (by omega), wrap_id (m - 1) (by omega) (by omega)]
    rw [drop_rdF l5 i (by omega)]
    generalize rd_T46 l5 (i : Int) = f
    have bad : ¬ Fo m f → ¬ ((∀ g ∈ f :: l5.drop (i + 1), Fo m g) ∧ ∀ a ∈ l6, 0 ≤ a ∧ a < m) := fun hn hh => hn (hh.1 _ List.mem_cons_self)
    by_cases h : 0 ≤ f.f0 ∧ f.f0 ≤ m - 1
    · simp only [decide_eq_true h, if_true]
      by_cases h' : -1073741824 ≤ f.f1 ∧ f.f1 ≤ 1073741824
      · simp only [decide_eq_true h', if_true]
        refine Ev_cast (ih (i + 1) (by omega)) ?_
        apply decide_eq_decide.2
        constructor
        · rintro ⟨hh, h2⟩
          refine ⟨fun a ha => ?_, h2⟩
          rcases List.mem_cons.1 ha with rfl | ha
          · exact ⟨h.1, by omega, h'.1, h'.2⟩
          · exact hh a ha
        · exact fun hh => ⟨fun a ha => hh.1 a (List.mem_cons_of_mem _ ha), hh.2⟩
      · simp only [decide_eq_false h', Bool.false_eq_true, if_false]
        rw [decide_eq_false (bad (fun hh => h' ⟨hh.2.2.1, hh.2.2.2⟩))]
        exact Ev.now _
    · simp only [decide_eq_false h, Bool.false_eq_true, if_false]
      rw [decide_eq_false (bad (fun hh => h ⟨hh.1, by have := hh.2.1; omega⟩))]
      exact Ev.now _
theorem refvalid_ev (x : DL) (h5 : x.fr.length ≤ 100) (h6 : x.ak.length ≤ 100) : Ev (fun k => selfstabref42_Valid.f k x.cap x.mod x.lab x.item x.last x.fr x.ak) (decide (ValidD x)) := by
  refine Ev.congr (fun k => by rw [selfstabref42_Valid.f]) ?_
  have bad : ¬ ValidD x → Ev (fun k => selfstabref42_Valid.j0 k true x.cap x.mod x.lab x.item x.last x.fr x.ak) (decide (ValidD x)) := fun hn => by
    refine Ev.step (fun k => by rw [selfstabref42_Valid.j0]) ?_
    simp only [if_true, decide_eq_false hn]
    exact Ev.now _
  simp only [in_f, Option.bind_some]
  by_cases c1 : 1 ≤ x.cap ∧ x.cap ≤ 8
  · have w1 : wrap64 (2 * x.cap) = 2 * x.cap := wrap_id _ (by omega) (by omega)
    have w2 : wrap64 (2 * x.cap + 2) = 2 * x.cap + 2 := wrap_id _ (by omega) (by omega)
    simp only [decide_eq_true c1, if_true, w1, w2]
    by_cases c2 : 2 * x.cap + 2 ≤ x.mod ∧ x.mod ≤ 64
    · have w3 : wrap64 (x.mod - 1) = x.mod - 1 := wrap_id _ (by omega) (by omega)
      simp only [decide_eq_true c2, if_true, w3]
      by_cases c3 : 0 ≤ x.lab ∧ x.lab ≤ x.mod - 1
      · simp only [decide_eq_true c3, if_true]
        by_cases c4 : 0 ≤ x.last ∧ x.last ≤ x.mod - 1
        · simp only [decide_eq_true c4, if_true]
          by_cases c5 : 0 ≤ x.item ∧ x.item ≤ 1073741824
          · simp only [decide_eq_true c5, if_true]
            by_cases c6 : (x.fr.length : Int) > x.cap
            · simp only [if_pos c6]
              exact bad (fun V => by have := V.2.2.2.2.2.2.2.2.2.2.1; omega)
            · simp only [if_neg c6]
              by_cases c7 : (x.ak.length : Int) > x.cap
              · simp only [decide_eq_true c7]
                exact bad (fun V => by have := V.2.2.2.2.2.2.2.2.2.2.2.1; omega)
              · simp only [decide_eq_false c7]
                refine Ev.step (fun k => by rw [selfstabref42_Valid.j0]) ?_
                simp only [Bool.false_eq_true, if_false]
                refine Ev_cast (rv_l0 x.cap x.mod x.lab x.item x.last x.fr x.ak h5 h6 (by omega) (by omega) x.fr.length 0 (by omega)) ?_
                apply decide_eq_decide.2
                rw [List.drop_zero]
                constructor
                · rintro ⟨g1, g2⟩
                  exact ⟨c1.1, c1.2, c2.1, c2.2, c3.1, by omega, c4.1, by omega, c5.1, c5.2, by omega, by omega, g1, g2⟩
                · rintro ⟨_, _, _, _, _, _, _, _, _, _, _, _, g1, g2⟩
                  exact ⟨g1, g2⟩
          · simp only [decide_eq_false c5, Bool.false_eq_true, if_false]
            exact bad (fun V => c5 ⟨V.2.2.2.2.2.2.2.2.1, V.2.2.2.2.2.2.2.2.2.1⟩)
        · simp only [decide_eq_false c4, Bool.false_eq_true, if_false]
          exact bad (fun V => c4 ⟨V.2.2.2.2.2.2.1, by have := V.2.2.2.2.2.2.2.1; omega⟩)
      · simp only [decide_eq_false c3, Bool.false_eq_true, if_false]
        exact bad (fun V => c3 ⟨V.2.2.2.2.1, by have := V.2.2.2.2.2.1; omega⟩)
    · simp only [decide_eq_false c2, Bool.false_eq_true, if_false]
      exact bad (fun V => c2 ⟨V.2.2.1, V.2.2.2.1⟩)
  · simp only [decide_eq_false c1, Bool.false_eq_true, if_false]
    exact bad (fun V => c1 ⟨V.1, V.2.1⟩)
theorem sameints_ev (l : List Int) (hl : l.length ≤ 1000000) : Ev (fun k => selfstabref01_SameInts.f k l l) true := by
  refine Ev.congr (fun k => by rw [selfstabref01_SameInts.f]) ?_
  simp only [if_true]
  suffices h : ∀ (d i : Nat), i + d = l.length → Ev (fun k => selfstabref01_SameInts.l0 k l l (i : Int)) true from h l.length 0 (by omega)
  intro d
  induction d with
  | zero =>
    intro i hi
    refine Ev.step (fun k => by rw [selfstabref01_SameInts.l0]) ?_
    simp only [if_neg (show ¬ (i : Int) < (l.length : Int) by omega)]
    exact Ev.now _
  | succ d ih =>
    intro i hi
    refine Ev.step (fun k => by rw [selfstabref01_SameInts.l0]) ?_
    simp only [if_pos (show (i : Int) < (l.length : Int) by omega), if_pos (show 0 ≤ (i : Int) by omega), if_true, wrap_nat i (by omega)]
    exact ih (i + 1) (by omega)
theorem same_ev (a b c d e : Int) (l5 : List S46) (l6 : List Int) (h5 : l5.length ≤ 1000000) (h6 : l6.length ≤ 1000000) : Ev (fun k => selfstabref42_Same.f k a b c d e l5 l6 a b c d e l5 l6) true := by
  refine Ev.congr (fun k => by rw [selfstabref42_Same.f]) ?_
  simp only [if_true]
  refine Ev.bind (sameints_ev l6 h6) ?_
  refine Ev.step (fun k => by rw [selfstabref42_Same.j0]) ?_
  simp only [Bool.not_true, Bool.false_eq_true, if_false]
  suffices h : ∀ (n i : Nat), i + n = l5.length → Ev (fun k => selfstabref42_Same.l0 k (i : Int) a b c d e l5 l6 a b c d e l5 l6) true from h l5.length 0 (by omega)
  intro n
  induction n with
  | zero =>
    intro i hi
    refine Ev.step (fun k => by rw [selfstabref42_Same.l0]) ?_
    simp only [if_neg (show ¬ (i : Int) < (l5.length : Int) by omega)]
    exact Ev.now _
  | succ n ih =>
    intro i hi
    refine Ev.step (fun k => by rw [selfstabref42_Same.l0]) ?_
    simp only [if_pos (show (i : Int) < (l5.length : Int) by omega), if_pos (show 0 ≤ (i : Int) by omega), beq_self_eq_true, Bool.not_true, Bool.or_false, Bool.false_eq_true, if_false, wrap_nat i (by omega)]
    exact ih (i + 1) (by omega)
end Go.Proofs.Ytdhkplfkbdldfaa.P
