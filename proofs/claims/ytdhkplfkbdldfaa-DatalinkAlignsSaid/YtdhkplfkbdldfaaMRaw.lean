/- Raw.Link: a valid link out of whatever numbers. -/
import Derived.Test.YtdhkplfkbdldfaaMEv
import Derived.Test.YtdhkplfkbdldfaaMLink
import Derived.Test.YtdhkplfkbdldfaaP3
import Derived.Test.YtdhkplfkbdldfaaP4
namespace Go.Proofs.Ytdhkplfkbdldfaa.P
open Go.RowKit Go.Proofs.YtdhkplfkbdldfaaW.PrintWords Go.Proofs.YtdhkplfkbdldfaaW.PrintMore
set_option linter.unusedVariables false
theorem within_some (a b : Int) (h1 : 1 ≤ b) (h2 : b ≤ 1000000) : ∃ v, selfstabworld_Within.f a b = some v ∧ 0 ≤ v ∧ v < b := by
  unfold selfstabworld_Within.f
  rw [if_neg (show ¬ b < 1 by omega), if_neg (show ¬ b = 0 by omega)]

  have e0 := Int.emod_nonneg a (show b ≠ 0 by omega)
  have e1 := Int.emod_lt_of_pos a (show 0 < b by omega)
  have hlt : -b < Int.tmod a b ∧ Int.tmod a b < b := by
    constructor
    · have := Int.lt_tmod_of_pos a (show 0 < b by omega); omega
    · exact Int.tmod_lt_of_pos a (by omega)
  by_cases h : Int.tmod a b < 0
  · rw [if_pos h]
    refine ⟨_, rfl, ?_, ?_⟩ <;> rw [wrap_id _ (by omega) (by omega)] <;> omega
  · rw [if_neg h]
    exact ⟨_, rfl, by omega, hlt.2⟩
theorem raw_l1 (a0 a1 a2 a3 a4 : Int) (l5 l6 l7 : List Int) (cap mod lab item last : Int) (fr : List Fr) (hc : cap ≤ 8) (hm1 : 1 ≤ mod) (hm2 : mod ≤ 64) :
    ∀ (d i : Nat) (ak : List Int), (i : Int) + d = cap → ak.length = i → (∀ a ∈ ak, 0 ≤ a ∧ a < mod) →
    ∃ ak', Ev (fun k => selfstablaw42_Raw_Link.l1 k (i : Int) a0 a1 a2 a3 a4 l5 l6 l7 cap mod lab item last fr ak) (cap, mod, lab, item, last, fr, ak') ∧ (ak'.length : Int) ≤ cap ∧ ∀ a ∈ ak', 0 ≤ a ∧ a < mod := by
  intro d
  induction d with
  | zero =>
    intro i ak hi hl ha
    refine ⟨ak, ?_, by omega, ha⟩
    refine Ev.step (fun k => by rw [selfstablaw42_Raw_Link.l1]) ?_
    by_cases h : (i : Int) < (l7.length : Int)
    · simp only [if_pos h, if_neg (show ¬ (i : Int) < cap by omega)]; exact Ev.now _
    · simp only [if_neg h]; exact Ev.now _
  | succ d ih =>
    intro i ak hi hl ha
    by_cases h : (i : Int) < (l7.length : Int)
    · obtain ⟨v, hv, v0, v1⟩ := within_some (rd l7 (i : Int)) mod hm1 (by omega)
      obtain ⟨ak', he, hlen, hall⟩ := ih (i + 1) (ak ++ [v]) (by omega) (by simp; omega) (by
        intro a h'
        rcases List.mem_append.1 h' with h' | h'
        · exact ha a h'
        · rw [List.mem_singleton.1 h']; exact ⟨v0, v1⟩)
      refine ⟨ak', ?_, hlen, hall⟩
      refine Ev.step (fun k => by rw [selfstablaw42_Raw_Link.l1]) ?_
      simp only [if_pos h, if_pos (show (i : Int) < cap by omega), if_pos (show 0 ≤ (i : Int) by omega), hv, Option.bind_some, if_pos (show ak.length < 17592186044416 by omega), wrap_nat i (by omega)]
      exact he
    · refine ⟨ak, ?_, by omega, ha⟩
      refine Ev.step (fun k => by rw [selfstablaw42_Raw_Link.l1]) ?_
      simp only [if_neg h]; exact Ev.now _
def FrGood (mod : Int) (f : Fr) : Prop := 0 ≤ f.f0 ∧ f.f0 < mod ∧ -60 ≤ f.f1 ∧ f.f1 < 0
theorem raw_l0 (a0 a1 a2 a3 a4 : Int) (l5 l6 l7 : List Int) (cap mod lab item last : Int) (hc0 : 0 ≤ cap) (hc : cap ≤ 8) (hm1 : 1 ≤ mod) (hm2 : mod ≤ 64) :
    ∀ (d i : Nat) (fr : List Fr), (i : Int) + d = cap → fr.length = i → (∀ f ∈ fr, FrGood mod f) →
    ∃ fr' ak', Ev (fun k => selfstablaw42_Raw_Link.l0 k (i : Int) a0 a1 a2 a3 a4 l5 l6 l7 cap mod lab item last fr) (cap, mod, lab, item, last, fr', ak') ∧ (fr'.length : Int) ≤ cap ∧ (∀ f ∈ fr', FrGood mod f) ∧ (ak'.length : Int) ≤ cap ∧ ∀ a ∈ ak', 0 ≤ a ∧ a < mod := by
  have fin : ∀ (i : Nat) (fr : List Fr), (fr.length : Int) ≤ cap → (∀ f ∈ fr, FrGood mod f) → ∃ fr' ak', Ev (fun k => selfstablaw42_Raw_Link.j1 k (i : Int) false a0 a1 a2 a3 a4 l5 l6 l7 cap mod lab item last fr) (cap, mod, lab, item, last, fr', ak') ∧ (fr'.length : Int) ≤ cap ∧ (∀ f ∈ fr', FrGood mod f) ∧ (ak'.length : Int) ≤ cap ∧ ∀ a ∈ ak', 0 ≤ a ∧ a < mod := by
    intro i fr hl hf
    obtain ⟨ak', he, h1, h2⟩ := raw_l1 a0 a1 a2 a3 a4 l5 l6 l7 cap mod lab item last fr hc hm1 hm2 cap.toNat 0 [] (by omega) rfl nofun
    refine ⟨fr, ak', ?_, hl, hf, h1, h2⟩
    refine Ev.step (fun k => by rw [selfstablaw42_Raw_Link.j1]) ?_
    simp only [Bool.false_eq_true, if_false]
    exact he
  intro d
  induction d with
  | zero =>
    intro i fr hi hl hf
    obtain ⟨fr', ak', he, h⟩ := fin i fr (by omega) hf
    refine ⟨fr', ak', ?_, h⟩
    refine Ev.step (fun k => by rw [selfstablaw42_Raw_Link.l0]) ?_
    simp only [decide_eq_false (show ¬ (i : Int) < cap by omega), ite_self]
    exact he
  | succ d ih =>
    intro i fr hi hl hf
    by_cases h5 : (i : Int) < (l5.length : Int)
    · obtain ⟨v, hv, v0, v1⟩ := within_some (rd l5 (i : Int)) mod hm1 (by omega)
      have hd : decide ((i : Int) < cap) = true := decide_eq_true (by omega)
      by_cases h6 : (i : Int) < (l6.length : Int)
      · obtain ⟨u, hu, u0, u1⟩ := within_some (rd l6 (i : Int)) 50 (by omega) (by omega)
        have hw : wrap64 ((-1) - u) = -1 - u := wrap_id _ (by omega) (by omega)
        obtain ⟨fr', ak', he, h⟩ := ih (i + 1) (fr ++ [⟨v, -1 - u⟩]) (by omega) (by simp; omega) (by
          intro f h'
          rcases List.mem_append.1 h' with h' | h'
          · exact hf f h'
          · rw [List.mem_singleton.1 h']; exact ⟨v0, v1, by dsimp only; omega, by dsimp only; omega⟩)
        refine ⟨fr', ak', ?_, h⟩
        refine Ev.step (fun k => by rw [selfstablaw42_Raw_Link.l0]) ?_
        simp only [if_pos h5, hd]
        refine Ev.step (fun k => by rw [selfstablaw42_Raw_Link.j1]) ?_
        simp only [if_true, if_pos h5, if_pos h6, if_pos (show 0 ≤ (i : Int) by omega), hv, hu, Option.bind_some, if_pos (show fr.length < 8796093022208 by omega), wrap_nat i (by omega), hw]
        exact he
      · obtain ⟨fr', ak', he, h⟩ := ih (i + 1) (fr ++ [⟨v, (-1) - 0⟩]) (by omega) (by simp; omega) (by
          intro f h'
          rcases List.mem_append.1 h' with h' | h'
          · exact hf f h'
          · rw [List.mem_singleton.1 h']; exact ⟨v0, v1, by dsimp only; omega, by dsimp only; omega⟩)
        refine ⟨fr', ak', ?_, h⟩
        refine Ev.step (fun k => by rw [selfstablaw42_Raw_Link.l0]) ?_
        simp only [if_pos h5, hd]
        refine Ev.step (fun k => by rw [selfstablaw42_Raw_Link.j1]) ?_
        simp only [if_true, if_pos h5, if_neg h6, if_pos (show 0 ≤ (i : Int) by omega), hv, Option.bind_some, if_pos (show fr.length < 8796093022208 by omega), wrap_nat i (by omega)]
        exact he
    · obtain ⟨fr', ak', he, h⟩ := fin i fr (by omega) hf
      refine ⟨fr', ak', ?_, h⟩
      refine Ev.step (fun k => by rw [selfstablaw42_Raw_Link.l0]) ?_
      simp only [if_neg h5]
      exact he
/-- Raw.Link gives a valid link with a small item; its frames' data is below 0. -/
theorem raw_ev (a0 a1 a2 a3 a4 : Int) (l5 l6 l7 : List Int) : ∃ x : DL, ValidD x ∧ x.item < 1000 ∧ (∀ g ∈ x.fr, g.f1 < 0) ∧ x.cap ≤ 4 ∧
    Ev (fun k => selfstablaw42_Raw_Link.f k a0 a1 a2 a3 a4 l5 l6 l7) (x.cap, x.mod, x.lab, x.item, x.last, x.fr, x.ak) := by
  obtain ⟨c, hc, c0, c1⟩ := within_some a0 4 (by omega) (by omega)
  obtain ⟨m, hm, m0, m1⟩ := within_some a1 4 (by omega) (by omega)
  have ec : wrap64 (1 + c) = 1 + c := wrap_id _ (by omega) (by omega)
  have e2 : wrap64 (2 * (1 + c)) = 2 * (1 + c) := wrap_id _ (by omega) (by omega)
  have e3 : wrap64 (2 * (1 + c) + 2) = 2 * (1 + c) + 2 := wrap_id _ (by omega) (by omega)
  have e4 : wrap64 (2 * (1 + c) + 2 + m) = 2 * (1 + c) + 2 + m := wrap_id _ (by omega) (by omega)
  obtain ⟨lb, hlb, b0, b1⟩ := within_some a2 (2 * (1 + c) + 2 + m) (by omega) (by omega)
  obtain ⟨la, hla, d0, d1⟩ := within_some a4 (2 * (1 + c) + 2 + m) (by omega) (by omega)
  obtain ⟨it, hit, i0, i1⟩ := within_some a3 1000 (by omega) (by omega)
  obtain ⟨fr', ak', he, h1, h2, h3, h4⟩ := raw_l0 a0 a1 a2 a3 a4 l5 l6 l7 (1 + c) (2 * (1 + c) + 2 + m) lb it la (by omega) (by omega) (by omega) (by omega) (1 + c).toNat 0 [] (by omega) rfl nofun
  refine ⟨⟨1 + c, 2 * (1 + c) + 2 + m, lb, it, la, fr', ak'⟩, ⟨by dsimp only; omega, by dsimp only; omega, by dsimp only; omega, by dsimp only; omega, b0, b1, d0, d1, i0, by dsimp only; omega, h1, h3, fun f hf => ⟨(h2 f hf).1, (h2 f hf).2.1, by have := (h2 f hf).2.2; omega, by have := (h2 f hf).2.2; omega⟩, h4⟩, i1, fun g hg => (h2 g hg).2.2.2, by dsimp only; omega, ?_⟩
  refine Ev.congr (fun k => by rw [selfstablaw42_Raw_Link.f]) ?_
  simp only [hc, hm, Option.bind_some, ec, e2, e3, e4, hlb, hla, hit]
  exact he
end Go.Proofs.Ytdhkplfkbdldfaa.P
