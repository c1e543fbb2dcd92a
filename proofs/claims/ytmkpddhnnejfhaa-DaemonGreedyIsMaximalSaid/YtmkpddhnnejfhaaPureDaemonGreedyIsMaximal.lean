/- DaemonGreedyIsMaximal, the plain law. -/
import Derived.Test.YtmkpddhnnejfhaaSDaemonGreedyIsMaximal
import Derived.Test.YtmkpddhnnejfhaaMLaws15
namespace Go.Proofs.Ytmkpddhnnejfhaa.P
open Go.RowKit Go.Proofs.YtmkpddhnnejfhaaW.PrintWords Go.Proofs.YtmkpddhnnejfhaaW.PrintMore
set_option linter.unusedVariables false
variable {ids : List Int} {P : List (List Lk)}
theorem gm_l0 (V : ValidG ids P) (hb : ∀ v, (prt P v).length < Big) {en w s : Int} (he : M32 en) (hw : M32 w) (hs : M32 s) (h0 : en ≠ 0 → s ≠ 0)
    (hmax : ∀ v, v < P.length → bit w v = true → bit en v = true → bit s v = false → ¬ Indep P (Go.bits .or .u32 s (pw v))) :
    ∀ d i : Nat, i + d = P.length → Ev (fun k => selfstablaw15_DaemonGreedyIsMaximal.l0 k en w s (i : Int) ids P) true
  | 0, i, hi => by
    refine Ev.step (fun k => by rw [selfstablaw15_DaemonGreedyIsMaximal.l0]) ?_
    simp only [if_neg (show ¬ (i : Int) < (P.length : Int) by omega)]
    refine Ev.bind awake_ev ?_
    simp only [if_true]
    by_cases h : en = 0
    · simp only [if_pos h]; exact Ev.now _
    · simp only [if_neg h, bne_iff_ne.2 (h0 h)]; exact Ev.now _
  | d + 1, i, hi => by
    have hn := V.2.1
    have ih := gm_l0 V hb he hw hs h0 hmax d (i + 1) (by omega)
    obtain ⟨m1, m2⟩ := M32_and hw he
    refine Ev.step (fun k => by rw [selfstablaw15_DaemonGreedyIsMaximal.l0]) ?_
    simp only [if_pos (show (i : Int) < (P.length : Int) by omega), has_eq m1, has_eq hs, Option.bind_some, wrap_nat i (by omega), u64_nat i (by omega), if_pos (show 0 ≤ (i : Int) by omega)]
    cases h1 : bit (Go.bits .and .u32 w en) i with
    | false => simp only [Bool.false_eq_true, if_false]; exact ih
    | true =>
      simp only [if_true]
      rw [m2] at h1
      have h1 : bit w i = true ∧ bit en i = true := by simpa using h1
      cases h2 : bit s i with
      | true => simp only [if_true]; exact ih
      | false =>
        simp only [Bool.false_eq_true, if_false]
        have hm := (M32_or hs (pw_bits (i := i) (by omega)).1).1
        obtain ⟨b, hb1, hb2⟩ := refIndep_ev (ids := ids) hb hm
        obtain ⟨b', hb', hiff⟩ := indep_ev (ids := ids) (P := P) hm
        obtain rfl := Ev_uniq hb1 hb'
        have hf : b = false := by
          cases b with
          | false => rfl
          | true => exact absurd (hiff.1 rfl).2 (hmax i (by omega) h1.1 h1.2 h2)
        subst hf
        refine Ev.bind hb2 ?_
        simp only [Bool.false_eq_true, if_false]
        exact ih
theorem Pure_DaemonGreedyIsMaximal : selfstablaw15_DaemonGreedyIsMaximal.Pure := by
  intro x en w _ he' hw'
  have hw := M32_of hw'
  refine Ev.rounds ?_
  unfold selfstablaw15_DaemonGreedyIsMaximal.f
  obtain ⟨t, hb, hiff⟩ := fair_ev x.f0 x.f1
  refine Ev.bind hb ?_
  cases t with
  | false =>
    simp only [Bool.false_eq_true, if_false]
    refine Ev.bind awake_ev ?_
    exact Ev.now _
  | true =>
    obtain ⟨hL, V⟩ := hiff.1 rfl
    obtain ⟨r, hr, hm, hbit⟩ := all_ev x.f1.length (by have := hL.2.1; omega)
    simp only [if_true]
    refine Ev.bind hr ?_
    obtain ⟨he, hi⟩ := all_and (P := x.f1) (M32_of he') hm hbit
    generalize Go.bits .and .u32 en r = e at he hi ⊢
    refine Ev.bind (resolve_ev x.f0 x.f1 2 he hw) ?_
    have hs := M32_resG x.f0 x.f1 2 (w := w) he
    refine gm_l0 V hL.big he hw hs (fun h => (res_perm V (by decide) he hw hi h).2.2.2.1) ?_ x.f1.length 0 (Nat.zero_add _)
    intro v hv h1 h2 h3 hind
    have hn := V.2.1
    have h0 : e ≠ 0 := by rintro rfl; simp [bit] at h2
    have hm : Go.bits .and .u32 w e ≠ 0 := by
      intro h
      have := (M32_and hw he).2 v
      rw [h, h1, h2] at this
      simp [bit] at this
    have er : resG x.f0 x.f1 2 e w = grd x.f1 (wishS e w) 32 := by
      unfold resG
      rw [if_pos ⟨validB_iff.2 V, by decide, (inB_iff he).2 hi, h0⟩, if_neg (by decide), if_pos rfl]
    rw [er] at h3 hind hs
    have hwv : bit (wishS e w) v = true := by rw [wish_bits he hw hm, h1, h2]; rfl
    have hnb : nb x.f1 (grd x.f1 (wishS e w) v) v := by
      refine Classical.byContradiction fun hc => ?_
      rw [((grd_bits 32 (Nat.le_refl _)).2 v).2 ⟨by omega, hwv, hc⟩] at h3
      cases h3
    obtain ⟨u, hu1, hu2⟩ := hnb
    have hu3 := grd_mono (P := x.f1) (m := wishS e w) (show v ≤ 32 by omega) (Nat.le_refl _) hu2
    obtain ⟨o1, o2⟩ := M32_or hs (pw_bits (i := v) (by omega)).1
    have := hind.2 v u (by rw [o2, (pw_bits (i := v) (by omega)).2]; simp) (by rw [o2, hu3]; rfl)
    rw [hu1] at this
    cases this
end Go.Proofs.Ytmkpddhnnejfhaa.P
