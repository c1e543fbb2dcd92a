-- By a program of this session (wip/tools/myprint.py over the kit's printer). Not trusted: Lean checks it.
import Derived.Test.YtmkpddhnnejfhaaP0
import Derived.Test.YtmkpddhnnejfhaaGChoices
import Derived.Test.YtmkpddhnnejfhaaGResolve
namespace Go.Proofs.Ytmkpddhnnejfhaa.P
open Go.RowKit Go.Proofs.YtmkpddhnnejfhaaW.PrintWords Go.Proofs.YtmkpddhnnejfhaaW.PrintLast Go.Proofs.YtmkpddhnnejfhaaW.PrintMore
attribute [local go_sem] max2_int min2_int max_two min_two max_three min_three max_four min_four   -- for this text's walks alone
set_option linter.unusedVariables false
set_option linter.unusedSimpArgs false

/-! ### selfstabmade_LightGraph: function 10 -/
mutual
def selfstabmade_LightGraph.j0 : Nat → Bool → List Int → List (List (S58)) → Option (Bool)
  | 0, _, _, _ => none
  | k + 1, x13, x102000, x102001 => if x13 = true then (some false) else (selfstabmade_LightGraph.l0 k 0 x102000 x102001)
def selfstabmade_LightGraph.l0 : Nat → Int → List Int → List (List (S58)) → Option (Bool)
  | 0, _, _, _ => none
  | k + 1, x3, x102000, x102001 => if x3 < (x102001.length : Int) then (if 0 ≤ x3 then (if ((rd_L2 x102001 x3).length : Int) > 30 then (some false) else (selfstabmade_LightGraph.l0 k (wrap64 (x3 + 1)) x102000 x102001)) else (none)) else (some true)
end
def selfstabmade_LightGraph.f (k : Nat) (l0_0 : List Int) (l0_1 : List (List (S58))) : Option (Bool) := if (l0_0.length : Int) > 30 then (selfstabmade_LightGraph.j0 k true l0_0 l0_1) else (selfstabmade_LightGraph.j0 k (decide ((l0_1.length : Int) > 30)) l0_0 l0_1)
theorem selfstabmade_LightGraph.mono_l : ∀ k, (∀ y0 y1 y2, LeO (selfstabmade_LightGraph.j0 k y0 y1 y2) (selfstabmade_LightGraph.j0 (k + 1) y0 y1 y2)) ∧ (∀ y0 y1 y2, LeO (selfstabmade_LightGraph.l0 k y0 y1 y2) (selfstabmade_LightGraph.l0 (k + 1) y0 y1 y2))
  | 0 => ⟨fun _ _ _ r h => by simp [selfstabmade_LightGraph.j0] at h, fun _ _ _ r h => by simp [selfstabmade_LightGraph.l0] at h⟩
  | k + 1 => by
    obtain ⟨ih0, ih1⟩ := selfstabmade_LightGraph.mono_l k
    refine ⟨?_, ?_⟩
    · intro y0 y1 y2
      unfold selfstabmade_LightGraph.j0
      repeat' first
      | (with_reducible exact ih0 _ _ _)
      | (with_reducible exact ih1 _ _ _)
      | (with_reducible exact LeO.refl _)
      | (with_reducible exact LeO.none _)
      | (with_reducible refine LeO.ite ?_ ?_)
      | (with_reducible refine LeO.bind ?_ (fun _ => ?_))
      | exact ih0 _ _ _
      | exact ih1 _ _ _
      | exact LeO.none _
      | refine LeO.ite ?_ ?_
      | refine LeO.bind ?_ (fun _ => ?_)
    · intro y0 y1 y2
      unfold selfstabmade_LightGraph.l0
      repeat' first
      | (with_reducible exact ih0 _ _ _)
      | (with_reducible exact ih1 _ _ _)
      | (with_reducible exact LeO.refl _)
      | (with_reducible exact LeO.none _)
      | (with_reducible refine LeO.ite ?_ ?_)
      | (with_reducible refine LeO.bind ?_ (fun _ => ?_))
      | exact ih0 _ _ _
      | exact ih1 _ _ _
      | exact LeO.none _
      | refine LeO.ite ?_ ?_
      | refine LeO.bind ?_ (fun _ => ?_)
theorem selfstabmade_LightGraph.mono : ∀ a0 a1 k, LeO (selfstabmade_LightGraph.f k a0 a1) (selfstabmade_LightGraph.f (k + 1) a0 a1) := by
  intro a0 a1 k
  obtain ⟨ih0, ih1⟩ := selfstabmade_LightGraph.mono_l k
  unfold selfstabmade_LightGraph.f
  repeat' first
      | (with_reducible exact ih0 _ _ _)
      | (with_reducible exact ih1 _ _ _)
      | (with_reducible exact LeO.refl _)
      | (with_reducible exact LeO.none _)
      | (with_reducible refine LeO.ite ?_ ?_)
      | (with_reducible refine LeO.bind ?_ (fun _ => ?_))
      | exact ih0 _ _ _
      | exact ih1 _ _ _
      | exact LeO.none _
      | refine LeO.ite ?_ ?_
      | refine LeO.bind ?_ (fun _ => ?_)
set_option maxHeartbeats 8000000 in
set_option maxRecDepth 100000 in
theorem selfstabmade_LightGraph.calls (k : Nat) (A0_0 : Option Addr) (c0_0 : Nat) (l0_0 : List Int) (A0_1 : Option Addr) (c0_1 : Nat) (l0_1 : List (List (S58))) (r : Bool) (w : World) (hr0_0 : Kd.C (Kd.int .i64) w A0_0 l0_0.length l0_0) (hc0_0 : l0_0.length ≤ c0_0) (hr0_1 : Kd.C (Kd.slice 58 k58) w A0_1 l0_1.length l0_1) (hc0_1 : l0_1.length ≤ c0_1) (h : selfstabmade_LightGraph.f k l0_0 l0_1 = some r) :
    Calls Try.prog 10 #[.agg #[.slice A0_0 l0_0.length c0_0, .slice A0_1 l0_1.length c0_1]] w fun e w' => e = .returned (.bool r) ∧ Below w.heap.size w w' := by
  have hu25 := Try.underlying25
  have HR0_0 := Aside0.mk hr0_0
  have HC0_0 := Aside0.mk hc0_0
  clear hr0_0 hc0_0
  have HR0_1 := Aside0.mk hr0_1
  have HC0_1 := Aside0.mk hc0_1
  clear hr0_1 hc0_1
  have HB := Aside0.mk (Below.refl w.heap.size w)
  have H : (if (l0_0.length : Int) > 30 then (selfstabmade_LightGraph.j0 k true l0_0 l0_1) else (selfstabmade_LightGraph.j0 k (decide ((l0_1.length : Int) > 30)) l0_0 l0_1)) = some r := h
  clear h
  have HC2 := Aside0.mk H
  clear H
  go_enter Try.func10, Try.ntmps10
  go_upto_region 1 with (first | ((with_reducible refine gate_dst (N := 1) rfl ?_); (try (refine gate_guard (by rfl) ?_; dsimp only)); refine box_event ?hg (N := 1) ?hd (cs := #[.slice A0_0 l0_0.length c0_0, .slice A0_1 l0_1.length c0_1]) (t := 25) ?hr ?_; (case hd => rfl); (case hg => rfl); (case hr => first | (go_simp; done) | (go_simp; rfl)); intro gb101 hg w3 hbox hb; have n0_ := Aside0.mk (below_step (by repeat (first | (with_reducible first | exact HB.out | apply below_alloc | apply pw_below_drewN | apply below_drew1) | exact HB.out)) hb); have n1_ := Aside0.mk (hbox); have n2_ := Aside0.mk ((by rw [hg]; exact (below_size (by repeat (first | (with_reducible first | exact HB.out | apply below_alloc | apply pw_below_drewN | apply below_drew1) | exact HB.out))) : w.heap.size ≤ gb101)); have n3_ := Aside0.mk ((by rw [hg]; exact (below_size (by repeat (first | (with_reducible first | exact HB.out | apply below_alloc | apply pw_below_drewN | apply below_drew1) | exact HB.out))) : w.heap.size ≤ gb101)); clear HB; have HB := n0_; have BK101 := n1_; have GW101 := n2_; have GE101 := n3_; clear n0_ n1_ n2_ n3_; clear hb hbox hg))
  (try simp only [Act.put, List.setIfInBounds_toArray, List.set_cons_zero, List.set_cons_succ])
  go_cut [13] (fun v13 wc => ∃ (kq : Nat) (x13_1 : Bool), v13 = .bool x13_1 ∧ Aside0 (selfstabmade_LightGraph.j0 kq x13_1 l0_0 l0_1 = some r) ∧ Aside0 (kq ≤ k) ∧ Aside0 (wc.heap[gb101]? = some (.cells #[(.slice A0_0 l0_0.length c0_0), (.slice A0_1 l0_1.length c0_1)] 25 (0, 0))) ∧ Aside0 (Below w.heap.size w wc))
  case first =>
    have H := HC2.out
    clear HC2
    by_cases c4 : (l0_0.length : Int) > 30
    · rw [if_pos c4] at H
      have c4b0 : decide (30 < (l0_0.length : Int)) = true := decide_eq_true c4
      have c4b1 : decide (30 < l0_0.length) = true := decide_eq_true (by omega)
      clear c4
      (first | rw [c4b0] | (simp only [i64_w, i32_w]; rw [c4b0]) | skip)
      have H' := Aside0.mk H
      clear H
      have hcz5_0 : w3.cell? ⟨gb101, 0, none⟩ = some (.slice A0_0 l0_0.length c0_0) := (blk_cell BK101.out 0).trans rfl
      have hcz5_1 : w3.cell? ⟨gb101, 1, none⟩ = some (.slice A0_1 l0_1.length c0_1) := (blk_cell BK101.out 1).trans rfl
      have hfz5_0 := blk_frozen BK101.out 0
      have hfz5_1 := blk_frozen BK101.out 1
      go_wp2
      go_meet
      case rel => exact ⟨_, (true), (by first | rfl | (simp; done) | (simp [*]; done)), H', ⟨by first | omega | exact Nat.le_refl _⟩, ⟨by (with_reducible repeat (first | refine blk_drewN ?_ _ | refine blk_drew ?_ | refine blk_alloc ?_ _)); exact BK101.out⟩, ⟨by repeat (first | (with_reducible first | exact HB.out | apply below_alloc | apply pw_below_drewN | apply below_drew1 | refine below_set ?_ GE101.out) | exact HB.out)⟩⟩
    · rw [if_neg c4] at H
      have c4b0 : decide (30 < (l0_0.length : Int)) = false := decide_eq_false c4
      have c4b1 : decide (30 < l0_0.length) = false := decide_eq_false (by omega)
      clear c4
      (first | rw [c4b0] | (simp only [i64_w, i32_w]; rw [c4b0]) | skip)
      have H' := Aside0.mk H
      clear H
      have hcz6_0 : w3.cell? ⟨gb101, 0, none⟩ = some (.slice A0_0 l0_0.length c0_0) := (blk_cell BK101.out 0).trans rfl
      have hcz6_1 : w3.cell? ⟨gb101, 1, none⟩ = some (.slice A0_1 l0_1.length c0_1) := (blk_cell BK101.out 1).trans rfl
      have hfz6_0 := blk_frozen BK101.out 0
      have hfz6_1 := blk_frozen BK101.out 1
      go_wp2
      go_meet
      case rel => exact ⟨_, (decide ((l0_1.length : Int) > 30)), (by first | rfl | (simp; done) | (simp [*]; done)), H', ⟨by first | omega | exact Nat.le_refl _⟩, ⟨by (with_reducible repeat (first | refine blk_drewN ?_ _ | refine blk_drew ?_ | refine blk_alloc ?_ _)); exact BK101.out⟩, ⟨by repeat (first | (with_reducible first | exact HB.out | apply below_alloc | apply pw_below_drewN | apply below_drew1 | refine below_set ?_ GE101.out) | exact HB.out)⟩⟩
  case rest =>
    clear HC2
    try clear c1
    try clear p2
    try clear c4
    try clear c4b0
    try clear c4b1
    try clear hcz5_0
    try clear hcz5_1
    try clear hcz6_0
    try clear hcz6_1
    try clear hfz5_0
    try clear hfz5_1
    try clear hfz6_0
    try clear hfz6_1
    obtain ⟨kq, x13_1, rfl, HA, HJ1, BK101, HB⟩ := hcut
    cases kq with
    | zero => exact absurd HA.out (by simp [selfstabmade_LightGraph.j0])
    | succ kj1 =>
      have H := HA.out
      clear HA
      simp only [selfstabmade_LightGraph.j0] at H
      by_cases c7 : x13_1 = true
      · subst c7
        have H1 : (some false) = some r := by rw [if_pos rfl] at H; exact H
        clear H
        have H := H1
        clear H1
        obtain rfl := Option.some.inj H
        go_wp2
        go_ret
        exact ⟨by first | rfl | (simp [errW_none, errW_some] <;> rfl) | (simp [*, errW_none, errW_some] <;> rfl), by repeat (first | (with_reducible first | exact HB.out | apply below_alloc | apply pw_below_drewN | apply below_drew1 | refine below_set ?_ GE101.out) | exact HB.out)⟩
      · replace c7 := Bool.eq_false_iff.mpr c7
        subst c7
        have H1 : (selfstabmade_LightGraph.l0 kj1 0 l0_0 l0_1) = some r := by rw [if_neg (show ¬ (false = true) by decide)] at H; exact H
        clear H
        have H := H1
        clear H1
        have H' := Aside0.mk H
        clear H
        go_wp2
        go_loopg [3] kj1 (fun kq v3 w' => ∃ (x3_2 : Int), v3 = .int .i64 x3_2 ∧ Aside0 (selfstabmade_LightGraph.l0 kq x3_2 l0_0 l0_1 = some r) ∧ Aside0 (kq ≤ kj1) ∧ Aside0 (w'.heap[gb101]? = some (.cells #[(.slice A0_0 l0_0.length c0_0), (.slice A0_1 l0_1.length c0_1)] 25 (0, 0))) ∧ Aside0 (Below w.heap.size w w'))
        case atStart => exact ⟨(0), (by first | rfl | (simp; done) | (simp [*]; done)), H', ⟨Nat.le_refl _⟩, ⟨by (with_reducible repeat (first | refine blk_drewN ?_ _ | refine blk_drew ?_ | refine blk_alloc ?_ _)); exact BK101.out⟩, ⟨by repeat (first | (with_reducible first | exact HB.out | apply below_alloc | apply pw_below_drewN | apply below_drew1 | refine below_set ?_ GE101.out) | exact HB.out)⟩⟩
        case round =>
          clear H'
          try clear c1
          try clear p2
          try clear c4
          try clear c4b0
          try clear c4b1
          try clear c7
          try clear hcz5_0
          try clear hcz5_1
          try clear hcz6_0
          try clear hcz6_1
          try clear hfz5_0
          try clear hfz5_1
          try clear hfz6_0
          try clear hfz6_1
          try clear p2
          obtain ⟨x3_2, rfl, HA, HK2, BK101, HB⟩ := hrel
          cases gk with
          | zero => exact absurd HA.out (by simp [selfstabmade_LightGraph.l0])
          | succ k2 =>
            have H := HA.out
            clear HA
            simp only [selfstabmade_LightGraph.l0] at H
            by_cases c8 : x3_2 < (l0_1.length : Int)
            · rw [if_pos c8] at H
              have c8b0 : decide (x3_2 < (l0_1.length : Int)) = true := decide_eq_true c8
              clear c8
              by_cases c9 : 0 ≤ x3_2
              · rw [if_pos c9] at H
                have c9b0 : decide (0 ≤ x3_2) = true := decide_eq_true c9
                clear c9
                by_cases c10 : ((rd_L2 l0_1 x3_2).length : Int) > 30
                · rw [if_pos c10] at H
                  have c10b0 : decide (30 < ((rd_L2 l0_1 x3_2).length : Int)) = true := decide_eq_true c10
                  have c10b1 : decide (30 < (rd_L2 l0_1 x3_2).length) = true := decide_eq_true (by omega)
                  clear c10
                  obtain rfl := Option.some.inj H
                  have hcz11_0 : wr.cell? ⟨gb101, 0, none⟩ = some (.slice A0_0 l0_0.length c0_0) := (blk_cell BK101.out 0).trans rfl
                  have hcz11_1 : wr.cell? ⟨gb101, 1, none⟩ = some (.slice A0_1 l0_1.length c0_1) := (blk_cell BK101.out 1).trans rfl
                  have hfz11_0 := blk_frozen BK101.out 0
                  have hfz11_1 := blk_frozen BK101.out 1
                  have p102 : 0 ≤ (x3_2 : Int) := of_decide_eq_true (by first | (with_reducible assumption) | assumption)
                  have q102 : x3_2 < (l0_1.length : Int) := of_decide_eq_true (by first | (with_reducible assumption) | assumption)
                  obtain ⟨ad102, A102_0, c102_0, e102, hx102_0, hl102_0, hi102_0⟩ := at_L2 HR0_1.out x3_2 p102 q102
                  cases e102
                  replace hx102_0 := (HB.out.cell (World.block_lt_of_cell? w _ hx102_0)).trans hx102_0
                  have HR102_0 := Aside0.mk hi102_0
                  have HC102_0 := Aside0.mk hl102_0
                  clear hi102_0 hl102_0
                  replace p102 := eq_true p102
                  replace q102 := eq_true q102
                  go_wp2
                  go_ret
                  exact ⟨by first | rfl | (simp [errW_none, errW_some] <;> rfl) | (simp [*, errW_none, errW_some] <;> rfl), by repeat (first | (with_reducible first | exact HB.out | apply below_alloc | apply pw_below_drewN | apply below_drew1 | refine below_set ?_ GE101.out) | exact HB.out)⟩
                · rw [if_neg c10] at H
                  have c10b0 : decide (30 < ((rd_L2 l0_1 x3_2).length : Int)) = false := decide_eq_false c10
                  have c10b1 : decide (30 < (rd_L2 l0_1 x3_2).length) = false := decide_eq_false (by omega)
                  clear c10
                  have H' := Aside0.mk H
                  clear H
                  have hcz12_0 : wr.cell? ⟨gb101, 0, none⟩ = some (.slice A0_0 l0_0.length c0_0) := (blk_cell BK101.out 0).trans rfl
                  have hcz12_1 : wr.cell? ⟨gb101, 1, none⟩ = some (.slice A0_1 l0_1.length c0_1) := (blk_cell BK101.out 1).trans rfl
                  have hfz12_0 := blk_frozen BK101.out 0
                  have hfz12_1 := blk_frozen BK101.out 1
                  have p102 : 0 ≤ (x3_2 : Int) := of_decide_eq_true (by first | (with_reducible assumption) | assumption)
                  have q102 : x3_2 < (l0_1.length : Int) := of_decide_eq_true (by first | (with_reducible assumption) | assumption)
                  obtain ⟨ad102, A102_0, c102_0, e102, hx102_0, hl102_0, hi102_0⟩ := at_L2 HR0_1.out x3_2 p102 q102
                  cases e102
                  replace hx102_0 := (HB.out.cell (World.block_lt_of_cell? w _ hx102_0)).trans hx102_0
                  have HR102_0 := Aside0.mk hi102_0
                  have HC102_0 := Aside0.mk hl102_0
                  clear hi102_0 hl102_0
                  replace p102 := eq_true p102
                  replace q102 := eq_true q102
                  go_wp2
                  go_roundg k2
                  case measure => have := HJ1.out; have := HK2.out; omega
                  case rel => exact ⟨(wrap64 (x3_2 + 1)), (by first | rfl | (simp; done) | (simp [*]; done)), H', ⟨by have := HJ1.out; have := HK2.out; omega⟩, ⟨by (with_reducible repeat (first | refine blk_drewN ?_ _ | refine blk_drew ?_ | refine blk_alloc ?_ _)); exact BK101.out⟩, ⟨by repeat (first | (with_reducible first | exact HB.out | apply below_alloc | apply pw_below_drewN | apply below_drew1 | refine below_set ?_ GE101.out) | exact HB.out)⟩⟩
              · rw [if_neg c9] at H
                exact absurd H (by simp)
            · rw [if_neg c8] at H
              have c8b0 : decide (x3_2 < (l0_1.length : Int)) = false := decide_eq_false c8
              clear c8
              obtain rfl := Option.some.inj H
              have hcz13_0 : wr.cell? ⟨gb101, 0, none⟩ = some (.slice A0_0 l0_0.length c0_0) := (blk_cell BK101.out 0).trans rfl
              have hcz13_1 : wr.cell? ⟨gb101, 1, none⟩ = some (.slice A0_1 l0_1.length c0_1) := (blk_cell BK101.out 1).trans rfl
              have hfz13_0 := blk_frozen BK101.out 0
              have hfz13_1 := blk_frozen BK101.out 1
              go_wp2
              go_ret
              exact ⟨by first | rfl | (simp [errW_none, errW_some] <;> rfl) | (simp [*, errW_none, errW_some] <;> rfl), by repeat (first | (with_reducible first | exact HB.out | apply below_alloc | apply pw_below_drewN | apply below_drew1 | refine below_set ?_ GE101.out) | exact HB.out)⟩

/-! ### selfstabref15_Same: function 14 -/
def selfstabref15_Same.l0 : Nat → List Int → List Int → Int → Option (Bool)
  | 0, _, _, _ => none
  | k + 1, x0, x1, x5 => if x5 < (x0.length : Int) then (if 0 ≤ x5 then (if x5 < (x1.length : Int) then (if (rd x0 x5) = (rd x1 x5) then (selfstabref15_Same.l0 k x0 x1 (wrap64 (x5 + 1))) else (some false)) else (none)) else (none)) else (some true)
def selfstabref15_Same.f (k : Nat) (l0 : List Int) (l1 : List Int) : Option (Bool) := if (l0.length : Int) = (l1.length : Int) then (selfstabref15_Same.l0 k l0 l1 0) else (some false)
theorem selfstabref15_Same.mono_l : ∀ k, (∀ y0 y1 y2, LeO (selfstabref15_Same.l0 k y0 y1 y2) (selfstabref15_Same.l0 (k + 1) y0 y1 y2))
  | 0 => fun _ _ _ r h => by simp [selfstabref15_Same.l0] at h
  | k + 1 => by
    have ih0 := selfstabref15_Same.mono_l k
    · intro y0 y1 y2
      unfold selfstabref15_Same.l0
      repeat' first
      | (with_reducible exact ih0 _ _ _)
      | (with_reducible exact LeO.refl _)
      | (with_reducible exact LeO.none _)
      | (with_reducible refine LeO.ite ?_ ?_)
      | (with_reducible refine LeO.bind ?_ (fun _ => ?_))
      | exact ih0 _ _ _
      | exact LeO.none _
      | refine LeO.ite ?_ ?_
      | refine LeO.bind ?_ (fun _ => ?_)
theorem selfstabref15_Same.mono : ∀ a0 a1 k, LeO (selfstabref15_Same.f k a0 a1) (selfstabref15_Same.f (k + 1) a0 a1) := by
  intro a0 a1 k
  have ih0 := selfstabref15_Same.mono_l k
  unfold selfstabref15_Same.f
  repeat' first
      | (with_reducible exact ih0 _ _ _)
      | (with_reducible exact LeO.refl _)
      | (with_reducible exact LeO.none _)
      | (with_reducible refine LeO.ite ?_ ?_)
      | (with_reducible refine LeO.bind ?_ (fun _ => ?_))
      | exact ih0 _ _ _
      | exact LeO.none _
      | refine LeO.ite ?_ ?_
      | refine LeO.bind ?_ (fun _ => ?_)
set_option maxHeartbeats 8000000 in
set_option maxRecDepth 100000 in
theorem selfstabref15_Same.calls (k : Nat) (A0 : Option Addr) (c0 : Nat) (l0 : List Int) (A1 : Option Addr) (c1 : Nat) (l1 : List Int) (r : Bool) (w : World) (hr0 : Kd.C (Kd.int .u32) w A0 l0.length l0) (hc0 : l0.length ≤ c0) (hr1 : Kd.C (Kd.int .u32) w A1 l1.length l1) (hc1 : l1.length ≤ c1) (h : selfstabref15_Same.f k l0 l1 = some r) :
    Calls Try.prog 14 #[.slice A0 l0.length c0, .slice A1 l1.length c1] w fun e w' => e = .returned (.bool r) ∧ Drawn0 w w' := by
  have HR0 := Aside0.mk hr0
  have HC0 := Aside0.mk hc0
  clear hr0 hc0
  have HR1 := Aside0.mk hr1
  have HC1 := Aside0.mk hc1
  clear hr1 hc1
  have H : (if (l0.length : Int) = (l1.length : Int) then (selfstabref15_Same.l0 k l0 l1 0) else (some false)) = some r := h
  clear h
  by_cases c3 : (l0.length : Int) = (l1.length : Int)
  · rw [if_pos c3] at H
    have c3b0 : ((l0.length : Int) == (l1.length : Int)) = true := beq_iff_eq.mpr c3
    have c3b1 : ((l0.length : Int) != (l1.length : Int)) = false := bne_eq_false_iff_eq.mpr c3
    have c3b2 : (l0.length == l1.length) = true := by first | simpa using c3 | (simp at c3 ⊢; omega)
    clear c3
    have H' := Aside0.mk H
    clear H
    go_enter Try.func14, Try.ntmps14
    go_wp2
    repeat (go_quiet (fail); try go_wp2)
    go_loopg [5] k (fun kq v5 w' => ∃ (x5_1 : Int), v5 = .int .i64 x5_1 ∧ Aside0 (selfstabref15_Same.l0 kq l0 l1 x5_1 = some r) ∧ Aside0 (kq ≤ k) ∧ Drawn0 w w')
    case atStart => exact ⟨(0), (by first | rfl | (simp; done) | (simp [*]; done)), H', ⟨Nat.le_refl _⟩, by repeat (first | exact Drawn0.refl _ | apply Drawn0.step)⟩
    case round =>
      clear H'
      try clear c1
      try clear p2
      try clear c3
      try clear c3b0
      try clear c3b1
      try clear c3b2
      obtain ⟨x5_1, rfl, HA, HK1, ⟨m1, rfl⟩⟩ := hrel
      cases gk with
      | zero => exact absurd HA.out (by simp [selfstabref15_Same.l0])
      | succ k1 =>
        have H := HA.out
        clear HA
        simp only [selfstabref15_Same.l0] at H
        by_cases c4 : x5_1 < (l0.length : Int)
        · rw [if_pos c4] at H
          have c4b0 : decide (x5_1 < (l0.length : Int)) = true := decide_eq_true c4
          clear c4
          by_cases c5 : 0 ≤ x5_1
          · rw [if_pos c5] at H
            have c5b0 : decide (0 ≤ x5_1) = true := decide_eq_true c5
            clear c5
            by_cases c6 : x5_1 < (l1.length : Int)
            · rw [if_pos c6] at H
              have c6b0 : decide (x5_1 < (l1.length : Int)) = true := decide_eq_true c6
              clear c6
              by_cases c7 : (rd l0 x5_1) = (rd l1 x5_1)
              · rw [if_pos c7] at H
                have c7b0 : ((rd l0 x5_1) == (rd l1 x5_1)) = true := beq_iff_eq.mpr c7
                have c7b1 : ((rd l0 x5_1) != (rd l1 x5_1)) = false := bne_eq_false_iff_eq.mpr c7
                clear c7
                have H' := Aside0.mk H
                clear H
                have p119 : 0 ≤ (x5_1 : Int) := of_decide_eq_true (by first | (with_reducible assumption) | assumption)
                have q119 : x5_1 < (l0.length : Int) := of_decide_eq_true (by first | (with_reducible assumption) | assumption)
                obtain ⟨ad119, e119, hx119_0⟩ := Kd.at_int HR0.out x5_1 p119 q119
                cases e119
                replace p119 := eq_true p119
                replace q119 := eq_true q119
                have p120 : 0 ≤ (x5_1 : Int) := of_decide_eq_true (by first | (with_reducible assumption) | assumption)
                have q120 : x5_1 < (l1.length : Int) := of_decide_eq_true (by first | (with_reducible assumption) | assumption)
                obtain ⟨ad120, e120, hx120_0⟩ := Kd.at_int HR1.out x5_1 p120 q120
                cases e120
                replace p120 := eq_true p120
                replace q120 := eq_true q120
                go_wp2
                repeat (go_quiet (fail); try go_wp2)
                go_roundg k1
                case measure => have := HK1.out; omega
                case rel => exact ⟨(wrap64 (x5_1 + 1)), (by first | rfl | (simp; done) | (simp [*]; done)), H', ⟨by have := HK1.out; omega⟩, by repeat (first | exact Drawn0.refl _ | apply Drawn0.step)⟩
              · rw [if_neg c7] at H
                have c7b0 : ((rd l0 x5_1) == (rd l1 x5_1)) = false := beq_eq_false_iff_ne.mpr c7
                have c7b1 : ((rd l0 x5_1) != (rd l1 x5_1)) = true := bne_iff_ne.mpr c7
                obtain rfl := Option.some.inj H
                have p119 : 0 ≤ (x5_1 : Int) := of_decide_eq_true (by first | (with_reducible assumption) | assumption)
                have q119 : x5_1 < (l0.length : Int) := of_decide_eq_true (by first | (with_reducible assumption) | assumption)
                obtain ⟨ad119, e119, hx119_0⟩ := Kd.at_int HR0.out x5_1 p119 q119
                cases e119
                replace p119 := eq_true p119
                replace q119 := eq_true q119
                have p120 : 0 ≤ (x5_1 : Int) := of_decide_eq_true (by first | (with_reducible assumption) | assumption)
                have q120 : x5_1 < (l1.length : Int) := of_decide_eq_true (by first | (with_reducible assumption) | assumption)
                obtain ⟨ad120, e120, hx120_0⟩ := Kd.at_int HR1.out x5_1 p120 q120
                cases e120
                replace p120 := eq_true p120
                replace q120 := eq_true q120
                go_wp2
                repeat (go_quiet (fail); try go_wp2)
                go_ret
                exact ⟨by first | rfl | (simp; done) | (simp [*]; done), by repeat (first | exact Drawn0.refl _ | apply Drawn0.step)⟩
            · rw [if_neg c6] at H
              exact absurd H (by simp)
          · rw [if_neg c5] at H
            exact absurd H (by simp)
        · rw [if_neg c4] at H
          have c4b0 : decide (x5_1 < (l0.length : Int)) = false := decide_eq_false c4
          clear c4
          obtain rfl := Option.some.inj H
          go_wp2
          repeat (go_quiet (fail); try go_wp2)
          go_ret
          exact ⟨by first | rfl | (simp; done) | (simp [*]; done), by repeat (first | exact Drawn0.refl _ | apply Drawn0.step)⟩
  · rw [if_neg c3] at H
    have c3b0 : ((l0.length : Int) == (l1.length : Int)) = false := beq_eq_false_iff_ne.mpr c3
    have c3b1 : ((l0.length : Int) != (l1.length : Int)) = true := bne_iff_ne.mpr c3
    have c3b2 : (l0.length == l1.length) = false := by first | simpa using c3 | (simp at c3 ⊢; omega)
    obtain rfl := Option.some.inj H
    go_enter Try.func14, Try.ntmps14
    go_wp2
    repeat (go_quiet (fail); try go_wp2)
    go_ret
    exact ⟨by first | rfl | (simp; done) | (simp [*]; done), by repeat (first | exact Drawn0.refl _ | apply Drawn0.step)⟩

/-! ### selfstablaw15_path: function 29 -/
def selfstablaw15_path.f  : Option (List Int × (List (List (S58)))) := some ((([0, 1, 2] : List Int)), (([(([(⟨1, 1⟩ : S58)] : List (S58))), (([(⟨0, 1⟩ : S58), (⟨2, 1⟩ : S58)] : List (S58))), (([(⟨1, 1⟩ : S58)] : List (S58)))] : List (List (S58)))))
set_option maxHeartbeats 8000000 in
set_option maxRecDepth 100000 in
theorem selfstablaw15_path.calls  (r1 : List Int) (r2 : List (List (S58))) (w : World) (h : selfstablaw15_path.f  = some (r1, r2)) :
    Calls Try.prog 29 #[] w fun e w' => ∃ v0_ v1_ : Value, e = .returned (.agg #[v0_, v1_]) ∧ Kd.R (Kd.int .i64) 3 w' w.heap.size (fun k_ => (w.heap.size ≤ k_)) v0_ r1 ∧ Kd.N (Kd.slice 58 k58) 48 w' w.heap.size (fun k_ => (w.heap.size ≤ k_) ∧ some k_ ≠ (v0_ : Value).ownBlock) v1_ r2 ∧ Below w.heap.size w w' := by
  have hu25 := Try.underlying25
  have hu58 := Try.underlying58
  have HB := Aside0.mk (Below.refl w.heap.size w)
  have H : (some ((([0, 1, 2] : List Int)), (([(([(⟨1, 1⟩ : S58)] : List (S58))), (([(⟨0, 1⟩ : S58), (⟨2, 1⟩ : S58)] : List (S58))), (([(⟨1, 1⟩ : S58)] : List (S58)))] : List (List (S58)))))) = some (r1, r2) := h
  clear h
  obtain ⟨y122, hy122⟩ : ∃ y_ : List Int, y_ = (([0, 1, 2] : List Int)) := ⟨_, rfl⟩
  replace H : (some (y122, (([(([(⟨1, 1⟩ : S58)] : List (S58))), (([(⟨0, 1⟩ : S58), (⟨2, 1⟩ : S58)] : List (S58))), (([(⟨1, 1⟩ : S58)] : List (S58)))] : List (List (S58)))))) = some (r1, r2) := by first | (rw [hy122]; with_reducible exact H) | (have H2_ := (Option.bind_some _ _).symm.trans H; rw [hy122]; with_reducible exact H2_) | (have H2_ := (Option.bind_some _ _).symm.trans H; with_reducible exact H2_) | with_reducible exact H | (rw [hy122]; exact H) | exact H
  have Ny122 := Aside0.mk hy122
  clear hy122
  obtain ⟨y125, hy125⟩ : ∃ y_ : List (S58), y_ = (([(⟨1, 1⟩ : S58)] : List (S58))) := ⟨_, rfl⟩
  replace H : (some (y122, (([y125, (([(⟨0, 1⟩ : S58), (⟨2, 1⟩ : S58)] : List (S58))), (([(⟨1, 1⟩ : S58)] : List (S58)))] : List (List (S58)))))) = some (r1, r2) := by first | (rw [hy125]; with_reducible exact H) | (have H2_ := (Option.bind_some _ _).symm.trans H; rw [hy125]; with_reducible exact H2_) | (have H2_ := (Option.bind_some _ _).symm.trans H; with_reducible exact H2_) | with_reducible exact H | (rw [hy125]; exact H) | exact H
  have Ny125 := Aside0.mk hy125
  clear hy125
  obtain ⟨y128, hy128⟩ : ∃ y_ : List (S58), y_ = (([(⟨0, 1⟩ : S58), (⟨2, 1⟩ : S58)] : List (S58))) := ⟨_, rfl⟩
  replace H : (some (y122, (([y125, y128, (([(⟨1, 1⟩ : S58)] : List (S58)))] : List (List (S58)))))) = some (r1, r2) := by first | (rw [hy128]; with_reducible exact H) | (have H2_ := (Option.bind_some _ _).symm.trans H; rw [hy128]; with_reducible exact H2_) | (have H2_ := (Option.bind_some _ _).symm.trans H; with_reducible exact H2_) | with_reducible exact H | (rw [hy128]; exact H) | exact H
  have Ny128 := Aside0.mk hy128
  clear hy128
  obtain ⟨y131, hy131⟩ : ∃ y_ : List (S58), y_ = (([(⟨1, 1⟩ : S58)] : List (S58))) := ⟨_, rfl⟩
  replace H : (some (y122, (([y125, y128, y131] : List (List (S58)))))) = some (r1, r2) := by first | (rw [hy131]; with_reducible exact H) | (have H2_ := (Option.bind_some _ _).symm.trans H; rw [hy131]; with_reducible exact H2_) | (have H2_ := (Option.bind_some _ _).symm.trans H; with_reducible exact H2_) | with_reducible exact H | (rw [hy131]; exact H) | exact H
  have Ny131 := Aside0.mk hy131
  clear hy131
  obtain ⟨y134, hy134⟩ : ∃ y_ : List (List (S58)), y_ = (([y125, y128, y131] : List (List (S58)))) := ⟨_, rfl⟩
  replace H : (some (y122, y134)) = some (r1, r2) := by first | (rw [hy134]; with_reducible exact H) | (have H2_ := (Option.bind_some _ _).symm.trans H; rw [hy134]; with_reducible exact H2_) | (have H2_ := (Option.bind_some _ _).symm.trans H; with_reducible exact H2_) | with_reducible exact H | (rw [hy134]; exact H) | exact H
  have Ny134 := Aside0.mk hy134
  clear hy134
  simp only [Option.some.injEq, Prod.mk.injEq] at H
  obtain ⟨rfl, rfl⟩ := H
  go_enter Try.func29, Try.ntmps29
  go_wp2_with (first | ((with_reducible refine gate_dst (N := 0) rfl ?_); refine box_event ?hg (N := 0) ?hd (cs := #[.slice none 0 0, .slice none 0 0]) (t := 25) ?hr ?_; (case hd => rfl); (case hg => rfl); (case hr => first | (go_simp; done) | (go_simp; rfl)); intro gb121 hg w1 hbox hb; have n0_ := Aside0.mk (below_step (by repeat (first | (with_reducible first | exact HB.out | apply below_alloc | apply pw_below_drewN | apply below_drew1) | exact HB.out)) hb); have n1_ := Aside0.mk (hbox); have n2_ := Aside0.mk ((by rw [hg]; exact (below_size (by repeat (first | (with_reducible first | exact HB.out | apply below_alloc | apply pw_below_drewN | apply below_drew1) | exact HB.out))) : w.heap.size ≤ gb121)); have n3_ := Aside0.mk ((by rw [hg]; exact (below_size (by repeat (first | (with_reducible first | exact HB.out | apply below_alloc | apply pw_below_drewN | apply below_drew1) | exact HB.out))) : w.heap.size ≤ gb121)); clear HB; have HB := n0_; have BK121 := n1_; have GW121 := n2_; have GE121 := n3_; clear n0_ n1_ n2_ n3_; clear hb hbox hg) | ((with_reducible refine gate_dst (N := 1) rfl ?_); refine Kd.R_lit (Kd.int .i64) _ 3 ?hg (N := 1) ?hd (xs := ([0, 1, 2] : List Int)) (inner := [.int .i64 0, .int .i64 1, .int .i64 2]) (ok := fun _ => True) (okp := fun _ => True) ?hr ?hp (fun _ hk => hk) trivial (Below.refl _ _) (Nat.le_refl _) (by simp) ?_; (case hd => rfl); (case hg => rfl); (case hr => first | (go_simp; done) | (go_simp; rfl)); (case hp => exact (Reps.one (show Kd.M (Kd.int .i64) _ _ _ 0 [.int .i64 0] from rfl) (Reps.one (show Kd.M (Kd.int .i64) _ _ _ 1 [.int .i64 1] from rfl) (Reps.one (show Kd.M (Kd.int .i64) _ _ _ 2 [.int .i64 2] from rfl) (Reps.none _ _))))); intro v123 w2 ho3 hb hg_ hnew_; clear hg_ hnew_; (first | rw [← Ny122.out] at ho3 | (simp only [Int.reduceToNat] at ho3; rw [← Ny122.out] at ho3)); have n0_ := Aside0.mk (Kd.R_lower (Kd.R_newM (M := fun k_ => (w.heap.size ≤ k_)) ho3 (below_size (by repeat (first | (with_reducible first | exact HB.out | apply below_alloc | apply pw_below_drewN | apply below_drew1 | refine below_set ?_ GE121.out) | exact HB.out))) (fun k_ h_ => h_)) (below_size (by repeat (first | (with_reducible first | exact HB.out | apply below_alloc | apply pw_below_drewN | apply below_drew1 | refine below_set ?_ GE121.out) | exact HB.out)))); have n1_ := Aside0.mk (blk_below (g := gb121) (o := .cells #[.slice none 0 0, .slice none 0 0] 25 (0, 0)) (by (with_reducible repeat (first | refine blk_drewN ?_ _ | refine blk_drew ?_ | refine blk_alloc ?_ _)); exact BK121.out) hb); have n2_ := Aside0.mk (below_step (by repeat (first | (with_reducible first | exact HB.out | apply below_alloc | apply pw_below_drewN | apply below_drew1 | refine below_set ?_ GE121.out) | exact HB.out)) hb); clear BK121; clear HB; have HO124 := n0_; have BK121 := n1_; have HB := n2_; clear n0_ n1_ n2_; clear hb ho3) | ((with_reducible refine gate_dst (N := 3) rfl ?_); refine Kd.R_lit k58 _ 58 ?hg (N := 3) ?hd (xs := ([(⟨1, 1⟩ : S58)] : List (S58))) (inner := [.int .i64 1, .int .i64 1]) (ok := fun _ => True) (okp := fun _ => True) ?hr ?hp (fun _ hk => hk) trivial (Below.refl _ _) (Nat.le_refl _) (by simp) ?_; (case hd => rfl); (case hg => rfl); (case hr => first | (go_simp; done) | (go_simp; rfl)); (case hp => exact (Reps.c2 (show Kd.M k58 _ _ _ (⟨1, 1⟩ : S58) [.int .i64 1, .int .i64 1] from (k58_mkM _ _ _ (⟨1, 1⟩ : S58) )) (Reps.none _ _))); intro v126 w4 ho5 hb hg_ hnew_; clear hg_ hnew_; (first | rw [← Ny125.out] at ho5 | (simp only [Int.reduceToNat] at ho5; rw [← Ny125.out] at ho5)); have n0_ := Aside0.mk (Kd.R_below (by (with_reducible repeat (first | apply Kd.R_alloc | apply Kd.R_drewN | apply Kd.R_drew)); exact HO124.out) hb); have n1_ := Aside0.mk (Kd.R_lower (Kd.R_newM (M := fun k_ => (w.heap.size ≤ k_)) ho5 (below_size (by repeat (first | (with_reducible first | exact HB.out | apply below_alloc | apply pw_below_drewN | apply below_drew1 | refine below_set ?_ GE121.out) | exact HB.out))) (fun k_ h_ => h_)) (below_size (by repeat (first | (with_reducible first | exact HB.out | apply below_alloc | apply pw_below_drewN | apply below_drew1 | refine below_set ?_ GE121.out) | exact HB.out)))); have n2_ := Aside0.mk (blk_below (g := gb121) (o := .cells #[.slice none 0 0, .slice none 0 0] 25 (0, 0)) (by (with_reducible repeat (first | refine blk_drewN ?_ _ | refine blk_drew ?_ | refine blk_alloc ?_ _)); exact BK121.out) hb); have n3_ := Aside0.mk (below_step (by repeat (first | (with_reducible first | exact HB.out | apply below_alloc | apply pw_below_drewN | apply below_drew1 | refine below_set ?_ GE121.out) | exact HB.out)) hb); clear HO124; clear BK121; clear HB; have HO124 := n0_; have HO127 := n1_; have BK121 := n2_; have HB := n3_; clear n0_ n1_ n2_ n3_; clear hb ho5) | ((with_reducible refine gate_dst (N := 6) rfl ?_); refine Kd.R_lit k58 _ 58 ?hg (N := 6) ?hd (xs := ([(⟨0, 1⟩ : S58), (⟨2, 1⟩ : S58)] : List (S58))) (inner := [.int .i64 0, .int .i64 1, .int .i64 2, .int .i64 1]) (ok := fun _ => True) (okp := fun _ => True) ?hr ?hp (fun _ hk => hk) trivial (Below.refl _ _) (Nat.le_refl _) (by simp) ?_; (case hd => rfl); (case hg => rfl); (case hr => first | (go_simp; done) | (go_simp; rfl)); (case hp => exact (Reps.c2 (show Kd.M k58 _ _ _ (⟨0, 1⟩ : S58) [.int .i64 0, .int .i64 1] from (k58_mkM _ _ _ (⟨0, 1⟩ : S58) )) (Reps.c2 (show Kd.M k58 _ _ _ (⟨2, 1⟩ : S58) [.int .i64 2, .int .i64 1] from (k58_mkM _ _ _ (⟨2, 1⟩ : S58) )) (Reps.none _ _)))); intro v129 w6 ho7 hb hg_ hnew_; clear hg_ hnew_; (first | rw [← Ny128.out] at ho7 | (simp only [Int.reduceToNat] at ho7; rw [← Ny128.out] at ho7)); have n0_ := Aside0.mk (Kd.R_below (by (with_reducible repeat (first | apply Kd.R_alloc | apply Kd.R_drewN | apply Kd.R_drew)); exact HO124.out) hb); have n1_ := Aside0.mk (Kd.R_elder' (by (with_reducible repeat (first | apply Kd.R_alloc | apply Kd.R_drewN | apply Kd.R_drew)); exact HO127.out) (Kd.R_base ho7) hb); have n2_ := Aside0.mk (Kd.R_lower (Kd.R_new' (Kd.R_newM (M := fun k_ => (w.heap.size ≤ k_)) ho7 (below_size (by repeat (first | (with_reducible first | exact HB.out | apply below_alloc | apply pw_below_drewN | apply below_drew1 | refine below_set ?_ GE121.out) | exact HB.out))) (fun k_ h_ => h_)) (Kd.R_lt (by (with_reducible repeat (first | apply Kd.R_alloc | apply Kd.R_drewN | apply Kd.R_drew)); exact HO127.out))) (below_size (by repeat (first | (with_reducible first | exact HB.out | apply below_alloc | apply pw_below_drewN | apply below_drew1 | refine below_set ?_ GE121.out) | exact HB.out)))); have n3_ := Aside0.mk (blk_below (g := gb121) (o := .cells #[.slice none 0 0, .slice none 0 0] 25 (0, 0)) (by (with_reducible repeat (first | refine blk_drewN ?_ _ | refine blk_drew ?_ | refine blk_alloc ?_ _)); exact BK121.out) hb); have n4_ := Aside0.mk (below_step (by repeat (first | (with_reducible first | exact HB.out | apply below_alloc | apply pw_below_drewN | apply below_drew1 | refine below_set ?_ GE121.out) | exact HB.out)) hb); clear HO124; clear HO127; clear BK121; clear HB; have HO124 := n0_; have HO127 := n1_; have HO130 := n2_; have BK121 := n3_; have HB := n4_; clear n0_ n1_ n2_ n3_ n4_; clear hb ho7) | ((with_reducible refine gate_dst (N := 8) rfl ?_); refine Kd.R_lit k58 _ 58 ?hg (N := 8) ?hd (xs := ([(⟨1, 1⟩ : S58)] : List (S58))) (inner := [.int .i64 1, .int .i64 1]) (ok := fun _ => True) (okp := fun _ => True) ?hr ?hp (fun _ hk => hk) trivial (Below.refl _ _) (Nat.le_refl _) (by simp) ?_; (case hd => rfl); (case hg => rfl); (case hr => first | (go_simp; done) | (go_simp; rfl)); (case hp => exact (Reps.c2 (show Kd.M k58 _ _ _ (⟨1, 1⟩ : S58) [.int .i64 1, .int .i64 1] from (k58_mkM _ _ _ (⟨1, 1⟩ : S58) )) (Reps.none _ _))); intro v132 w8 ho9 hb hg_ hnew_; clear hg_ hnew_; (first | rw [← Ny131.out] at ho9 | (simp only [Int.reduceToNat] at ho9; rw [← Ny131.out] at ho9)); have n0_ := Aside0.mk (Kd.R_below (by (with_reducible repeat (first | apply Kd.R_alloc | apply Kd.R_drewN | apply Kd.R_drew)); exact HO124.out) hb); have n1_ := Aside0.mk (Kd.R_elder' (by (with_reducible repeat (first | apply Kd.R_alloc | apply Kd.R_drewN | apply Kd.R_drew)); exact HO127.out) (Kd.R_base ho9) hb); have n2_ := Aside0.mk (Kd.R_elder' (by (with_reducible repeat (first | apply Kd.R_alloc | apply Kd.R_drewN | apply Kd.R_drew)); exact HO130.out) (Kd.R_base ho9) hb); have n3_ := Aside0.mk (Kd.R_lower (Kd.R_new' (Kd.R_new' (Kd.R_newM (M := fun k_ => (w.heap.size ≤ k_)) ho9 (below_size (by repeat (first | (with_reducible first | exact HB.out | apply below_alloc | apply pw_below_drewN | apply below_drew1 | refine below_set ?_ GE121.out) | exact HB.out))) (fun k_ h_ => h_)) (Kd.R_lt (by (with_reducible repeat (first | apply Kd.R_alloc | apply Kd.R_drewN | apply Kd.R_drew)); exact HO127.out))) (Kd.R_lt (by (with_reducible repeat (first | apply Kd.R_alloc | apply Kd.R_drewN | apply Kd.R_drew)); exact HO130.out))) (below_size (by repeat (first | (with_reducible first | exact HB.out | apply below_alloc | apply pw_below_drewN | apply below_drew1 | refine below_set ?_ GE121.out) | exact HB.out)))); have n4_ := Aside0.mk (blk_below (g := gb121) (o := .cells #[.slice none 0 0, .slice none 0 0] 25 (0, 0)) (by (with_reducible repeat (first | refine blk_drewN ?_ _ | refine blk_drew ?_ | refine blk_alloc ?_ _)); exact BK121.out) hb); have n5_ := Aside0.mk (below_step (by repeat (first | (with_reducible first | exact HB.out | apply below_alloc | apply pw_below_drewN | apply below_drew1 | refine below_set ?_ GE121.out) | exact HB.out)) hb); clear HO124; clear HO127; clear HO130; clear BK121; clear HB; have HO124 := n0_; have HO127 := n1_; have HO130 := n2_; have HO133 := n3_; have BK121 := n4_; have HB := n5_; clear n0_ n1_ n2_ n3_ n4_ n5_; clear hb ho9; obtain ⟨Ao10, co10, eo10⟩ := Kd.R_slice HO127.out; subst eo10; obtain ⟨Ao11, co11, eo11⟩ := Kd.R_slice HO130.out; subst eo11; obtain ⟨Ao12, co12, eo12⟩ := Kd.R_slice HO133.out; subst eo12) | ((with_reducible refine gate_dst (N := 9) rfl ?_); refine Kd.N_lit (Kd.slice 58 k58) _ 48 ?hg (N' := 9) ?hd (xs := ([y125, y128, y131] : List (List (S58)))) (inner := [.slice Ao10 y125.length co10, .slice Ao11 y128.length co11, .slice Ao12 y131.length co12]) (ok := (fun k_ => (w.heap.size ≤ k_) ∧ some k_ ≠ (v123 : Value).ownBlock ∧ k_ ≠ gb121)) (okp := (fun k_ => (w.heap.size ≤ k_) ∧ some k_ ≠ (v123 : Value).ownBlock ∧ k_ ≠ gb121)) ?hr ?hp (fun _ hk => hk) ((show ∀ k_, w8.heap.size ≤ k_ → (fun k_ => (w.heap.size ≤ k_) ∧ some k_ ≠ (v123 : Value).ownBlock ∧ k_ ≠ gb121) k_ from fun k_ hk => ⟨(Nat.le_trans (below_size (by repeat (first | (with_reducible first | exact HB.out | apply below_alloc | apply pw_below_drewN | apply below_drew1 | refine below_set ?_ GE121.out) | exact HB.out))) hk), Kd.fresh' (Kd.R_lt (by (with_reducible repeat (first | apply Kd.R_alloc | apply Kd.R_drewN | apply Kd.R_drew)); exact HO124.out)) k_ hk, Kd.freshB (g := gb121) (o := .cells #[.slice none 0 0, .slice none 0 0] 25 (0, 0)) (by (with_reducible repeat (first | refine blk_drewN ?_ _ | refine blk_drew ?_ | refine blk_alloc ?_ _)); exact BK121.out) k_ hk⟩) _ (Nat.le_refl _)) (Below.refl _ _) (Nat.le_refl _) (by simp) ?_; (case hd => rfl); (case hg => rfl); (case hr => first | (go_simp; done) | (go_simp; rfl)); (case hp => exact (Reps.one (show Kd.FK (Kd.slice 58 k58) _ _ y125 [.slice Ao10 y125.length co10] from (Kd.FK_slice_mk (Kd.R_reads' (Kd.R_mono (ok' := (fun k_ => (w.heap.size ≤ k_) ∧ some k_ ≠ (v123 : Value).ownBlock ∧ k_ ≠ gb121)) (Kd.R_types (Kd.R_apart' (HO127.out) (Kd.R_typed HO124.out) (by decide)) BK121.out (by decide)) (fun k_ hk => ⟨hk.1.1.1.1.1, ⟨hk.1.2, hk.2⟩⟩))).2.1 (Kd.R_F (Kd.R_mono (ok' := (fun k_ => (w.heap.size ≤ k_) ∧ some k_ ≠ (v123 : Value).ownBlock ∧ k_ ≠ gb121)) (Kd.R_types (Kd.R_apart' (HO127.out) (Kd.R_typed HO124.out) (by decide)) BK121.out (by decide)) (fun k_ hk => ⟨hk.1.1.1.1.1, ⟨hk.1.2, hk.2⟩⟩))))) (Reps.one (show Kd.FK (Kd.slice 58 k58) _ _ y128 [.slice Ao11 y128.length co11] from (Kd.FK_slice_mk (Kd.R_reads' (Kd.R_mono (ok' := (fun k_ => (w.heap.size ≤ k_) ∧ some k_ ≠ (v123 : Value).ownBlock ∧ k_ ≠ gb121)) (Kd.R_types (Kd.R_apart' (HO130.out) (Kd.R_typed HO124.out) (by decide)) BK121.out (by decide)) (fun k_ hk => ⟨hk.1.1.1.1.1, ⟨hk.1.2, hk.2⟩⟩))).2.1 (Kd.R_F (Kd.R_mono (ok' := (fun k_ => (w.heap.size ≤ k_) ∧ some k_ ≠ (v123 : Value).ownBlock ∧ k_ ≠ gb121)) (Kd.R_types (Kd.R_apart' (HO130.out) (Kd.R_typed HO124.out) (by decide)) BK121.out (by decide)) (fun k_ hk => ⟨hk.1.1.1.1.1, ⟨hk.1.2, hk.2⟩⟩))))) (Reps.one (show Kd.FK (Kd.slice 58 k58) _ _ y131 [.slice Ao12 y131.length co12] from (Kd.FK_slice_mk (Kd.R_reads' (Kd.R_mono (ok' := (fun k_ => (w.heap.size ≤ k_) ∧ some k_ ≠ (v123 : Value).ownBlock ∧ k_ ≠ gb121)) (Kd.R_types (Kd.R_apart' (HO133.out) (Kd.R_typed HO124.out) (by decide)) BK121.out (by decide)) (fun k_ hk => ⟨hk.1.1.1.1.1, ⟨hk.1.2, hk.2⟩⟩))).2.1 (Kd.R_F (Kd.R_mono (ok' := (fun k_ => (w.heap.size ≤ k_) ∧ some k_ ≠ (v123 : Value).ownBlock ∧ k_ ≠ gb121)) (Kd.R_types (Kd.R_apart' (HO133.out) (Kd.R_typed HO124.out) (by decide)) BK121.out (by decide)) (fun k_ hk => ⟨hk.1.1.1.1.1, ⟨hk.1.2, hk.2⟩⟩))))) (Reps.none _ _))))); intro v135 w13 ho14 hb hg_ hnew_; clear hg_ hnew_; (first | rw [← Ny134.out] at ho14 | (simp only [Int.reduceToNat] at ho14; rw [← Ny134.out] at ho14)); have n0_ := Aside0.mk (Kd.R_below (by (with_reducible repeat (first | apply Kd.R_alloc | apply Kd.R_drewN | apply Kd.R_drew)); exact HO124.out) hb); have n1_ := Aside0.mk (Kd.N_lower ho14 (below_size (by repeat (first | (with_reducible first | exact HB.out | apply below_alloc | apply pw_below_drewN | apply below_drew1 | refine below_set ?_ GE121.out) | exact HB.out)))); have n2_ := Aside0.mk (blk_below (g := gb121) (o := .cells #[.slice none 0 0, .slice none 0 0] 25 (0, 0)) (by (with_reducible repeat (first | refine blk_drewN ?_ _ | refine blk_drew ?_ | refine blk_alloc ?_ _)); exact BK121.out) hb); have n3_ := Aside0.mk (below_step (by repeat (first | (with_reducible first | exact HB.out | apply below_alloc | apply pw_below_drewN | apply below_drew1 | refine below_set ?_ GE121.out) | exact HB.out)) hb); clear HO124; clear BK121; clear HB; clear HO127; clear HO130; clear HO133; have HO124 := n0_; have HO136 := n1_; have BK121 := n2_; have HB := n3_; clear n0_ n1_ n2_ n3_; clear hb ho14; obtain ⟨Ao15, co15, eo15⟩ := Kd.N_slice HO136.out; subst eo15; obtain ⟨Ao16, co16, eo16⟩ := Kd.R_slice HO124.out; subst eo16; have hcz17_0 : w13.cell? ⟨gb121, 0, none⟩ = some (.slice none 0 0) := (blk_cell BK121.out 0).trans rfl; have hcz17_1 : w13.cell? ⟨gb121, 1, none⟩ = some (.slice none 0 0) := (blk_cell BK121.out 1).trans rfl; have hfz17_0 := blk_frozen BK121.out 0; have hfz17_1 := blk_frozen BK121.out 1))
  refine bodyPost_ret (results_cell_row rfl _ _ gb121 25 #[.slice Ao16 y122.length co16, .slice Ao15 y134.length co15] (0, 0) _ rfl (by (with_reducible repeat (first | refine blk_drewN ?_ _ | refine blk_drew ?_ | refine blk_alloc ?_ _)); refine blk_put (cs := #[.slice Ao16 y122.length co16, .slice none 0 0]) ?_ 1 _ rfl; (with_reducible repeat (first | refine blk_drewN ?_ _ | refine blk_drew ?_ | refine blk_alloc ?_ _)); refine blk_put (cs := #[.slice none 0 0, .slice none 0 0]) ?_ 0 _ rfl; (with_reducible repeat (first | refine blk_drewN ?_ _ | refine blk_drew ?_ | refine blk_alloc ?_ _)); exact BK121.out) Try.underlying25 rfl (by kernel_rfl)) rfl ?_
  exact ⟨_, _, by first | rfl | (simp [errW_none, errW_some] <;> rfl) | (simp [*, errW_none, errW_some] <;> rfl), by (with_reducible repeat (first | apply Kd.R_alloc | apply Kd.R_drewN | apply Kd.R_drew)); exact Kd.R_mono (Kd.R_far (p := ⟨gb121, 1, none⟩) (Kd.R_far (p := ⟨gb121, 0, none⟩) (Kd.R_types HO124.out BK121.out (by decide)) (fun _ hk => hk.2) (.slice Ao16 y122.length co16)) (fun _ hk => hk.2) (.slice Ao15 y134.length co15)) (fun _ hk => hk.1.1), by (with_reducible repeat (first | apply Kd.N_alloc | apply Kd.N_drewN | apply Kd.N_drew)); exact Kd.N_mono (Kd.N_far (p := ⟨gb121, 1, none⟩) (Kd.N_far (p := ⟨gb121, 0, none⟩) (Kd.N_mono HO136.out (fun k_ hk => (⟨hk, hk.2.2⟩ : _ ∧ k_ ≠ gb121))) (fun _ hk => hk.2) (.slice Ao16 y122.length co16)) (fun _ hk => hk.2) (.slice Ao15 y134.length co15)) (fun _ hk => ⟨hk.1.1, hk.1.2.1⟩), by repeat (first | (with_reducible first | exact HB.out | apply below_alloc | apply pw_below_drewN | apply below_drew1 | refine below_set ?_ GE121.out) | exact HB.out)⟩

/-! ### selfstablaw15_awake: function 11 -/
def selfstablaw15_awake.f (k : Nat)  : Option (Bool) := (selfstablaw15_path.f).bind fun bt137 => ((daemon_Choices.f k bt137.1 bt137.2 2 7).bind fun bt143 => (if bt143.2 = 0 then ((selfstabref15_Same.f k bt143.1 (([1, 2, 4, 5] : List Int))).bind fun t150 => (if t150 = true then ((selfstablaw15_path.f).bind fun bt151 => ((daemon_Resolve.f k bt151.1 bt151.2 2 7 7).bind fun t157 => (some (t157 == 5)))) else (none))) else (none)))
theorem selfstablaw15_awake.mono : ∀ k, LeO (selfstablaw15_awake.f k ) (selfstablaw15_awake.f (k + 1) ) := by
  intro  k
  unfold selfstablaw15_awake.f
  repeat' first
      | (with_reducible exact daemon_Choices.mono _ _ _ _ _)
      | (with_reducible exact daemon_Resolve.mono _ _ _ _ _ _)
      | (with_reducible exact selfstabref15_Same.mono _ _ _)
      | (with_reducible exact LeO.refl _)
      | (with_reducible exact LeO.none _)
      | (with_reducible refine LeO.ite ?_ ?_)
      | (with_reducible refine LeO.bind ?_ (fun _ => ?_))
      | exact daemon_Choices.mono _ _ _ _ _
      | exact daemon_Resolve.mono _ _ _ _ _ _
      | exact selfstabref15_Same.mono _ _ _
      | exact LeO.none _
      | refine LeO.ite ?_ ?_
      | refine LeO.bind ?_ (fun _ => ?_)
set_option maxHeartbeats 8000000 in
set_option maxRecDepth 100000 in
theorem selfstablaw15_awake.calls (k : Nat)  (r : Bool) (w : World) (h : selfstablaw15_awake.f k  = some r) :
    Calls Try.prog 11 #[] w fun e w' => e = .returned (.bool r) ∧ Below w.heap.size w w' := by
  have HB := Aside0.mk (Below.refl w.heap.size w)
  have H : ((selfstablaw15_path.f).bind fun bt137 => ((daemon_Choices.f k bt137.1 bt137.2 2 7).bind fun bt143 => (if bt143.2 = 0 then ((selfstabref15_Same.f k bt143.1 (([1, 2, 4, 5] : List Int))).bind fun t150 => (if t150 = true then ((selfstablaw15_path.f).bind fun bt151 => ((daemon_Resolve.f k bt151.1 bt151.2 2 7 7).bind fun t157 => (some (t157 == 5)))) else (none))) else (none)))) = some r := h
  clear h
  replace H := Option.bind_eq_some_iff.mp H
  obtain ⟨⟨t137, t140⟩, A10, H⟩ := H
  replace H : ((daemon_Choices.f k t137 t140 2 7).bind fun bt143 => (if bt143.2 = 0 then ((selfstabref15_Same.f k bt143.1 (([1, 2, 4, 5] : List Int))).bind fun t150 => (if t150 = true then ((selfstablaw15_path.f).bind fun bt151 => ((daemon_Resolve.f k bt151.1 bt151.2 2 7 7).bind fun t157 => (some (t157 == 5)))) else (none))) else (none))) = some r := H
  have A1 := Aside0.mk A10
  clear A10
  replace H := Option.bind_eq_some_iff.mp H
  obtain ⟨⟨t143, t146⟩, A20, H⟩ := H
  replace H : (if t146 = 0 then ((selfstabref15_Same.f k t143 (([1, 2, 4, 5] : List Int))).bind fun t150 => (if t150 = true then ((selfstablaw15_path.f).bind fun bt151 => ((daemon_Resolve.f k bt151.1 bt151.2 2 7 7).bind fun t157 => (some (t157 == 5)))) else (none))) else (none)) = some r := H
  have A2 := Aside0.mk A20
  clear A20
  by_cases c3 : t146 = 0
  · rw [if_pos c3] at H
    have c3b0 : (t146 == 0) = true := beq_iff_eq.mpr c3
    have c3b1 : (t146 != 0) = false := bne_eq_false_iff_eq.mpr c3
    clear c3
    obtain ⟨y147, hy147⟩ : ∃ y_ : List Int, y_ = (([1, 2, 4, 5] : List Int)) := ⟨_, rfl⟩
    replace H : ((selfstabref15_Same.f k t143 y147).bind fun t150 => (if t150 = true then ((selfstablaw15_path.f).bind fun bt151 => ((daemon_Resolve.f k bt151.1 bt151.2 2 7 7).bind fun t157 => (some (t157 == 5)))) else (none))) = some r := by first | (rw [hy147]; with_reducible exact H) | (have H2_ := (Option.bind_some _ _).symm.trans H; rw [hy147]; with_reducible exact H2_) | (have H2_ := (Option.bind_some _ _).symm.trans H; with_reducible exact H2_) | with_reducible exact H | (rw [hy147]; exact H) | exact H
    have Ny147 := Aside0.mk hy147
    clear hy147
    replace H := Option.bind_eq_some_iff.mp H
    obtain ⟨t150, A40, H⟩ := H
    replace H : (if t150 = true then ((selfstablaw15_path.f).bind fun bt151 => ((daemon_Resolve.f k bt151.1 bt151.2 2 7 7).bind fun t157 => (some (t157 == 5)))) else (none)) = some r := H
    have A4 := Aside0.mk A40
    clear A40
    by_cases c5 : t150 = true
    · subst c5
      have H1 : ((selfstablaw15_path.f).bind fun bt151 => ((daemon_Resolve.f k bt151.1 bt151.2 2 7 7).bind fun t157 => (some (t157 == 5)))) = some r := by rw [if_pos rfl] at H; exact H
      clear H
      have H := H1
      clear H1
      replace H := Option.bind_eq_some_iff.mp H
      obtain ⟨⟨t151, t154⟩, A60, H⟩ := H
      replace H : ((daemon_Resolve.f k t151 t154 2 7 7).bind fun t157 => (some (t157 == 5))) = some r := H
      have A6 := Aside0.mk A60
      clear A60
      replace H := Option.bind_eq_some_iff.mp H
      obtain ⟨t157, A70, H⟩ := H
      replace H : (some (t157 == 5)) = some r := H
      have A7 := Aside0.mk A70
      clear A70
      obtain rfl := Option.some.inj H
      go_enter Try.func11, Try.ntmps11
      go_wp2_with (first | ((with_reducible refine gate_callee (f := 29) rfl ?_); refine goesL_ (some 4) rfl rfl Try.func29 (by kernel_rfl) rfl #[] rfl (by (try simp only [List.map_toArray, List.map_cons, List.map_nil]); first | done | rfl | (simp only [List.length_drop, List.length_take]; rfl)) ?_; (with_reducible refine (selfstablaw15_path.calls  t137 t140 _ A1.out).mono ?_); rintro e w8 ⟨v138, v141, rfl, ho0, ho1, hb⟩; refine ⟨_, rfl, ?_⟩; have n0_ := Aside0.mk (Kd.R_lower (Kd.R_mono (ok' := fun k_ => True) ho0 (fun _ hk_ => trivial)) (below_size (by repeat (first | (with_reducible first | exact HB.out | apply below_alloc | apply pw_below_drewN | apply below_drew1) | exact HB.out)))); have n1_ := Aside0.mk (Kd.N_lower (Kd.N_mono (ok' := fun k_ => some k_ ≠ (v138 : Value).ownBlock) ho1 (fun k_ hk_ => hk_.2)) (below_size (by repeat (first | (with_reducible first | exact HB.out | apply below_alloc | apply pw_below_drewN | apply below_drew1) | exact HB.out)))); have n2_ := Aside0.mk (below_step (by repeat (first | (with_reducible first | exact HB.out | apply below_alloc | apply pw_below_drewN | apply below_drew1) | exact HB.out)) hb); clear HB; have HO139 := n0_; have HO142 := n1_; have HB := n2_; clear n0_ n1_ n2_; (try clear hb); (try clear hb2); (try clear hk); (try clear hi); (try clear ho0); (try clear ho1); obtain ⟨Ao9, co9, eo9⟩ := Kd.R_slice HO139.out; subst eo9; obtain ⟨Ao10, co10, eo10⟩ := Kd.N_slice HO142.out; subst eo10) | ((with_reducible refine gate_callee (f := 12) rfl ?_); refine goesL_ (some 5) rfl rfl Try.func12 (by kernel_rfl) rfl #[.agg #[.slice Ao9 t137.length co9, .slice Ao10 t140.length co10], .int .i64 2, .int .u32 7] rfl (by (try simp only [List.map_toArray, List.map_cons, List.map_nil]); first | done | rfl | (simp only [List.length_drop, List.length_take]; rfl)) ?_; (with_reducible refine (daemon_Choices.calls k _ _ t137 _ _ t140 2 7 t143 t146 _ ?side1 ?side2 ?side3 ?side4 A2.out).mono ?_); (case side1 => repeat (first | exact (Kd.R_reads' HO139.out).2.2 | (with_reducible refine Kd.C_alloc ?_ _) | (with_reducible refine Kd.C_drewN ?_ _) | (with_reducible refine Kd.C_drew ?_))); (case side2 => exact (Kd.R_reads' HO139.out).2.1); (case side3 => repeat (first | exact (Kd.N_reads' HO142.out).2.2 | (with_reducible refine Kd.C_alloc ?_ _) | (with_reducible refine Kd.C_drewN ?_ _) | (with_reducible refine Kd.C_drew ?_))); (case side4 => exact (Kd.N_reads' HO142.out).2.1); rintro e w11 ⟨v144, rfl, ho0, hb⟩; refine ⟨_, rfl, ?_⟩; have n0_ := Aside0.mk (Kd.R_below (by (with_reducible repeat (first | apply Kd.R_alloc | apply Kd.R_drewN | apply Kd.R_drew)); exact HO139.out) hb); have n1_ := Aside0.mk (Kd.N_elder' (by (with_reducible repeat (first | apply Kd.N_alloc | apply Kd.N_drewN | apply Kd.N_drew)); exact HO142.out) (Kd.R_base ho0) hb); have n2_ := Aside0.mk (Kd.R_lower ho0 (below_size (by repeat (first | (with_reducible first | exact HB.out | apply below_alloc | apply pw_below_drewN | apply below_drew1) | exact HB.out)))); have n3_ := Aside0.mk (below_step (by repeat (first | (with_reducible first | exact HB.out | apply below_alloc | apply pw_below_drewN | apply below_drew1) | exact HB.out)) hb); clear HO139; clear HO142; clear HB; have HO139 := n0_; have HO142 := n1_; have HO145 := n2_; have HB := n3_; clear n0_ n1_ n2_ n3_; (try clear hb); (try clear hb2); (try clear hk); (try clear hi); (try clear ho0)) | ((with_reducible refine gate_dst (N := 12) rfl ?_); (try (refine gate_guard (by rfl) ?_; dsimp only)); refine Kd.R_lit (Kd.int .u32) _ 26 ?hg (N := 12) ?hd (xs := ([1, 2, 4, 5] : List Int)) (inner := [.int .u32 1, .int .u32 2, .int .u32 4, .int .u32 5]) (ok := fun _ => True) (okp := fun _ => True) ?hr ?hp (fun _ hk => hk) trivial (Below.refl _ _) (Nat.le_refl _) (by simp) ?_; (case hd => rfl); (case hg => rfl); (case hr => first | (go_simp; done) | (go_simp; rfl)); (case hp => exact (Reps.one (show Kd.M (Kd.int .u32) _ _ _ 1 [.int .u32 1] from rfl) (Reps.one (show Kd.M (Kd.int .u32) _ _ _ 2 [.int .u32 2] from rfl) (Reps.one (show Kd.M (Kd.int .u32) _ _ _ 4 [.int .u32 4] from rfl) (Reps.one (show Kd.M (Kd.int .u32) _ _ _ 5 [.int .u32 5] from rfl) (Reps.none _ _)))))); intro v148 w12 ho13 hb hg_ hnew_; clear hg_ hnew_; (first | rw [← Ny147.out] at ho13 | (simp only [Int.reduceToNat] at ho13; rw [← Ny147.out] at ho13)); have n0_ := Aside0.mk (Kd.R_below (by (with_reducible repeat (first | apply Kd.R_alloc | apply Kd.R_drewN | apply Kd.R_drew)); exact HO139.out) hb); have n1_ := Aside0.mk (Kd.N_elder' (by (with_reducible repeat (first | apply Kd.N_alloc | apply Kd.N_drewN | apply Kd.N_drew)); exact HO142.out) (Kd.R_base ho13) hb); have n2_ := Aside0.mk (Kd.R_elder' (by (with_reducible repeat (first | apply Kd.R_alloc | apply Kd.R_drewN | apply Kd.R_drew)); exact HO145.out) (Kd.R_base ho13) hb); have n3_ := Aside0.mk (Kd.R_lower (Kd.R_new' ho13 (Kd.R_lt (by (with_reducible repeat (first | apply Kd.R_alloc | apply Kd.R_drewN | apply Kd.R_drew)); exact HO145.out))) (below_size (by repeat (first | (with_reducible first | exact HB.out | apply below_alloc | apply pw_below_drewN | apply below_drew1) | exact HB.out)))); have n4_ := Aside0.mk (below_step (by repeat (first | (with_reducible first | exact HB.out | apply below_alloc | apply pw_below_drewN | apply below_drew1) | exact HB.out)) hb); clear HO139; clear HO142; clear HO145; clear HB; have HO139 := n0_; have HO142 := n1_; have HO145 := n2_; have HO149 := n3_; have HB := n4_; clear n0_ n1_ n2_ n3_ n4_; clear hb ho13; obtain ⟨Ao14, co14, eo14⟩ := Kd.R_slice HO145.out; subst eo14; obtain ⟨Ao15, co15, eo15⟩ := Kd.R_slice HO149.out; subst eo15) | (go_at_call 14; (with_reducible refine (selfstabref15_Same.calls k _ _ t143 _ _ y147 true _ ?side1 ?side2 ?side3 ?side4 A4.out).mono ?_); (case side1 => repeat (first | exact (Kd.R_reads' HO145.out).2.2 | (with_reducible refine Kd.C_alloc ?_ _) | (with_reducible refine Kd.C_drewN ?_ _) | (with_reducible refine Kd.C_drew ?_))); (case side2 => exact (Kd.R_reads' HO145.out).2.1); (case side3 => repeat (first | exact (Kd.R_reads' HO149.out).2.2 | (with_reducible refine Kd.C_alloc ?_ _) | (with_reducible refine Kd.C_drewN ?_ _) | (with_reducible refine Kd.C_drew ?_))); (case side4 => exact (Kd.R_reads' HO149.out).2.1); rintro e w' ⟨rfl, ⟨nd, rfl⟩⟩) | (go_at_call 29; (with_reducible refine (selfstablaw15_path.calls  t151 t154 _ A6.out).mono ?_); rintro e w16 ⟨v152, v155, rfl, ho0, ho1, hb⟩; have n0_ := Aside0.mk (Kd.R_elder' (by (with_reducible repeat (first | apply Kd.R_alloc | apply Kd.R_drewN | apply Kd.R_drew)); exact HO139.out) (Kd.R_base ho0) hb); have n1_ := Aside0.mk (Kd.N_mono (Kd.N_told (Kd.N_told (Kd.N_old (by (with_reducible repeat (first | apply Kd.N_alloc | apply Kd.N_drewN | apply Kd.N_drew)); exact HO142.out) hb) (Kd.R_base ho0)) (by first | exact Kd.N_base ho1 | exact Kd.S_base ho1 | exact Kd.R_base ho1)) (fun _ h_ => h_.1)); have n2_ := Aside0.mk (Kd.R_below (by (with_reducible repeat (first | apply Kd.R_alloc | apply Kd.R_drewN | apply Kd.R_drew)); exact HO145.out) hb); have n3_ := Aside0.mk (Kd.R_below (by (with_reducible repeat (first | apply Kd.R_alloc | apply Kd.R_drewN | apply Kd.R_drew)); exact HO149.out) hb); have n4_ := Aside0.mk (Kd.R_lower (Kd.R_new' (Kd.R_mono (ok' := fun k_ => True) ho0 (fun _ hk_ => trivial)) (Kd.R_lt (by (with_reducible repeat (first | apply Kd.R_alloc | apply Kd.R_drewN | apply Kd.R_drew)); exact HO139.out))) (below_size (by repeat (first | (with_reducible first | exact HB.out | apply below_alloc | apply pw_below_drewN | apply below_drew1) | exact HB.out)))); have n5_ := Aside0.mk (Kd.N_lower (Kd.N_mono (ok' := fun k_ => some k_ ≠ (v152 : Value).ownBlock ∧ some k_ ≠ (.slice Ao9 t137.length co9 : Value).ownBlock ∧ some k_ ≠ (.slice Ao10 t140.length co10 : Value).ownBlock ∧ some k_ ≠ (.slice Ao14 t143.length co14 : Value).ownBlock ∧ some k_ ≠ (.slice Ao15 y147.length co15 : Value).ownBlock) ho1 (fun k_ hk_ => ⟨hk_.2, (Kd.fresh' (Kd.R_lt (by (with_reducible repeat (first | apply Kd.R_alloc | apply Kd.R_drewN | apply Kd.R_drew)); exact HO139.out)) k_ hk_.1), (Kd.fresh' (Kd.N_lt (by (with_reducible repeat (first | apply Kd.N_alloc | apply Kd.N_drewN | apply Kd.N_drew)); exact HO142.out)) k_ hk_.1), (Kd.fresh' (Kd.R_lt (by (with_reducible repeat (first | apply Kd.R_alloc | apply Kd.R_drewN | apply Kd.R_drew)); exact HO145.out)) k_ hk_.1), (Kd.fresh' (Kd.R_lt (by (with_reducible repeat (first | apply Kd.R_alloc | apply Kd.R_drewN | apply Kd.R_drew)); exact HO149.out)) k_ hk_.1)⟩)) (below_size (by repeat (first | (with_reducible first | exact HB.out | apply below_alloc | apply pw_below_drewN | apply below_drew1) | exact HB.out)))); have n6_ := Aside0.mk (below_step (by repeat (first | (with_reducible first | exact HB.out | apply below_alloc | apply pw_below_drewN | apply below_drew1) | exact HB.out)) hb); clear HO139; clear HO142; clear HO145; clear HO149; clear HB; have HO139 := n0_; have HO142 := n1_; have HO145 := n2_; have HO149 := n3_; have HO153 := n4_; have HO156 := n5_; have HB := n6_; clear n0_ n1_ n2_ n3_ n4_ n5_ n6_; (try clear hb); (try clear hb2); (try clear hk); (try clear hi); (try clear ho0); (try clear ho1); obtain ⟨Ao17, co17, eo17⟩ := Kd.R_slice HO153.out; subst eo17; obtain ⟨Ao18, co18, eo18⟩ := Kd.N_slice HO156.out; subst eo18) | (go_at_call 15; (with_reducible refine (daemon_Resolve.calls k _ _ t151 _ _ t154 2 7 7 t157 _ ?side1 ?side2 ?side3 ?side4 A7.out).mono ?_); (case side1 => repeat (first | exact (Kd.R_reads' HO153.out).2.2 | (with_reducible refine Kd.C_alloc ?_ _) | (with_reducible refine Kd.C_drewN ?_ _) | (with_reducible refine Kd.C_drew ?_))); (case side2 => exact (Kd.R_reads' HO153.out).2.1); (case side3 => repeat (first | exact (Kd.N_reads' HO156.out).2.2 | (with_reducible refine Kd.C_alloc ?_ _) | (with_reducible refine Kd.C_drewN ?_ _) | (with_reducible refine Kd.C_drew ?_))); (case side4 => exact (Kd.N_reads' HO156.out).2.1); rintro e w19 ⟨rfl, hb⟩; have n0_ := Aside0.mk (Kd.R_below (by (with_reducible repeat (first | apply Kd.R_alloc | apply Kd.R_drewN | apply Kd.R_drew)); exact HO139.out) hb); have n1_ := Aside0.mk (Kd.N_below (by (with_reducible repeat (first | apply Kd.N_alloc | apply Kd.N_drewN | apply Kd.N_drew)); exact HO142.out) hb); have n2_ := Aside0.mk (Kd.R_below (by (with_reducible repeat (first | apply Kd.R_alloc | apply Kd.R_drewN | apply Kd.R_drew)); exact HO145.out) hb); have n3_ := Aside0.mk (Kd.R_below (by (with_reducible repeat (first | apply Kd.R_alloc | apply Kd.R_drewN | apply Kd.R_drew)); exact HO149.out) hb); have n4_ := Aside0.mk (Kd.R_below (by (with_reducible repeat (first | apply Kd.R_alloc | apply Kd.R_drewN | apply Kd.R_drew)); exact HO153.out) hb); have n5_ := Aside0.mk (Kd.N_below (by (with_reducible repeat (first | apply Kd.N_alloc | apply Kd.N_drewN | apply Kd.N_drew)); exact HO156.out) hb); have n6_ := Aside0.mk (below_step (by repeat (first | (with_reducible first | exact HB.out | apply below_alloc | apply pw_below_drewN | apply below_drew1) | exact HB.out)) hb); clear HO139; clear HO142; clear HO145; clear HO149; clear HO153; clear HO156; clear HB; have HO139 := n0_; have HO142 := n1_; have HO145 := n2_; have HO149 := n3_; have HO153 := n4_; have HO156 := n5_; have HB := n6_; clear n0_ n1_ n2_ n3_ n4_ n5_ n6_; (try clear hb); (try clear hb2); (try clear hk); (try clear hi)))
      go_ret
      exact ⟨by first | rfl | (simp [errW_none, errW_some] <;> rfl) | (simp [*, errW_none, errW_some] <;> rfl), by repeat (first | (with_reducible first | exact HB.out | apply below_alloc | apply pw_below_drewN | apply below_drew1) | exact HB.out)⟩
    · replace c5 := Bool.eq_false_iff.mpr c5
      subst c5
      have H1 : (none) = some r := by rw [if_neg (show ¬ (false = true) by decide)] at H; exact H
      clear H
      have H := H1
      clear H1
      exact absurd H (by simp)
  · rw [if_neg c3] at H
    exact absurd H (by simp)

/-! ### selfstabref01_In: function 46 -/
def selfstabref01_In.f (a0 : Int) (a1 : Int) (a2 : Int) : Option (Bool) := if a0 ≥ a1 then (some (decide (a0 ≤ a2))) else (some false)
set_option maxHeartbeats 8000000 in
set_option maxRecDepth 100000 in
theorem selfstabref01_In.calls (a0 : Int) (a1 : Int) (a2 : Int) (r : Bool) (w : World) (h : selfstabref01_In.f a0 a1 a2 = some r) :
    Calls Try.prog 46 #[.int .i64 a0, .int .i64 a1, .int .i64 a2] w fun e w' => e = .returned (.bool r) ∧ Drawn0 w w' := by
  have H : (if a0 ≥ a1 then (some (decide (a0 ≤ a2))) else (some false)) = some r := h
  clear h
  by_cases c4 : a0 ≥ a1
  · rw [if_pos c4] at H
    have c4b0 : decide (a1 ≤ a0) = true := decide_eq_true c4
    clear c4
    obtain rfl := Option.some.inj H
    go_enter Try.func46, Try.ntmps46
    go_wp2
    go_ret
    exact ⟨by first | rfl | (simp; done) | (simp [*]; done), by repeat (first | exact Drawn0.refl _ | apply Drawn0.step)⟩
  · rw [if_neg c4] at H
    have c4b0 : decide (a1 ≤ a0) = false := decide_eq_false c4
    clear c4
    obtain rfl := Option.some.inj H
    go_enter Try.func46, Try.ntmps46
    go_wp2
    go_ret
    exact ⟨by first | rfl | (simp; done) | (simp [*]; done), by repeat (first | exact Drawn0.refl _ | apply Drawn0.step)⟩

/-! ### selfstabref01_linksValid: function 47 -/
mutual
def selfstabref01_linksValid.l0 : Nat → List (S58) → Int → Int → Int → Option (Bool)
  | 0, _, _, _, _ => none
  | k + 1, x0, x1, x2, x7 => if x7 < (x0.length : Int) then (if 0 ≤ x7 then ((selfstabref01_In.f ((rd_T58 x0 x7).f0) 0 (wrap64 (x2 - 1))).bind fun t160 => (if t160 = true then (if ((rd_T58 x0 x7).f0) = x1 then (selfstabref01_linksValid.j1 k x0 x1 x2 x7 true) else ((selfstabref01_In.f ((rd_T58 x0 x7).f1) 1 15).bind fun t163 => (selfstabref01_linksValid.j1 k x0 x1 x2 x7 (!t163)))) else (selfstabref01_linksValid.j1 k x0 x1 x2 x7 true))) else (none)) else (some true)
def selfstabref01_linksValid.j1 : Nat → List (S58) → Int → Int → Int → Bool → Option (Bool)
  | 0, _, _, _, _, _ => none
  | k + 1, x0, x1, x2, x7, x41 => if x41 = true then (some false) else (selfstabref01_linksValid.l1 k x0 x1 x2 x7 0)
def selfstabref01_linksValid.l1 : Nat → List (S58) → Int → Int → Int → Int → Option (Bool)
  | 0, _, _, _, _, _ => none
  | k + 1, x0, x1, x2, x7, x8 => if x8 < x7 then (if 0 ≤ x8 then (if x8 < (x0.length : Int) then (if 0 ≤ x7 then (if x7 < (x0.length : Int) then (if ((rd_T58 x0 x8).f0) = ((rd_T58 x0 x7).f0) then (some false) else (selfstabref01_linksValid.l1 k x0 x1 x2 x7 (wrap64 (x8 + 1)))) else (none)) else (none)) else (none)) else (none)) else (selfstabref01_linksValid.l0 k x0 x1 x2 (wrap64 (x7 + 1)))
end
def selfstabref01_linksValid.f (k : Nat) (l0 : List (S58)) (a1 : Int) (a2 : Int) : Option (Bool) := selfstabref01_linksValid.l0 k l0 a1 a2 0
theorem selfstabref01_linksValid.mono_l : ∀ k, (∀ y0 y1 y2 y3, LeO (selfstabref01_linksValid.l0 k y0 y1 y2 y3) (selfstabref01_linksValid.l0 (k + 1) y0 y1 y2 y3)) ∧ (∀ y0 y1 y2 y3 y4, LeO (selfstabref01_linksValid.j1 k y0 y1 y2 y3 y4) (selfstabref01_linksValid.j1 (k + 1) y0 y1 y2 y3 y4)) ∧ (∀ y0 y1 y2 y3 y4, LeO (selfstabref01_linksValid.l1 k y0 y1 y2 y3 y4) (selfstabref01_linksValid.l1 (k + 1) y0 y1 y2 y3 y4))
  | 0 => ⟨fun _ _ _ _ r h => by simp [selfstabref01_linksValid.l0] at h, fun _ _ _ _ _ r h => by simp [selfstabref01_linksValid.j1] at h, fun _ _ _ _ _ r h => by simp [selfstabref01_linksValid.l1] at h⟩
  | k + 1 => by
    obtain ⟨ih0, ih1, ih2⟩ := selfstabref01_linksValid.mono_l k
    refine ⟨?_, ?_, ?_⟩
    · intro y0 y1 y2 y3
      unfold selfstabref01_linksValid.l0
      repeat' first
      | (with_reducible exact ih0 _ _ _ _)
      | (with_reducible exact ih1 _ _ _ _ _)
      | (with_reducible exact ih2 _ _ _ _ _)
      | (with_reducible exact LeO.refl _)
      | (with_reducible exact LeO.none _)
      | (with_reducible refine LeO.ite ?_ ?_)
      | (with_reducible refine LeO.bind ?_ (fun _ => ?_))
      | exact ih0 _ _ _ _
      | exact ih1 _ _ _ _ _
      | exact ih2 _ _ _ _ _
      | exact LeO.none _
      | refine LeO.ite ?_ ?_
      | refine LeO.bind ?_ (fun _ => ?_)
    · intro y0 y1 y2 y3 y4
      unfold selfstabref01_linksValid.j1
      repeat' first
      | (with_reducible exact ih0 _ _ _ _)
      | (with_reducible exact ih1 _ _ _ _ _)
      | (with_reducible exact ih2 _ _ _ _ _)
      | (with_reducible exact LeO.refl _)
      | (with_reducible exact LeO.none _)
      | (with_reducible refine LeO.ite ?_ ?_)
      | (with_reducible refine LeO.bind ?_ (fun _ => ?_))
      | exact ih0 _ _ _ _
      | exact ih1 _ _ _ _ _
      | exact ih2 _ _ _ _ _
      | exact LeO.none _
      | refine LeO.ite ?_ ?_
      | refine LeO.bind ?_ (fun _ => ?_)
    · intro y0 y1 y2 y3 y4
      unfold selfstabref01_linksValid.l1
      repeat' first
      | (with_reducible exact ih0 _ _ _ _)
      | (with_reducible exact ih1 _ _ _ _ _)
      | (with_reducible exact ih2 _ _ _ _ _)
      | (with_reducible exact LeO.refl _)
      | (with_reducible exact LeO.none _)
      | (with_reducible refine LeO.ite ?_ ?_)
      | (with_reducible refine LeO.bind ?_ (fun _ => ?_))
      | exact ih0 _ _ _ _
      | exact ih1 _ _ _ _ _
      | exact ih2 _ _ _ _ _
      | exact LeO.none _
      | refine LeO.ite ?_ ?_
      | refine LeO.bind ?_ (fun _ => ?_)
theorem selfstabref01_linksValid.mono : ∀ a0 a1 a2 k, LeO (selfstabref01_linksValid.f k a0 a1 a2) (selfstabref01_linksValid.f (k + 1) a0 a1 a2) := by
  intro a0 a1 a2 k
  obtain ⟨ih0, ih1, ih2⟩ := selfstabref01_linksValid.mono_l k
  unfold selfstabref01_linksValid.f
  repeat' first
      | (with_reducible exact ih0 _ _ _ _)
      | (with_reducible exact ih1 _ _ _ _ _)
      | (with_reducible exact ih2 _ _ _ _ _)
      | (with_reducible exact LeO.refl _)
      | (with_reducible exact LeO.none _)
      | (with_reducible refine LeO.ite ?_ ?_)
      | (with_reducible refine LeO.bind ?_ (fun _ => ?_))
      | exact ih0 _ _ _ _
      | exact ih1 _ _ _ _ _
      | exact ih2 _ _ _ _ _
      | exact LeO.none _
      | refine LeO.ite ?_ ?_
      | refine LeO.bind ?_ (fun _ => ?_)
set_option maxHeartbeats 8000000 in
set_option maxRecDepth 100000 in
theorem selfstabref01_linksValid.calls (k : Nat) (A0 : Option Addr) (c0 : Nat) (l0 : List (S58)) (a1 : Int) (a2 : Int) (r : Bool) (w : World) (hr0 : Kd.C k58 w A0 l0.length l0) (hc0 : l0.length ≤ c0) (h : selfstabref01_linksValid.f k l0 a1 a2 = some r) :
    Calls Try.prog 47 #[.slice A0 l0.length c0, .int .i64 a1, .int .i64 a2] w fun e w' => e = .returned (.bool r) ∧ Drawn0 w w' := by
  have HR0 := Aside0.mk hr0
  have HC0 := Aside0.mk hc0
  clear hr0 hc0
  have H : (selfstabref01_linksValid.l0 k l0 a1 a2 0) = some r := h
  clear h
  have H' := Aside0.mk H
  clear H
  go_enter Try.func47, Try.ntmps47
  go_wp2
  repeat (go_quiet (fail); try go_wp2)
  go_loopg [7] k (fun kq v7 w' => ∃ (x7_1 : Int), v7 = .int .i64 x7_1 ∧ Aside0 (selfstabref01_linksValid.l0 kq l0 a1 a2 x7_1 = some r) ∧ Aside0 (kq ≤ k) ∧ Drawn0 w w')
  case atStart => exact ⟨(0), (by first | rfl | (simp; done) | (simp [*]; done)), H', ⟨Nat.le_refl _⟩, by repeat (first | exact Drawn0.refl _ | apply Drawn0.step)⟩
  case round =>
    clear H'
    try clear p2
    obtain ⟨x7_1, rfl, HA, HK1, ⟨m1, rfl⟩⟩ := hrel
    cases gk with
    | zero => exact absurd HA.out (by simp [selfstabref01_linksValid.l0])
    | succ k1 =>
      have H := HA.out
      clear HA
      simp only [selfstabref01_linksValid.l0] at H
      by_cases c4 : x7_1 < (l0.length : Int)
      · rw [if_pos c4] at H
        have c4b0 : decide (x7_1 < (l0.length : Int)) = true := decide_eq_true c4
        clear c4
        have HC5 := Aside0.mk H
        clear H
        go_upto_region 4 with (fail)
        repeat (go_quiet (fail); go_upto_region 4 with (fail))
        go_cut [41] (fun v41 wc => ∃ (kq : Nat) (x41_4 : Bool), v41 = .bool x41_4 ∧ Aside0 (selfstabref01_linksValid.j1 kq l0 a1 a2 x7_1 x41_4 = some r) ∧ Aside0 (kq ≤ k1) ∧ Drawn0 w wc)
        case first =>
          have H := HC5.out
          clear HC5
          by_cases c6 : 0 ≤ x7_1
          · rw [if_pos c6] at H
            have c6b0 : decide (0 ≤ x7_1) = true := decide_eq_true c6
            clear c6
            (first | rw [c6b0] | (simp only [i64_w, i32_w]; rw [c6b0]) | skip)
            replace H := Option.bind_eq_some_iff.mp H
            obtain ⟨t160, A70, H⟩ := H
            replace H : (if t160 = true then (if ((rd_T58 l0 x7_1).f0) = a1 then (selfstabref01_linksValid.j1 k1 l0 a1 a2 x7_1 true) else ((selfstabref01_In.f ((rd_T58 l0 x7_1).f1) 1 15).bind fun t163 => (selfstabref01_linksValid.j1 k1 l0 a1 a2 x7_1 (!t163)))) else (selfstabref01_linksValid.j1 k1 l0 a1 a2 x7_1 true)) = some r := H
            have A7 := Aside0.mk A70
            clear A70
            by_cases c8 : t160 = true
            · subst c8
              have H1 : (if ((rd_T58 l0 x7_1).f0) = a1 then (selfstabref01_linksValid.j1 k1 l0 a1 a2 x7_1 true) else ((selfstabref01_In.f ((rd_T58 l0 x7_1).f1) 1 15).bind fun t163 => (selfstabref01_linksValid.j1 k1 l0 a1 a2 x7_1 (!t163)))) = some r := by rw [if_pos rfl] at H; exact H
              clear H
              have H := H1
              clear H1
              by_cases c9 : ((rd_T58 l0 x7_1).f0) = a1
              · rw [if_pos c9] at H
                have c9b0 : (((rd_T58 l0 x7_1).f0) == a1) = true := beq_iff_eq.mpr c9
                have c9b1 : (((rd_T58 l0 x7_1).f0) != a1) = false := bne_eq_false_iff_eq.mpr c9
                clear c9
                have H' := Aside0.mk H
                clear H
                have p159 : 0 ≤ (x7_1 : Int) := of_decide_eq_true (by first | (with_reducible assumption) | assumption)
                have q159 : x7_1 < (l0.length : Int) := of_decide_eq_true (by first | (with_reducible assumption) | assumption)
                obtain ⟨ad159, e159, hx159_0, hx159_1⟩ := at_T58 HR0.out x7_1 p159 q159
                cases e159
                replace p159 := eq_true p159
                replace q159 := eq_true q159
                go_wp2_with (first | (go_at_call 46; (with_reducible refine (selfstabref01_In.calls ((rd_T58 l0 x7_1).f0) 0 (wrap64 (a2 - 1)) true _ A7.out).mono ?_); rintro e w' ⟨rfl, ⟨nd, rfl⟩⟩; (try first | exact ⟨rfl, _, World.drewN_drewN _ _ _⟩ | exact ⟨rfl, _, Eq.trans (World.drewN_drewN _ _ _) (congrArg (World.drewN _) (Nat.add_assoc _ _ _))⟩); have p161 : 0 ≤ (x7_1 : Int) := of_decide_eq_true (by first | (with_reducible assumption) | assumption); have q161 : x7_1 < (l0.length : Int) := of_decide_eq_true (by first | (with_reducible assumption) | assumption); obtain ⟨ad161, e161, hx161_0, hx161_1⟩ := at_T58 HR0.out x7_1 p161 q161; obtain rfl : ad159 = ad161 := (by injection e161); replace p161 := eq_true p161; replace q161 := eq_true q161))
                repeat (go_quiet (first | (go_at_call 46; (with_reducible refine (selfstabref01_In.calls ((rd_T58 l0 x7_1).f0) 0 (wrap64 (a2 - 1)) true _ A7.out).mono ?_); rintro e w' ⟨rfl, ⟨nd, rfl⟩⟩; (try first | exact ⟨rfl, _, World.drewN_drewN _ _ _⟩ | exact ⟨rfl, _, Eq.trans (World.drewN_drewN _ _ _) (congrArg (World.drewN _) (Nat.add_assoc _ _ _))⟩); have p161 : 0 ≤ (x7_1 : Int) := of_decide_eq_true (by first | (with_reducible assumption) | assumption); have q161 : x7_1 < (l0.length : Int) := of_decide_eq_true (by first | (with_reducible assumption) | assumption); obtain ⟨ad161, e161, hx161_0, hx161_1⟩ := at_T58 HR0.out x7_1 p161 q161; obtain rfl : ad159 = ad161 := (by injection e161); replace p161 := eq_true p161; replace q161 := eq_true q161)); try go_wp2_with (first | (go_at_call 46; (with_reducible refine (selfstabref01_In.calls ((rd_T58 l0 x7_1).f0) 0 (wrap64 (a2 - 1)) true _ A7.out).mono ?_); rintro e w' ⟨rfl, ⟨nd, rfl⟩⟩; (try first | exact ⟨rfl, _, World.drewN_drewN _ _ _⟩ | exact ⟨rfl, _, Eq.trans (World.drewN_drewN _ _ _) (congrArg (World.drewN _) (Nat.add_assoc _ _ _))⟩); have p161 : 0 ≤ (x7_1 : Int) := of_decide_eq_true (by first | (with_reducible assumption) | assumption); have q161 : x7_1 < (l0.length : Int) := of_decide_eq_true (by first | (with_reducible assumption) | assumption); obtain ⟨ad161, e161, hx161_0, hx161_1⟩ := at_T58 HR0.out x7_1 p161 q161; obtain rfl : ad159 = ad161 := (by injection e161); replace p161 := eq_true p161; replace q161 := eq_true q161)))
                go_meet
                case rel => exact ⟨_, (true), (by first | rfl | (simp; done) | (simp [*]; done)), H', ⟨by have := HK1.out; first | omega | exact Nat.le_refl _⟩, by repeat (first | exact Drawn0.refl _ | apply Drawn0.step)⟩
              · rw [if_neg c9] at H
                have c9b0 : (((rd_T58 l0 x7_1).f0) == a1) = false := beq_eq_false_iff_ne.mpr c9
                have c9b1 : (((rd_T58 l0 x7_1).f0) != a1) = true := bne_iff_ne.mpr c9
                replace H := Option.bind_eq_some_iff.mp H
                obtain ⟨t163, A100, H⟩ := H
                replace H : (selfstabref01_linksValid.j1 k1 l0 a1 a2 x7_1 (!t163)) = some r := H
                have A10 := Aside0.mk A100
                clear A100
                have H' := Aside0.mk H
                clear H
                have p159 : 0 ≤ (x7_1 : Int) := of_decide_eq_true (by first | (with_reducible assumption) | assumption)
                have q159 : x7_1 < (l0.length : Int) := of_decide_eq_true (by first | (with_reducible assumption) | assumption)
                obtain ⟨ad159, e159, hx159_0, hx159_1⟩ := at_T58 HR0.out x7_1 p159 q159
                cases e159
                replace p159 := eq_true p159
                replace q159 := eq_true q159
                go_wp2_with (first | (go_at_call 46; (with_reducible refine (selfstabref01_In.calls ((rd_T58 l0 x7_1).f0) 0 (wrap64 (a2 - 1)) true _ A7.out).mono ?_); rintro e w' ⟨rfl, ⟨nd, rfl⟩⟩; (try first | exact ⟨rfl, _, World.drewN_drewN _ _ _⟩ | exact ⟨rfl, _, Eq.trans (World.drewN_drewN _ _ _) (congrArg (World.drewN _) (Nat.add_assoc _ _ _))⟩); have p161 : 0 ≤ (x7_1 : Int) := of_decide_eq_true (by first | (with_reducible assumption) | assumption); have q161 : x7_1 < (l0.length : Int) := of_decide_eq_true (by first | (with_reducible assumption) | assumption); obtain ⟨ad161, e161, hx161_0, hx161_1⟩ := at_T58 HR0.out x7_1 p161 q161; obtain rfl : ad159 = ad161 := (by injection e161); replace p161 := eq_true p161; replace q161 := eq_true q161; have p162 : 0 ≤ (x7_1 : Int) := of_decide_eq_true (by first | (with_reducible assumption) | assumption); have q162 : x7_1 < (l0.length : Int) := of_decide_eq_true (by first | (with_reducible assumption) | assumption); obtain ⟨ad162, e162, hx162_0, hx162_1⟩ := at_T58 HR0.out x7_1 p162 q162; obtain rfl : ad159 = ad162 := (by injection e162); replace p162 := eq_true p162; replace q162 := eq_true q162) | (go_at_call 46; (with_reducible refine (selfstabref01_In.calls ((rd_T58 l0 x7_1).f1) 1 15 t163 _ A10.out).mono ?_); rintro e w' ⟨rfl, ⟨nd, rfl⟩⟩; (try first | exact ⟨rfl, _, World.drewN_drewN _ _ _⟩ | exact ⟨rfl, _, Eq.trans (World.drewN_drewN _ _ _) (congrArg (World.drewN _) (Nat.add_assoc _ _ _))⟩)))
                repeat (go_quiet (first | (go_at_call 46; (with_reducible refine (selfstabref01_In.calls ((rd_T58 l0 x7_1).f0) 0 (wrap64 (a2 - 1)) true _ A7.out).mono ?_); rintro e w' ⟨rfl, ⟨nd, rfl⟩⟩; (try first | exact ⟨rfl, _, World.drewN_drewN _ _ _⟩ | exact ⟨rfl, _, Eq.trans (World.drewN_drewN _ _ _) (congrArg (World.drewN _) (Nat.add_assoc _ _ _))⟩); have p161 : 0 ≤ (x7_1 : Int) := of_decide_eq_true (by first | (with_reducible assumption) | assumption); have q161 : x7_1 < (l0.length : Int) := of_decide_eq_true (by first | (with_reducible assumption) | assumption); obtain ⟨ad161, e161, hx161_0, hx161_1⟩ := at_T58 HR0.out x7_1 p161 q161; obtain rfl : ad159 = ad161 := (by injection e161); replace p161 := eq_true p161; replace q161 := eq_true q161; have p162 : 0 ≤ (x7_1 : Int) := of_decide_eq_true (by first | (with_reducible assumption) | assumption); have q162 : x7_1 < (l0.length : Int) := of_decide_eq_true (by first | (with_reducible assumption) | assumption); obtain ⟨ad162, e162, hx162_0, hx162_1⟩ := at_T58 HR0.out x7_1 p162 q162; obtain rfl : ad159 = ad162 := (by injection e162); replace p162 := eq_true p162; replace q162 := eq_true q162) | (go_at_call 46; (with_reducible refine (selfstabref01_In.calls ((rd_T58 l0 x7_1).f1) 1 15 t163 _ A10.out).mono ?_); rintro e w' ⟨rfl, ⟨nd, rfl⟩⟩; (try first | exact ⟨rfl, _, World.drewN_drewN _ _ _⟩ | exact ⟨rfl, _, Eq.trans (World.drewN_drewN _ _ _) (congrArg (World.drewN _) (Nat.add_assoc _ _ _))⟩))); try go_wp2_with (first | (go_at_call 46; (with_reducible refine (selfstabref01_In.calls ((rd_T58 l0 x7_1).f0) 0 (wrap64 (a2 - 1)) true _ A7.out).mono ?_); rintro e w' ⟨rfl, ⟨nd, rfl⟩⟩; (try first | exact ⟨rfl, _, World.drewN_drewN _ _ _⟩ | exact ⟨rfl, _, Eq.trans (World.drewN_drewN _ _ _) (congrArg (World.drewN _) (Nat.add_assoc _ _ _))⟩); have p161 : 0 ≤ (x7_1 : Int) := of_decide_eq_true (by first | (with_reducible assumption) | assumption); have q161 : x7_1 < (l0.length : Int) := of_decide_eq_true (by first | (with_reducible assumption) | assumption); obtain ⟨ad161, e161, hx161_0, hx161_1⟩ := at_T58 HR0.out x7_1 p161 q161; obtain rfl : ad159 = ad161 := (by injection e161); replace p161 := eq_true p161; replace q161 := eq_true q161; have p162 : 0 ≤ (x7_1 : Int) := of_decide_eq_true (by first | (with_reducible assumption) | assumption); have q162 : x7_1 < (l0.length : Int) := of_decide_eq_true (by first | (with_reducible assumption) | assumption); obtain ⟨ad162, e162, hx162_0, hx162_1⟩ := at_T58 HR0.out x7_1 p162 q162; obtain rfl : ad159 = ad162 := (by injection e162); replace p162 := eq_true p162; replace q162 := eq_true q162) | (go_at_call 46; (with_reducible refine (selfstabref01_In.calls ((rd_T58 l0 x7_1).f1) 1 15 t163 _ A10.out).mono ?_); rintro e w' ⟨rfl, ⟨nd, rfl⟩⟩; (try first | exact ⟨rfl, _, World.drewN_drewN _ _ _⟩ | exact ⟨rfl, _, Eq.trans (World.drewN_drewN _ _ _) (congrArg (World.drewN _) (Nat.add_assoc _ _ _))⟩))))
                go_meet
                case rel => exact ⟨_, (!t163), (by first | rfl | (simp; done) | (simp [*]; done)), H', ⟨by have := HK1.out; first | omega | exact Nat.le_refl _⟩, by repeat (first | exact Drawn0.refl _ | apply Drawn0.step)⟩
            · replace c8 := Bool.eq_false_iff.mpr c8
              subst c8
              have H1 : (selfstabref01_linksValid.j1 k1 l0 a1 a2 x7_1 true) = some r := by rw [if_neg (show ¬ (false = true) by decide)] at H; exact H
              clear H
              have H := H1
              clear H1
              have H' := Aside0.mk H
              clear H
              have p159 : 0 ≤ (x7_1 : Int) := of_decide_eq_true (by first | (with_reducible assumption) | assumption)
              have q159 : x7_1 < (l0.length : Int) := of_decide_eq_true (by first | (with_reducible assumption) | assumption)
              obtain ⟨ad159, e159, hx159_0, hx159_1⟩ := at_T58 HR0.out x7_1 p159 q159
              cases e159
              replace p159 := eq_true p159
              replace q159 := eq_true q159
              go_wp2_with (first | (go_at_call 46; (with_reducible refine (selfstabref01_In.calls ((rd_T58 l0 x7_1).f0) 0 (wrap64 (a2 - 1)) false _ A7.out).mono ?_); rintro e w' ⟨rfl, ⟨nd, rfl⟩⟩; (try first | exact ⟨rfl, _, World.drewN_drewN _ _ _⟩ | exact ⟨rfl, _, Eq.trans (World.drewN_drewN _ _ _) (congrArg (World.drewN _) (Nat.add_assoc _ _ _))⟩)))
              repeat (go_quiet (first | (go_at_call 46; (with_reducible refine (selfstabref01_In.calls ((rd_T58 l0 x7_1).f0) 0 (wrap64 (a2 - 1)) false _ A7.out).mono ?_); rintro e w' ⟨rfl, ⟨nd, rfl⟩⟩; (try first | exact ⟨rfl, _, World.drewN_drewN _ _ _⟩ | exact ⟨rfl, _, Eq.trans (World.drewN_drewN _ _ _) (congrArg (World.drewN _) (Nat.add_assoc _ _ _))⟩))); try go_wp2_with (first | (go_at_call 46; (with_reducible refine (selfstabref01_In.calls ((rd_T58 l0 x7_1).f0) 0 (wrap64 (a2 - 1)) false _ A7.out).mono ?_); rintro e w' ⟨rfl, ⟨nd, rfl⟩⟩; (try first | exact ⟨rfl, _, World.drewN_drewN _ _ _⟩ | exact ⟨rfl, _, Eq.trans (World.drewN_drewN _ _ _) (congrArg (World.drewN _) (Nat.add_assoc _ _ _))⟩))))
              go_meet
              case rel => exact ⟨_, (true), (by first | rfl | (simp; done) | (simp [*]; done)), H', ⟨by have := HK1.out; first | omega | exact Nat.le_refl _⟩, by repeat (first | exact Drawn0.refl _ | apply Drawn0.step)⟩
          · rw [if_neg c6] at H
            exact absurd H (by simp)
        case rest =>
          clear HC5
          try clear p1
          try clear q1
          try clear hx1
          try clear p2
          try clear c4
          try clear c4b0
          try clear c6
          try clear c6b0
          try clear p6
          try clear c8
          try clear c9
          try clear c9b0
          try clear c9b1
          try clear hx159_0
          try clear hx159_1
          try clear hx161_0
          try clear hx161_1
          try clear hx162_0
          try clear hx162_1
          try clear p159
          try clear p161
          try clear p162
          try clear p2
          try clear q159
          try clear q161
          try clear q162
          obtain ⟨kq, x41_4, rfl, HA, HJ4, ⟨mc4, rfl⟩⟩ := hcut
          cases kq with
          | zero => exact absurd HA.out (by simp [selfstabref01_linksValid.j1])
          | succ kj4 =>
            have H := HA.out
            clear HA
            simp only [selfstabref01_linksValid.j1] at H
            by_cases c11 : x41_4 = true
            · subst c11
              have H1 : (some false) = some r := by rw [if_pos rfl] at H; exact H
              clear H
              have H := H1
              clear H1
              obtain rfl := Option.some.inj H
              go_wp2
              repeat (go_quiet (fail); try go_wp2)
              go_ret
              exact ⟨by first | rfl | (simp; done) | (simp [*]; done), by repeat (first | exact Drawn0.refl _ | apply Drawn0.step)⟩
            · replace c11 := Bool.eq_false_iff.mpr c11
              subst c11
              have H1 : (selfstabref01_linksValid.l1 kj4 l0 a1 a2 x7_1 0) = some r := by rw [if_neg (show ¬ (false = true) by decide)] at H; exact H
              clear H
              have H := H1
              clear H1
              have H' := Aside0.mk H
              clear H
              go_wp2
              repeat (go_quiet (fail); try go_wp2)
              go_loopg [8] kj4 (fun kq v8 w' => ∃ (x8_3 : Int), v8 = .int .i64 x8_3 ∧ Aside0 (selfstabref01_linksValid.l1 kq l0 a1 a2 x7_1 x8_3 = some r) ∧ Aside0 (kq ≤ kj4) ∧ Drawn0 w w')
              case atStart => exact ⟨(0), (by first | rfl | (simp; done) | (simp [*]; done)), H', ⟨Nat.le_refl _⟩, by repeat (first | exact Drawn0.refl _ | apply Drawn0.step)⟩
              case round =>
                clear H'
                try clear c1
                try clear p1
                try clear q1
                try clear hx1
                try clear p2
                try clear c4
                try clear c4b0
                try clear c6
                try clear c6b0
                try clear p6
                try clear c8
                try clear c9
                try clear c9b0
                try clear c9b1
                try clear c11
                try clear hx159_0
                try clear hx159_1
                try clear hx161_0
                try clear hx161_1
                try clear hx162_0
                try clear hx162_1
                try clear p1
                try clear p159
                try clear p161
                try clear p162
                try clear p2
                try clear p6
                try clear q1
                try clear q159
                try clear q161
                try clear q162
                obtain ⟨x8_3, rfl, HA, HK3, ⟨m3, rfl⟩⟩ := hrel
                cases gk with
                | zero => exact absurd HA.out (by simp [selfstabref01_linksValid.l1])
                | succ k3 =>
                  have H := HA.out
                  clear HA
                  simp only [selfstabref01_linksValid.l1] at H
                  by_cases c12 : x8_3 < x7_1
                  · rw [if_pos c12] at H
                    have c12b0 : decide (x8_3 < x7_1) = true := decide_eq_true c12
                    clear c12
                    by_cases c13 : 0 ≤ x8_3
                    · rw [if_pos c13] at H
                      have c13b0 : decide (0 ≤ x8_3) = true := decide_eq_true c13
                      clear c13
                      by_cases c14 : x8_3 < (l0.length : Int)
                      · rw [if_pos c14] at H
                        have c14b0 : decide (x8_3 < (l0.length : Int)) = true := decide_eq_true c14
                        clear c14
                        by_cases c15 : 0 ≤ x7_1
                        · rw [if_pos c15] at H
                          have c15b0 : decide (0 ≤ x7_1) = true := decide_eq_true c15
                          clear c15
                          by_cases c16 : x7_1 < (l0.length : Int)
                          · rw [if_pos c16] at H
                            have c16b0 : decide (x7_1 < (l0.length : Int)) = true := decide_eq_true c16
                            clear c16
                            by_cases c17 : ((rd_T58 l0 x8_3).f0) = ((rd_T58 l0 x7_1).f0)
                            · rw [if_pos c17] at H
                              have c17b0 : (((rd_T58 l0 x8_3).f0) == ((rd_T58 l0 x7_1).f0)) = true := beq_iff_eq.mpr c17
                              have c17b1 : (((rd_T58 l0 x8_3).f0) != ((rd_T58 l0 x7_1).f0)) = false := bne_eq_false_iff_eq.mpr c17
                              clear c17
                              obtain rfl := Option.some.inj H
                              have p164 : 0 ≤ (x8_3 : Int) := of_decide_eq_true (by first | (with_reducible assumption) | assumption)
                              have q164 : x8_3 < (l0.length : Int) := of_decide_eq_true (by first | (with_reducible assumption) | assumption)
                              obtain ⟨ad164, e164, hx164_0, hx164_1⟩ := at_T58 HR0.out x8_3 p164 q164
                              cases e164
                              replace p164 := eq_true p164
                              replace q164 := eq_true q164
                              have p165 : 0 ≤ (x7_1 : Int) := of_decide_eq_true (by first | (with_reducible assumption) | assumption)
                              have q165 : x7_1 < (l0.length : Int) := of_decide_eq_true (by first | (with_reducible assumption) | assumption)
                              obtain ⟨ad165, e165, hx165_0, hx165_1⟩ := at_T58 HR0.out x7_1 p165 q165
                              obtain rfl : ad164 = ad165 := (by injection e165)
                              replace p165 := eq_true p165
                              replace q165 := eq_true q165
                              go_wp2
                              repeat (go_quiet (fail); try go_wp2)
                              go_ret
                              exact ⟨by first | rfl | (simp; done) | (simp [*]; done), by repeat (first | exact Drawn0.refl _ | apply Drawn0.step)⟩
                            · rw [if_neg c17] at H
                              have c17b0 : (((rd_T58 l0 x8_3).f0) == ((rd_T58 l0 x7_1).f0)) = false := beq_eq_false_iff_ne.mpr c17
                              have c17b1 : (((rd_T58 l0 x8_3).f0) != ((rd_T58 l0 x7_1).f0)) = true := bne_iff_ne.mpr c17
                              have H' := Aside0.mk H
                              clear H
                              have p164 : 0 ≤ (x8_3 : Int) := of_decide_eq_true (by first | (with_reducible assumption) | assumption)
                              have q164 : x8_3 < (l0.length : Int) := of_decide_eq_true (by first | (with_reducible assumption) | assumption)
                              obtain ⟨ad164, e164, hx164_0, hx164_1⟩ := at_T58 HR0.out x8_3 p164 q164
                              cases e164
                              replace p164 := eq_true p164
                              replace q164 := eq_true q164
                              have p165 : 0 ≤ (x7_1 : Int) := of_decide_eq_true (by first | (with_reducible assumption) | assumption)
                              have q165 : x7_1 < (l0.length : Int) := of_decide_eq_true (by first | (with_reducible assumption) | assumption)
                              obtain ⟨ad165, e165, hx165_0, hx165_1⟩ := at_T58 HR0.out x7_1 p165 q165
                              obtain rfl : ad164 = ad165 := (by injection e165)
                              replace p165 := eq_true p165
                              replace q165 := eq_true q165
                              go_wp2
                              repeat (go_quiet (fail); try go_wp2)
                              go_roundg k3
                              case measure => have := HK1.out; have := HJ4.out; have := HK3.out; omega
                              case rel => exact ⟨(wrap64 (x8_3 + 1)), (by first | rfl | (simp; done) | (simp [*]; done)), H', ⟨by have := HK1.out; have := HJ4.out; have := HK3.out; omega⟩, by repeat (first | exact Drawn0.refl _ | apply Drawn0.step)⟩
                          · rw [if_neg c16] at H
                            exact absurd H (by simp)
                        · rw [if_neg c15] at H
                          exact absurd H (by simp)
                      · rw [if_neg c14] at H
                        exact absurd H (by simp)
                    · rw [if_neg c13] at H
                      exact absurd H (by simp)
                  · rw [if_neg c12] at H
                    have c12b0 : decide (x8_3 < x7_1) = false := decide_eq_false c12
                    clear c12
                    have H' := Aside0.mk H
                    clear H
                    go_wp2
                    repeat (go_quiet (fail); try go_wp2)
                    go_roundg k3
                    case measure => have := HK1.out; have := HJ4.out; have := HK3.out; omega
                    case rel => exact ⟨(wrap64 (x7_1 + 1)), (by first | rfl | (simp; done) | (simp [*]; done)), H', ⟨by have := HK1.out; have := HJ4.out; have := HK3.out; omega⟩, by repeat (first | exact Drawn0.refl _ | apply Drawn0.step)⟩
      · rw [if_neg c4] at H
        have c4b0 : decide (x7_1 < (l0.length : Int)) = false := decide_eq_false c4
        clear c4
        obtain rfl := Option.some.inj H
        go_wp2
        repeat (go_quiet (fail); try go_wp2)
        go_ret
        exact ⟨by first | rfl | (simp; done) | (simp [*]; done), by repeat (first | exact Drawn0.refl _ | apply Drawn0.step)⟩

/-! ### selfstabref01_Port: function 48 -/
def selfstabref01_Port.l0 : Nat → Int → Int → Int → List Int → List (List (S58)) → Option (Int)
  | 0, _, _, _, _, _ => none
  | k + 1, x1, x2, x7, x167000, x167001 => if 0 ≤ x1 then (if x1 < (x167001.length : Int) then (if x7 < ((rd_L2 x167001 x1).length : Int) then (if 0 ≤ x7 then (if ((rd_T58 (rd_L2 x167001 x1) x7).f0) = x2 then (some x7) else (selfstabref01_Port.l0 k x1 x2 (wrap64 (x7 + 1)) x167000 x167001)) else (none)) else (some (-1))) else (none)) else (none)
def selfstabref01_Port.f (k : Nat) (l0_0 : List Int) (l0_1 : List (List (S58))) (a1 : Int) (a2 : Int) : Option (Int) := selfstabref01_Port.l0 k a1 a2 0 l0_0 l0_1
theorem selfstabref01_Port.mono_l : ∀ k, (∀ y0 y1 y2 y3 y4, LeO (selfstabref01_Port.l0 k y0 y1 y2 y3 y4) (selfstabref01_Port.l0 (k + 1) y0 y1 y2 y3 y4))
  | 0 => fun _ _ _ _ _ r h => by simp [selfstabref01_Port.l0] at h
  | k + 1 => by
    have ih0 := selfstabref01_Port.mono_l k
    · intro y0 y1 y2 y3 y4
      unfold selfstabref01_Port.l0
      repeat' first
      | (with_reducible exact ih0 _ _ _ _ _)
      | (with_reducible exact LeO.refl _)
      | (with_reducible exact LeO.none _)
      | (with_reducible refine LeO.ite ?_ ?_)
      | (with_reducible refine LeO.bind ?_ (fun _ => ?_))
      | exact ih0 _ _ _ _ _
      | exact LeO.none _
      | refine LeO.ite ?_ ?_
      | refine LeO.bind ?_ (fun _ => ?_)
theorem selfstabref01_Port.mono : ∀ a0 a1 a2 a3 k, LeO (selfstabref01_Port.f k a0 a1 a2 a3) (selfstabref01_Port.f (k + 1) a0 a1 a2 a3) := by
  intro a0 a1 a2 a3 k
  have ih0 := selfstabref01_Port.mono_l k
  unfold selfstabref01_Port.f
  repeat' first
      | (with_reducible exact ih0 _ _ _ _ _)
      | (with_reducible exact LeO.refl _)
      | (with_reducible exact LeO.none _)
      | (with_reducible refine LeO.ite ?_ ?_)
      | (with_reducible refine LeO.bind ?_ (fun _ => ?_))
      | exact ih0 _ _ _ _ _
      | exact LeO.none _
      | refine LeO.ite ?_ ?_
      | refine LeO.bind ?_ (fun _ => ?_)
set_option maxHeartbeats 8000000 in
set_option maxRecDepth 100000 in
theorem selfstabref01_Port.calls (k : Nat) (A0_0 : Option Addr) (c0_0 : Nat) (l0_0 : List Int) (A0_1 : Option Addr) (c0_1 : Nat) (l0_1 : List (List (S58))) (a1 : Int) (a2 : Int) (r : Int) (w : World) (hr0_0 : Kd.C (Kd.int .i64) w A0_0 l0_0.length l0_0) (hc0_0 : l0_0.length ≤ c0_0) (hr0_1 : Kd.C (Kd.slice 58 k58) w A0_1 l0_1.length l0_1) (hc0_1 : l0_1.length ≤ c0_1) (h : selfstabref01_Port.f k l0_0 l0_1 a1 a2 = some r) :
    Calls Try.prog 48 #[.agg #[.slice A0_0 l0_0.length c0_0, .slice A0_1 l0_1.length c0_1], .int .i64 a1, .int .i64 a2] w fun e w' => e = .returned (.int .i64 r) ∧ Below w.heap.size w w' := by
  have hu25 := Try.underlying25
  have HR0_0 := Aside0.mk hr0_0
  have HC0_0 := Aside0.mk hc0_0
  clear hr0_0 hc0_0
  have HR0_1 := Aside0.mk hr0_1
  have HC0_1 := Aside0.mk hc0_1
  clear hr0_1 hc0_1
  have HB := Aside0.mk (Below.refl w.heap.size w)
  have H : (selfstabref01_Port.l0 k a1 a2 0 l0_0 l0_1) = some r := h
  clear h
  have H' := Aside0.mk H
  clear H
  go_enter Try.func48, Try.ntmps48
  go_wp2_with (first | ((with_reducible refine gate_dst (N := 3) rfl ?_); refine box_event ?hg (N := 3) ?hd (cs := #[.slice A0_0 l0_0.length c0_0, .slice A0_1 l0_1.length c0_1]) (t := 25) ?hr ?_; (case hd => rfl); (case hg => rfl); (case hr => first | (go_simp; done) | (go_simp; rfl)); intro gb166 hg w4 hbox hb; have n0_ := Aside0.mk (below_step (by repeat (first | (with_reducible first | exact HB.out | apply below_alloc | apply pw_below_drewN | apply below_drew1) | exact HB.out)) hb); have n1_ := Aside0.mk (hbox); have n2_ := Aside0.mk ((by rw [hg]; exact (below_size (by repeat (first | (with_reducible first | exact HB.out | apply below_alloc | apply pw_below_drewN | apply below_drew1) | exact HB.out))) : w.heap.size ≤ gb166)); have n3_ := Aside0.mk ((by rw [hg]; exact (below_size (by repeat (first | (with_reducible first | exact HB.out | apply below_alloc | apply pw_below_drewN | apply below_drew1) | exact HB.out))) : w.heap.size ≤ gb166)); clear HB; have HB := n0_; have BK166 := n1_; have GW166 := n2_; have GE166 := n3_; clear n0_ n1_ n2_ n3_; clear hb hbox hg))
  go_loopg [7] k (fun kq v7 w' => ∃ (x7_1 : Int), v7 = .int .i64 x7_1 ∧ Aside0 (selfstabref01_Port.l0 kq a1 a2 x7_1 l0_0 l0_1 = some r) ∧ Aside0 (kq ≤ k) ∧ Aside0 (w'.heap[gb166]? = some (.cells #[(.slice A0_0 l0_0.length c0_0), (.slice A0_1 l0_1.length c0_1)] 25 (0, 0))) ∧ Aside0 (Below w.heap.size w w'))
  case atStart => exact ⟨(0), (by first | rfl | (simp; done) | (simp [*]; done)), H', ⟨Nat.le_refl _⟩, ⟨by (with_reducible repeat (first | refine blk_drewN ?_ _ | refine blk_drew ?_ | refine blk_alloc ?_ _)); exact BK166.out⟩, ⟨by repeat (first | (with_reducible first | exact HB.out | apply below_alloc | apply pw_below_drewN | apply below_drew1 | refine below_set ?_ GE166.out) | exact HB.out)⟩⟩
  case round =>
    clear H'
    try clear p2
    try clear c4
    obtain ⟨x7_1, rfl, HA, HK1, BK166, HB⟩ := hrel
    cases gk with
    | zero => exact absurd HA.out (by simp [selfstabref01_Port.l0])
    | succ k1 =>
      have H := HA.out
      clear HA
      simp only [selfstabref01_Port.l0] at H
      by_cases c5 : 0 ≤ a1
      · rw [if_pos c5] at H
        have c5b0 : decide (0 ≤ a1) = true := decide_eq_true c5
        clear c5
        by_cases c6 : a1 < (l0_1.length : Int)
        · rw [if_pos c6] at H
          have c6b0 : decide (a1 < (l0_1.length : Int)) = true := decide_eq_true c6
          clear c6
          by_cases c7 : x7_1 < ((rd_L2 l0_1 a1).length : Int)
          · rw [if_pos c7] at H
            have c7b0 : decide (x7_1 < ((rd_L2 l0_1 a1).length : Int)) = true := decide_eq_true c7
            clear c7
            by_cases c8 : 0 ≤ x7_1
            · rw [if_pos c8] at H
              have c8b0 : decide (0 ≤ x7_1) = true := decide_eq_true c8
              clear c8
              by_cases c9 : ((rd_T58 (rd_L2 l0_1 a1) x7_1).f0) = a2
              · rw [if_pos c9] at H
                have c9b0 : (((rd_T58 (rd_L2 l0_1 a1) x7_1).f0) == a2) = true := beq_iff_eq.mpr c9
                have c9b1 : (((rd_T58 (rd_L2 l0_1 a1) x7_1).f0) != a2) = false := bne_eq_false_iff_eq.mpr c9
                clear c9
                obtain rfl := Option.some.inj H
                have hcz10_0 : wr.cell? ⟨gb166, 0, none⟩ = some (.slice A0_0 l0_0.length c0_0) := (blk_cell BK166.out 0).trans rfl
                have hcz10_1 : wr.cell? ⟨gb166, 1, none⟩ = some (.slice A0_1 l0_1.length c0_1) := (blk_cell BK166.out 1).trans rfl
                have hfz10_0 := blk_frozen BK166.out 0
                have hfz10_1 := blk_frozen BK166.out 1
                have p167 : 0 ≤ (a1 : Int) := of_decide_eq_true (by first | (with_reducible assumption) | assumption)
                have q167 : a1 < (l0_1.length : Int) := of_decide_eq_true (by first | (with_reducible assumption) | assumption)
                obtain ⟨ad167, A167_0, c167_0, e167, hx167_0, hl167_0, hi167_0⟩ := at_L2 HR0_1.out a1 p167 q167
                cases e167
                replace hx167_0 := (HB.out.cell (World.block_lt_of_cell? w _ hx167_0)).trans hx167_0
                have HR167_0 := Aside0.mk hi167_0
                have HC167_0 := Aside0.mk hl167_0
                clear hi167_0 hl167_0
                replace p167 := eq_true p167
                replace q167 := eq_true q167
                have p168 : 0 ≤ (a1 : Int) := of_decide_eq_true (by first | (with_reducible assumption) | assumption)
                have q168 : a1 < (l0_1.length : Int) := of_decide_eq_true (by first | (with_reducible assumption) | assumption)
                obtain ⟨ad168, A168_0, c168_0, e168, hx168_0, hl168_0, hi168_0⟩ := at_L2 HR0_1.out a1 p168 q168
                obtain rfl : ad167 = ad168 := (by injection e168)
                replace hx168_0 := (HB.out.cell (World.block_lt_of_cell? w _ hx168_0)).trans hx168_0
                have HR168_0 := Aside0.mk hi168_0
                have HC168_0 := Aside0.mk hl168_0
                clear hi168_0 hl168_0
                replace p168 := eq_true p168
                replace q168 := eq_true q168
                have ea_ := Option.some.inj (hx167_0.symm.trans hx168_0)
                injection ea_ with ea_ en_ ec_
                subst ea_
                subst ec_
                clear en_
                have p169 : 0 ≤ (x7_1 : Int) := of_decide_eq_true (by first | (with_reducible assumption) | assumption)
                have q169 : x7_1 < ((rd_L2 l0_1 a1).length : Int) := of_decide_eq_true (by first | (with_reducible assumption) | assumption)
                obtain ⟨ad169, e169, hx169_0, hx169_1⟩ := at_T58 HR168_0.out x7_1 p169 q169
                cases e169
                replace hx169_0 := (HB.out.cell (World.block_lt_of_cell? w _ hx169_0)).trans hx169_0
                replace hx169_1 := (HB.out.cell (World.block_lt_of_cell? w _ hx169_1)).trans hx169_1
                replace p169 := eq_true p169
                replace q169 := eq_true q169
                go_wp2
                go_ret
                exact ⟨by first | rfl | (simp [errW_none, errW_some] <;> rfl) | (simp [*, errW_none, errW_some] <;> rfl), by repeat (first | (with_reducible first | exact HB.out | apply below_alloc | apply pw_below_drewN | apply below_drew1 | refine below_set ?_ GE166.out) | exact HB.out)⟩
              · rw [if_neg c9] at H
                have c9b0 : (((rd_T58 (rd_L2 l0_1 a1) x7_1).f0) == a2) = false := beq_eq_false_iff_ne.mpr c9
                have c9b1 : (((rd_T58 (rd_L2 l0_1 a1) x7_1).f0) != a2) = true := bne_iff_ne.mpr c9
                have H' := Aside0.mk H
                clear H
                have hcz11_0 : wr.cell? ⟨gb166, 0, none⟩ = some (.slice A0_0 l0_0.length c0_0) := (blk_cell BK166.out 0).trans rfl
                have hcz11_1 : wr.cell? ⟨gb166, 1, none⟩ = some (.slice A0_1 l0_1.length c0_1) := (blk_cell BK166.out 1).trans rfl
                have hfz11_0 := blk_frozen BK166.out 0
                have hfz11_1 := blk_frozen BK166.out 1
                have p167 : 0 ≤ (a1 : Int) := of_decide_eq_true (by first | (with_reducible assumption) | assumption)
                have q167 : a1 < (l0_1.length : Int) := of_decide_eq_true (by first | (with_reducible assumption) | assumption)
                obtain ⟨ad167, A167_0, c167_0, e167, hx167_0, hl167_0, hi167_0⟩ := at_L2 HR0_1.out a1 p167 q167
                cases e167
                replace hx167_0 := (HB.out.cell (World.block_lt_of_cell? w _ hx167_0)).trans hx167_0
                have HR167_0 := Aside0.mk hi167_0
                have HC167_0 := Aside0.mk hl167_0
                clear hi167_0 hl167_0
                replace p167 := eq_true p167
                replace q167 := eq_true q167
                have p168 : 0 ≤ (a1 : Int) := of_decide_eq_true (by first | (with_reducible assumption) | assumption)
                have q168 : a1 < (l0_1.length : Int) := of_decide_eq_true (by first | (with_reducible assumption) | assumption)
                obtain ⟨ad168, A168_0, c168_0, e168, hx168_0, hl168_0, hi168_0⟩ := at_L2 HR0_1.out a1 p168 q168
                obtain rfl : ad167 = ad168 := (by injection e168)
                replace hx168_0 := (HB.out.cell (World.block_lt_of_cell? w _ hx168_0)).trans hx168_0
                have HR168_0 := Aside0.mk hi168_0
                have HC168_0 := Aside0.mk hl168_0
                clear hi168_0 hl168_0
                replace p168 := eq_true p168
                replace q168 := eq_true q168
                have ea_ := Option.some.inj (hx167_0.symm.trans hx168_0)
                injection ea_ with ea_ en_ ec_
                subst ea_
                subst ec_
                clear en_
                have p169 : 0 ≤ (x7_1 : Int) := of_decide_eq_true (by first | (with_reducible assumption) | assumption)
                have q169 : x7_1 < ((rd_L2 l0_1 a1).length : Int) := of_decide_eq_true (by first | (with_reducible assumption) | assumption)
                obtain ⟨ad169, e169, hx169_0, hx169_1⟩ := at_T58 HR168_0.out x7_1 p169 q169
                cases e169
                replace hx169_0 := (HB.out.cell (World.block_lt_of_cell? w _ hx169_0)).trans hx169_0
                replace hx169_1 := (HB.out.cell (World.block_lt_of_cell? w _ hx169_1)).trans hx169_1
                replace p169 := eq_true p169
                replace q169 := eq_true q169
                go_wp2
                go_roundg k1
                case measure => have := HK1.out; omega
                case rel => exact ⟨(wrap64 (x7_1 + 1)), (by first | rfl | (simp; done) | (simp [*]; done)), H', ⟨by have := HK1.out; omega⟩, ⟨by (with_reducible repeat (first | refine blk_drewN ?_ _ | refine blk_drew ?_ | refine blk_alloc ?_ _)); exact BK166.out⟩, ⟨by repeat (first | (with_reducible first | exact HB.out | apply below_alloc | apply pw_below_drewN | apply below_drew1 | refine below_set ?_ GE166.out) | exact HB.out)⟩⟩
            · rw [if_neg c8] at H
              exact absurd H (by simp)
          · rw [if_neg c7] at H
            have c7b0 : decide (x7_1 < ((rd_L2 l0_1 a1).length : Int)) = false := decide_eq_false c7
            clear c7
            obtain rfl := Option.some.inj H
            have hcz12_0 : wr.cell? ⟨gb166, 0, none⟩ = some (.slice A0_0 l0_0.length c0_0) := (blk_cell BK166.out 0).trans rfl
            have hcz12_1 : wr.cell? ⟨gb166, 1, none⟩ = some (.slice A0_1 l0_1.length c0_1) := (blk_cell BK166.out 1).trans rfl
            have hfz12_0 := blk_frozen BK166.out 0
            have hfz12_1 := blk_frozen BK166.out 1
            have p167 : 0 ≤ (a1 : Int) := of_decide_eq_true (by first | (with_reducible assumption) | assumption)
            have q167 : a1 < (l0_1.length : Int) := of_decide_eq_true (by first | (with_reducible assumption) | assumption)
            obtain ⟨ad167, A167_0, c167_0, e167, hx167_0, hl167_0, hi167_0⟩ := at_L2 HR0_1.out a1 p167 q167
            cases e167
            replace hx167_0 := (HB.out.cell (World.block_lt_of_cell? w _ hx167_0)).trans hx167_0
            have HR167_0 := Aside0.mk hi167_0
            have HC167_0 := Aside0.mk hl167_0
            clear hi167_0 hl167_0
            replace p167 := eq_true p167
            replace q167 := eq_true q167
            go_wp2
            go_ret
            exact ⟨by first | rfl | (simp [errW_none, errW_some] <;> rfl) | (simp [*, errW_none, errW_some] <;> rfl), by repeat (first | (with_reducible first | exact HB.out | apply below_alloc | apply pw_below_drewN | apply below_drew1 | refine below_set ?_ GE166.out) | exact HB.out)⟩
        · rw [if_neg c6] at H
          exact absurd H (by simp)
      · rw [if_neg c5] at H
        exact absurd H (by simp)

end Go.Proofs.Ytmkpddhnnejfhaa.P
