-- By a program of this session (wip/tools/myprint.py over the kit's printer). Not trusted: Lean checks it.
import Derived.Test.YtilmpkoklkgjeaaP0
import Derived.Test.YtilmpkoklkgjeaaP3
import Derived.Test.YtilmpkoklkgjeaaGValid
namespace Go.Proofs.Ytilmpkoklkgjeaa.P
open Go.RowKit Go.Proofs.YtilmpkoklkgjeaaW.PrintWords Go.Proofs.YtilmpkoklkgjeaaW.PrintLast Go.Proofs.YtilmpkoklkgjeaaW.PrintMore
attribute [local go_sem] max2_int min2_int max_two min_two max_three min_three max_four min_four   -- for this text's walks alone
set_option linter.unusedVariables false
set_option linter.unusedSimpArgs false

/-! ### graph_Eccentricity: function 72 -/
def graph_Eccentricity.l0 : Nat → Int → List Int → Int → Int → Option (Int)
  | 0, _, _, _, _ => none
  | k + 1, x5, x13, x14, x15 => if x15 < x14 then (if 0 ≤ x15 then (if x15 < (x13.length : Int) then (graph_Eccentricity.l0 k (mx x5 (rd x13 x15)) x13 x14 (wrap64 (x15 + 1))) else (none)) else (none)) else (some x5)
def graph_Eccentricity.f (k : Nat) (l0_0 : List Int) (l0_1 : List (List (S50))) (a1 : Int) : Option (Int) := (graph_Connected.f k l0_0 l0_1).bind fun t568 => (if t568 = true then ((graph_Distances.f k l0_0 l0_1 a1).bind fun t569 => (graph_Eccentricity.l0 k (-1) t569 (t569.length : Int) 0)) else (some (-1)))
theorem graph_Eccentricity.mono_l : ∀ k, (∀ y0 y1 y2 y3, LeO (graph_Eccentricity.l0 k y0 y1 y2 y3) (graph_Eccentricity.l0 (k + 1) y0 y1 y2 y3))
  | 0 => fun _ _ _ _ r h => by simp [graph_Eccentricity.l0] at h
  | k + 1 => by
    have ih0 := graph_Eccentricity.mono_l k
    · intro y0 y1 y2 y3
      unfold graph_Eccentricity.l0
      repeat' first
      | (with_reducible exact ih0 _ _ _ _)
      | (with_reducible exact graph_Connected.mono _ _ _)
      | (with_reducible exact graph_Distances.mono _ _ _ _)
      | (with_reducible exact LeO.refl _)
      | (with_reducible exact LeO.none _)
      | (with_reducible refine LeO.ite ?_ ?_)
      | (with_reducible refine LeO.bind ?_ (fun _ => ?_))
      | exact ih0 _ _ _ _
      | exact graph_Connected.mono _ _ _
      | exact graph_Distances.mono _ _ _ _
      | exact LeO.none _
      | refine LeO.ite ?_ ?_
      | refine LeO.bind ?_ (fun _ => ?_)
theorem graph_Eccentricity.mono : ∀ a0 a1 a2 k, LeO (graph_Eccentricity.f k a0 a1 a2) (graph_Eccentricity.f (k + 1) a0 a1 a2) := by
  intro a0 a1 a2 k
  have ih0 := graph_Eccentricity.mono_l k
  unfold graph_Eccentricity.f
  repeat' first
      | (with_reducible exact ih0 _ _ _ _)
      | (with_reducible exact graph_Connected.mono _ _ _)
      | (with_reducible exact graph_Distances.mono _ _ _ _)
      | (with_reducible exact LeO.refl _)
      | (with_reducible exact LeO.none _)
      | (with_reducible refine LeO.ite ?_ ?_)
      | (with_reducible refine LeO.bind ?_ (fun _ => ?_))
      | exact ih0 _ _ _ _
      | exact graph_Connected.mono _ _ _
      | exact graph_Distances.mono _ _ _ _
      | exact LeO.none _
      | refine LeO.ite ?_ ?_
      | refine LeO.bind ?_ (fun _ => ?_)
set_option maxHeartbeats 8000000 in
set_option maxRecDepth 100000 in
theorem graph_Eccentricity.calls (k : Nat) (A0_0 : Option Addr) (c0_0 : Nat) (l0_0 : List Int) (A0_1 : Option Addr) (c0_1 : Nat) (l0_1 : List (List (S50))) (a1 : Int) (r : Int) (w : World) (hr0_0 : Kd.C (Kd.int .i64) w A0_0 l0_0.length l0_0) (hc0_0 : l0_0.length ≤ c0_0) (hr0_1 : Kd.C (Kd.slice 50 k50) w A0_1 l0_1.length l0_1) (hc0_1 : l0_1.length ≤ c0_1) (h : graph_Eccentricity.f k l0_0 l0_1 a1 = some r) :
    Calls Try.prog 72 #[.agg #[.slice A0_0 l0_0.length c0_0, .slice A0_1 l0_1.length c0_1], .int .i64 a1] w fun e w' => e = .returned (.int .i64 r) ∧ Below w.heap.size w w' := by
  have hu26 := Try.underlying26
  have HR0_0 := Aside0.mk hr0_0
  have HC0_0 := Aside0.mk hc0_0
  clear hr0_0 hc0_0
  have HR0_1 := Aside0.mk hr0_1
  have HC0_1 := Aside0.mk hc0_1
  clear hr0_1 hc0_1
  have HB := Aside0.mk (Below.refl w.heap.size w)
  have H : ((graph_Connected.f k l0_0 l0_1).bind fun t568 => (if t568 = true then ((graph_Distances.f k l0_0 l0_1 a1).bind fun t569 => (graph_Eccentricity.l0 k (-1) t569 (t569.length : Int) 0)) else (some (-1)))) = some r := h
  clear h
  replace H := Option.bind_eq_some_iff.mp H
  obtain ⟨t568, A30, H⟩ := H
  replace H : (if t568 = true then ((graph_Distances.f k l0_0 l0_1 a1).bind fun t569 => (graph_Eccentricity.l0 k (-1) t569 (t569.length : Int) 0)) else (some (-1))) = some r := H
  have A3 := Aside0.mk A30
  clear A30
  by_cases c4 : t568 = true
  · subst c4
    have H1 : ((graph_Distances.f k l0_0 l0_1 a1).bind fun t569 => (graph_Eccentricity.l0 k (-1) t569 (t569.length : Int) 0)) = some r := by rw [if_pos rfl] at H; exact H
    clear H
    have H := H1
    clear H1
    replace H := Option.bind_eq_some_iff.mp H
    obtain ⟨t569, A50, H⟩ := H
    replace H : (graph_Eccentricity.l0 k (-1) t569 (t569.length : Int) 0) = some r := H
    have A5 := Aside0.mk A50
    clear A50
    have H' := Aside0.mk H
    clear H
    go_enter Try.func72, Try.ntmps72
    go_wp2_with (first | ((with_reducible refine gate_dst (N := 2) rfl ?_); refine box_event ?hg (N := 2) ?hd (cs := #[.slice A0_0 l0_0.length c0_0, .slice A0_1 l0_1.length c0_1]) (t := 26) ?hr ?_; (case hd => rfl); (case hg => rfl); (case hr => first | (go_simp; done) | (go_simp; rfl)); intro gb567 hg w6 hbox hb; have n0_ := Aside0.mk (below_step (by repeat (first | (with_reducible first | exact HB.out | apply below_alloc | apply pw_below_drewN | apply below_drew1) | exact HB.out)) hb); have n1_ := Aside0.mk (hbox); have n2_ := Aside0.mk ((by rw [hg]; exact (below_size (by repeat (first | (with_reducible first | exact HB.out | apply below_alloc | apply pw_below_drewN | apply below_drew1) | exact HB.out))) : w.heap.size ≤ gb567)); have n3_ := Aside0.mk ((by rw [hg]; exact (below_size (by repeat (first | (with_reducible first | exact HB.out | apply below_alloc | apply pw_below_drewN | apply below_drew1) | exact HB.out))) : w.heap.size ≤ gb567)); clear HB; have HB := n0_; have BK567 := n1_; have GW567 := n2_; have GE567 := n3_; clear n0_ n1_ n2_ n3_; clear hb hbox hg; have hcz7_0 : w6.cell? ⟨gb567, 0, none⟩ = some (.slice A0_0 l0_0.length c0_0) := (blk_cell BK567.out 0).trans rfl; have hcz7_1 : w6.cell? ⟨gb567, 1, none⟩ = some (.slice A0_1 l0_1.length c0_1) := (blk_cell BK567.out 1).trans rfl; have hfz7_0 := blk_frozen BK567.out 0; have hfz7_1 := blk_frozen BK567.out 1) | ((with_reducible refine gate_callee (f := 65) rfl ?_); refine goesL_ (some 9) rfl rfl Try.func65 (by kernel_rfl) rfl #[.agg #[.slice A0_0 l0_0.length c0_0, .slice A0_1 l0_1.length c0_1]] rfl (by (try simp only [List.map_toArray, List.map_cons, List.map_nil]); first | done | rfl | (simp only [List.length_drop, List.length_take]; rfl)) ?_; (with_reducible refine (graph_Connected.calls k _ _ l0_0 _ _ l0_1 true _ ?side1 ?side2 ?side3 ?side4 A3.out).mono ?_); (case side1 => repeat (first | exact (Kd.C_below HR0_0.out HB.out) | (with_reducible refine Kd.C_alloc ?_ _) | (with_reducible refine Kd.C_drewN ?_ _) | (with_reducible refine Kd.C_drew ?_))); (case side2 => exact HC0_0.out); (case side3 => repeat (first | exact (Kd.C_below HR0_1.out HB.out) | (with_reducible refine Kd.C_alloc ?_ _) | (with_reducible refine Kd.C_drewN ?_ _) | (with_reducible refine Kd.C_drew ?_))); (case side4 => exact HC0_1.out); rintro e w8 ⟨rfl, hb⟩; refine ⟨_, rfl, ?_⟩; have n0_ := Aside0.mk (blk_below (g := gb567) (o := .cells #[.slice A0_0 l0_0.length c0_0, .slice A0_1 l0_1.length c0_1] 26 (0, 0)) (by (with_reducible repeat (first | refine blk_drewN ?_ _ | refine blk_drew ?_ | refine blk_alloc ?_ _)); exact BK567.out) hb); have n1_ := Aside0.mk (below_step (by repeat (first | (with_reducible first | exact HB.out | apply below_alloc | apply pw_below_drewN | apply below_drew1 | refine below_set ?_ GE567.out) | exact HB.out)) hb); clear BK567; clear HB; have BK567 := n0_; have HB := n1_; clear n0_ n1_; (try clear hb); (try clear hb2); (try clear hk); (try clear hi); have hcz9_0 : w8.cell? ⟨gb567, 0, none⟩ = some (.slice A0_0 l0_0.length c0_0) := (blk_cell BK567.out 0).trans rfl; have hcz9_1 : w8.cell? ⟨gb567, 1, none⟩ = some (.slice A0_1 l0_1.length c0_1) := (blk_cell BK567.out 1).trans rfl; have hfz9_0 := blk_frozen BK567.out 0; have hfz9_1 := blk_frozen BK567.out 1) | ((with_reducible refine gate_callee (f := 32) rfl ?_); refine goesL_ (some 13) rfl rfl Try.func32 (by kernel_rfl) rfl #[.agg #[.slice A0_0 l0_0.length c0_0, .slice A0_1 l0_1.length c0_1], .int .i64 a1] rfl (by (try simp only [List.map_toArray, List.map_cons, List.map_nil]); first | done | rfl | (simp only [List.length_drop, List.length_take]; rfl)) ?_; (with_reducible refine (graph_Distances.calls k _ _ l0_0 _ _ l0_1 a1 t569 _ ?side1 ?side2 ?side3 ?side4 A5.out).mono ?_); (case side1 => repeat (first | exact (Kd.C_below HR0_0.out HB.out) | (with_reducible refine Kd.C_alloc ?_ _) | (with_reducible refine Kd.C_drewN ?_ _) | (with_reducible refine Kd.C_drew ?_))); (case side2 => exact HC0_0.out); (case side3 => repeat (first | exact (Kd.C_below HR0_1.out HB.out) | (with_reducible refine Kd.C_alloc ?_ _) | (with_reducible refine Kd.C_drewN ?_ _) | (with_reducible refine Kd.C_drew ?_))); (case side4 => exact HC0_1.out); rintro e w10 ⟨v570, rfl, ho0, hb⟩; refine ⟨_, rfl, ?_⟩; have n0_ := Aside0.mk (Kd.R_lower ho0 (below_size (by repeat (first | (with_reducible first | exact HB.out | apply below_alloc | apply pw_below_drewN | apply below_drew1 | refine below_set ?_ GE567.out) | exact HB.out)))); have n1_ := Aside0.mk (blk_below (g := gb567) (o := .cells #[.slice A0_0 l0_0.length c0_0, .slice A0_1 l0_1.length c0_1] 26 (0, 0)) (by (with_reducible repeat (first | refine blk_drewN ?_ _ | refine blk_drew ?_ | refine blk_alloc ?_ _)); exact BK567.out) hb); have n2_ := Aside0.mk (below_step (by repeat (first | (with_reducible first | exact HB.out | apply below_alloc | apply pw_below_drewN | apply below_drew1 | refine below_set ?_ GE567.out) | exact HB.out)) hb); clear BK567; clear HB; have HO571 := n0_; have BK567 := n1_; have HB := n2_; clear n0_ n1_ n2_; (try clear hb); (try clear hb2); (try clear hk); (try clear hi); (try clear ho0); obtain ⟨Ao11, co11, eo11⟩ := Kd.R_slice HO571.out; subst eo11))
    go_loopg [5, 15] k (fun kq v5 v15 w' => ∃ (x5_1 : Int) (x15_1 : Int), v5 = .int .i64 x5_1 ∧ v15 = .int .i64 x15_1 ∧ Aside0 (graph_Eccentricity.l0 kq x5_1 t569 (t569.length : Int) x15_1 = some r) ∧ Aside0 (kq ≤ k) ∧ Aside0 (Kd.R (Kd.int .i64) 3 w' w.heap.size (fun _ => True) (.slice Ao11 t569.length co11) t569) ∧ Aside0 (w'.heap[gb567]? = some (.cells #[(.slice A0_0 l0_0.length c0_0), (.slice A0_1 l0_1.length c0_1)] 26 (0, 0))) ∧ Aside0 (Below w.heap.size w w'))
    case atStart => exact ⟨((-1)), (0), (by first | rfl | (simp; done) | (simp [*]; done)), (by first | rfl | (simp; done) | (simp [*]; done)), H', ⟨Nat.le_refl _⟩, ⟨by (with_reducible repeat (first | apply Kd.R_alloc | apply Kd.R_drewN | apply Kd.R_drew)); exact HO571.out⟩, ⟨by (with_reducible repeat (first | refine blk_drewN ?_ _ | refine blk_drew ?_ | refine blk_alloc ?_ _)); exact BK567.out⟩, ⟨by repeat (first | (with_reducible first | exact HB.out | apply below_alloc | apply pw_below_drewN | apply below_drew1 | refine below_set ?_ GE567.out) | exact HB.out)⟩⟩
    case round =>
      clear H'
      try clear p2
      try clear c3
      try clear c4
      try clear c6
      try clear c7
      try clear hcz7_0
      try clear hcz7_1
      try clear hcz9_0
      try clear hcz9_1
      try clear hfz7_0
      try clear hfz7_1
      try clear hfz9_0
      try clear hfz9_1
      obtain ⟨x5_1, x15_1, rfl, rfl, HA, HK1, HO_13, BK567, HB⟩ := hrel
      cases gk with
      | zero => exact absurd HA.out (by simp [graph_Eccentricity.l0])
      | succ k1 =>
        have H := HA.out
        clear HA
        simp only [graph_Eccentricity.l0] at H
        by_cases c12 : x15_1 < (t569.length : Int)
        · rw [if_pos c12] at H
          have c12b0 : decide (x15_1 < (t569.length : Int)) = true := decide_eq_true c12
          clear c12
          by_cases c13 : 0 ≤ x15_1
          · rw [if_pos c13] at H
            have c13b0 : decide (0 ≤ x15_1) = true := decide_eq_true c13
            clear c13
            by_cases c14 : x15_1 < (t569.length : Int)
            · rw [if_pos c14] at H
              have c14b0 : decide (x15_1 < (t569.length : Int)) = true := decide_eq_true c14
              clear c14
              obtain ⟨ji15, hji15⟩ : ∃ j_ : Int, (mx x5_1 (rd t569 x15_1)) = j_ := ⟨_, rfl⟩
              replace H : (graph_Eccentricity.l0 k1 ji15 t569 (t569.length : Int) (wrap64 (x15_1 + 1))) = some r := by first | (rw [hji15] at H; exact H) | (simp only [hji15] at H ⊢; exact H)
              have hji15_ : (if x5_1 < (rd t569 x15_1) then (rd t569 x15_1) else x5_1) = ji15 := hji15
              have H' := Aside0.mk H
              clear H
              have p572 : 0 ≤ (x15_1 : Int) := of_decide_eq_true (by first | (with_reducible assumption) | assumption)
              have q572 : x15_1 < (t569.length : Int) := of_decide_eq_true (by first | (with_reducible assumption) | assumption)
              (try (obtain ⟨Az572, cz572, ez572⟩ := Kd.R_slice HO_13.out; subst ez572))
              obtain ⟨ad572, e572, hx572_0⟩ := Kd.at_int (Kd.R_reads' HO_13.out).2.2 x15_1 p572 q572
              cases e572
              replace p572 := eq_true p572
              replace q572 := eq_true q572
              go_wp2
              go_roundg k1
              case measure => have := HK1.out; omega
              case rel => exact ⟨(ji15), (wrap64 (x15_1 + 1)), (by first | rfl | (simp; done) | (simp only [← hji15] <;> (first | rfl | simp)) | (simp [*]; done)), (by first | rfl | (simp; done) | (simp [*]; done)), H', ⟨by have := HK1.out; omega⟩, ⟨by (with_reducible repeat (first | apply Kd.R_alloc | apply Kd.R_drewN | apply Kd.R_drew)); exact HO_13.out⟩, ⟨by (with_reducible repeat (first | refine blk_drewN ?_ _ | refine blk_drew ?_ | refine blk_alloc ?_ _)); exact BK567.out⟩, ⟨by repeat (first | (with_reducible first | exact HB.out | apply below_alloc | apply pw_below_drewN | apply below_drew1 | refine below_set ?_ GE567.out) | exact HB.out)⟩⟩
            · rw [if_neg c14] at H
              exact absurd H (by simp)
          · rw [if_neg c13] at H
            exact absurd H (by simp)
        · rw [if_neg c12] at H
          have c12b0 : decide (x15_1 < (t569.length : Int)) = false := decide_eq_false c12
          clear c12
          obtain rfl := Option.some.inj H
          go_wp2
          go_ret
          exact ⟨by first | rfl | (simp [errW_none, errW_some] <;> rfl) | (simp [*, errW_none, errW_some] <;> rfl), by repeat (first | (with_reducible first | exact HB.out | apply below_alloc | apply pw_below_drewN | apply below_drew1 | refine below_set ?_ GE567.out) | exact HB.out)⟩
  · replace c4 := Bool.eq_false_iff.mpr c4
    subst c4
    have H1 : (some (-1)) = some r := by rw [if_neg (show ¬ (false = true) by decide)] at H; exact H
    clear H
    have H := H1
    clear H1
    obtain rfl := Option.some.inj H
    go_enter Try.func72, Try.ntmps72
    go_wp2_with (first | ((with_reducible refine gate_dst (N := 2) rfl ?_); refine box_event ?hg (N := 2) ?hd (cs := #[.slice A0_0 l0_0.length c0_0, .slice A0_1 l0_1.length c0_1]) (t := 26) ?hr ?_; (case hd => rfl); (case hg => rfl); (case hr => first | (go_simp; done) | (go_simp; rfl)); intro gb567 hg w16 hbox hb; have n0_ := Aside0.mk (below_step (by repeat (first | (with_reducible first | exact HB.out | apply below_alloc | apply pw_below_drewN | apply below_drew1) | exact HB.out)) hb); have n1_ := Aside0.mk (hbox); have n2_ := Aside0.mk ((by rw [hg]; exact (below_size (by repeat (first | (with_reducible first | exact HB.out | apply below_alloc | apply pw_below_drewN | apply below_drew1) | exact HB.out))) : w.heap.size ≤ gb567)); have n3_ := Aside0.mk ((by rw [hg]; exact (below_size (by repeat (first | (with_reducible first | exact HB.out | apply below_alloc | apply pw_below_drewN | apply below_drew1) | exact HB.out))) : w.heap.size ≤ gb567)); clear HB; have HB := n0_; have BK567 := n1_; have GW567 := n2_; have GE567 := n3_; clear n0_ n1_ n2_ n3_; clear hb hbox hg; have hcz17_0 : w16.cell? ⟨gb567, 0, none⟩ = some (.slice A0_0 l0_0.length c0_0) := (blk_cell BK567.out 0).trans rfl; have hcz17_1 : w16.cell? ⟨gb567, 1, none⟩ = some (.slice A0_1 l0_1.length c0_1) := (blk_cell BK567.out 1).trans rfl; have hfz17_0 := blk_frozen BK567.out 0; have hfz17_1 := blk_frozen BK567.out 1) | ((with_reducible refine gate_callee (f := 65) rfl ?_); refine goesL_ (some 9) rfl rfl Try.func65 (by kernel_rfl) rfl #[.agg #[.slice A0_0 l0_0.length c0_0, .slice A0_1 l0_1.length c0_1]] rfl (by (try simp only [List.map_toArray, List.map_cons, List.map_nil]); first | done | rfl | (simp only [List.length_drop, List.length_take]; rfl)) ?_; (with_reducible refine (graph_Connected.calls k _ _ l0_0 _ _ l0_1 false _ ?side1 ?side2 ?side3 ?side4 A3.out).mono ?_); (case side1 => repeat (first | exact (Kd.C_below HR0_0.out HB.out) | (with_reducible refine Kd.C_alloc ?_ _) | (with_reducible refine Kd.C_drewN ?_ _) | (with_reducible refine Kd.C_drew ?_))); (case side2 => exact HC0_0.out); (case side3 => repeat (first | exact (Kd.C_below HR0_1.out HB.out) | (with_reducible refine Kd.C_alloc ?_ _) | (with_reducible refine Kd.C_drewN ?_ _) | (with_reducible refine Kd.C_drew ?_))); (case side4 => exact HC0_1.out); rintro e w18 ⟨rfl, hb⟩; refine ⟨_, rfl, ?_⟩; have n0_ := Aside0.mk (blk_below (g := gb567) (o := .cells #[.slice A0_0 l0_0.length c0_0, .slice A0_1 l0_1.length c0_1] 26 (0, 0)) (by (with_reducible repeat (first | refine blk_drewN ?_ _ | refine blk_drew ?_ | refine blk_alloc ?_ _)); exact BK567.out) hb); have n1_ := Aside0.mk (below_step (by repeat (first | (with_reducible first | exact HB.out | apply below_alloc | apply pw_below_drewN | apply below_drew1 | refine below_set ?_ GE567.out) | exact HB.out)) hb); clear BK567; clear HB; have BK567 := n0_; have HB := n1_; clear n0_ n1_; (try clear hb); (try clear hb2); (try clear hk); (try clear hi)))
    go_ret
    exact ⟨by first | rfl | (simp [errW_none, errW_some] <;> rfl) | (simp [*, errW_none, errW_some] <;> rfl), by repeat (first | (with_reducible first | exact HB.out | apply below_alloc | apply pw_below_drewN | apply below_drew1 | refine below_set ?_ GE567.out) | exact HB.out)⟩

/-! ### graph_Diameter: function 66 -/
def graph_Diameter.l0 : Nat → Int → Int → Int → List Int → List (List (S50)) → Option (Int)
  | 0, _, _, _, _, _ => none
  | k + 1, x3, x7, x8, x574000, x574001 => if x8 < x7 then ((graph_Eccentricity.f k x574000 x574001 x8).bind fun t574 => (if (mx x3 t574) < 0 then (some (mx x3 t574)) else (graph_Diameter.l0 k (mx x3 t574) x7 (wrap64 (x8 + 1)) x574000 x574001))) else (some x3)
def graph_Diameter.f (k : Nat) (l0_0 : List Int) (l0_1 : List (List (S50))) : Option (Int) := graph_Diameter.l0 k (-1) (l0_1.length : Int) 0 l0_0 l0_1
theorem graph_Diameter.mono_l : ∀ k, (∀ y0 y1 y2 y3 y4, LeO (graph_Diameter.l0 k y0 y1 y2 y3 y4) (graph_Diameter.l0 (k + 1) y0 y1 y2 y3 y4))
  | 0 => fun _ _ _ _ _ r h => by simp [graph_Diameter.l0] at h
  | k + 1 => by
    have ih0 := graph_Diameter.mono_l k
    · intro y0 y1 y2 y3 y4
      unfold graph_Diameter.l0
      repeat' first
      | (with_reducible exact ih0 _ _ _ _ _)
      | (with_reducible exact graph_Eccentricity.mono _ _ _ _)
      | (with_reducible exact LeO.refl _)
      | (with_reducible exact LeO.none _)
      | (with_reducible refine LeO.ite ?_ ?_)
      | (with_reducible refine LeO.bind ?_ (fun _ => ?_))
      | exact ih0 _ _ _ _ _
      | exact graph_Eccentricity.mono _ _ _ _
      | exact LeO.none _
      | refine LeO.ite ?_ ?_
      | refine LeO.bind ?_ (fun _ => ?_)
theorem graph_Diameter.mono : ∀ a0 a1 k, LeO (graph_Diameter.f k a0 a1) (graph_Diameter.f (k + 1) a0 a1) := by
  intro a0 a1 k
  have ih0 := graph_Diameter.mono_l k
  unfold graph_Diameter.f
  repeat' first
      | (with_reducible exact ih0 _ _ _ _ _)
      | (with_reducible exact graph_Eccentricity.mono _ _ _ _)
      | (with_reducible exact LeO.refl _)
      | (with_reducible exact LeO.none _)
      | (with_reducible refine LeO.ite ?_ ?_)
      | (with_reducible refine LeO.bind ?_ (fun _ => ?_))
      | exact ih0 _ _ _ _ _
      | exact graph_Eccentricity.mono _ _ _ _
      | exact LeO.none _
      | refine LeO.ite ?_ ?_
      | refine LeO.bind ?_ (fun _ => ?_)
set_option maxHeartbeats 8000000 in
set_option maxRecDepth 100000 in
theorem graph_Diameter.calls (k : Nat) (A0_0 : Option Addr) (c0_0 : Nat) (l0_0 : List Int) (A0_1 : Option Addr) (c0_1 : Nat) (l0_1 : List (List (S50))) (r : Int) (w : World) (hr0_0 : Kd.C (Kd.int .i64) w A0_0 l0_0.length l0_0) (hc0_0 : l0_0.length ≤ c0_0) (hr0_1 : Kd.C (Kd.slice 50 k50) w A0_1 l0_1.length l0_1) (hc0_1 : l0_1.length ≤ c0_1) (h : graph_Diameter.f k l0_0 l0_1 = some r) :
    Calls Try.prog 66 #[.agg #[.slice A0_0 l0_0.length c0_0, .slice A0_1 l0_1.length c0_1]] w fun e w' => e = .returned (.int .i64 r) ∧ Below w.heap.size w w' := by
  have hu26 := Try.underlying26
  have HR0_0 := Aside0.mk hr0_0
  have HC0_0 := Aside0.mk hc0_0
  clear hr0_0 hc0_0
  have HR0_1 := Aside0.mk hr0_1
  have HC0_1 := Aside0.mk hc0_1
  clear hr0_1 hc0_1
  have HB := Aside0.mk (Below.refl w.heap.size w)
  have H : (graph_Diameter.l0 k (-1) (l0_1.length : Int) 0 l0_0 l0_1) = some r := h
  clear h
  have H' := Aside0.mk H
  clear H
  go_enter Try.func66, Try.ntmps66
  go_wp2_with (first | ((with_reducible refine gate_dst (N := 1) rfl ?_); refine box_event ?hg (N := 1) ?hd (cs := #[.slice A0_0 l0_0.length c0_0, .slice A0_1 l0_1.length c0_1]) (t := 26) ?hr ?_; (case hd => rfl); (case hg => rfl); (case hr => first | (go_simp; done) | (go_simp; rfl)); intro gb573 hg w2 hbox hb; have n0_ := Aside0.mk (below_step (by repeat (first | (with_reducible first | exact HB.out | apply below_alloc | apply pw_below_drewN | apply below_drew1) | exact HB.out)) hb); have n1_ := Aside0.mk (hbox); have n2_ := Aside0.mk ((by rw [hg]; exact (below_size (by repeat (first | (with_reducible first | exact HB.out | apply below_alloc | apply pw_below_drewN | apply below_drew1) | exact HB.out))) : w.heap.size ≤ gb573)); have n3_ := Aside0.mk ((by rw [hg]; exact (below_size (by repeat (first | (with_reducible first | exact HB.out | apply below_alloc | apply pw_below_drewN | apply below_drew1) | exact HB.out))) : w.heap.size ≤ gb573)); clear HB; have HB := n0_; have BK573 := n1_; have GW573 := n2_; have GE573 := n3_; clear n0_ n1_ n2_ n3_; clear hb hbox hg; have hcz3_0 : w2.cell? ⟨gb573, 0, none⟩ = some (.slice A0_0 l0_0.length c0_0) := (blk_cell BK573.out 0).trans rfl; have hcz3_1 : w2.cell? ⟨gb573, 1, none⟩ = some (.slice A0_1 l0_1.length c0_1) := (blk_cell BK573.out 1).trans rfl; have hfz3_0 := blk_frozen BK573.out 0; have hfz3_1 := blk_frozen BK573.out 1))
  go_loopg [3, 8] k (fun kq v3 v8 w' => ∃ (x3_1 : Int) (x8_1 : Int), v3 = .int .i64 x3_1 ∧ v8 = .int .i64 x8_1 ∧ Aside0 (graph_Diameter.l0 kq x3_1 (l0_1.length : Int) x8_1 l0_0 l0_1 = some r) ∧ Aside0 (kq ≤ k) ∧ Aside0 (w'.heap[gb573]? = some (.cells #[(.slice A0_0 l0_0.length c0_0), (.slice A0_1 l0_1.length c0_1)] 26 (0, 0))) ∧ Aside0 (Below w.heap.size w w'))
  case atStart => exact ⟨((-1)), (0), (by first | rfl | (simp; done) | (simp [*]; done)), (by first | rfl | (simp; done) | (simp [*]; done)), H', ⟨Nat.le_refl _⟩, ⟨by (with_reducible repeat (first | refine blk_drewN ?_ _ | refine blk_drew ?_ | refine blk_alloc ?_ _)); exact BK573.out⟩, ⟨by repeat (first | (with_reducible first | exact HB.out | apply below_alloc | apply pw_below_drewN | apply below_drew1 | refine below_set ?_ GE573.out) | exact HB.out)⟩⟩
  case round =>
    clear H'
    try clear p2
    try clear hcz3_0
    try clear hcz3_1
    try clear hfz3_0
    try clear hfz3_1
    obtain ⟨x3_1, x8_1, rfl, rfl, HA, HK1, BK573, HB⟩ := hrel
    cases gk with
    | zero => exact absurd HA.out (by simp [graph_Diameter.l0])
    | succ k1 =>
      have H := HA.out
      clear HA
      simp only [graph_Diameter.l0] at H
      by_cases c4 : x8_1 < (l0_1.length : Int)
      · rw [if_pos c4] at H
        have c4b0 : decide (x8_1 < (l0_1.length : Int)) = true := decide_eq_true c4
        clear c4
        replace H := Option.bind_eq_some_iff.mp H
        obtain ⟨t574, A50, H⟩ := H
        replace H : (if (mx x3_1 t574) < 0 then (some (mx x3_1 t574)) else (graph_Diameter.l0 k1 (mx x3_1 t574) (l0_1.length : Int) (wrap64 (x8_1 + 1)) l0_0 l0_1)) = some r := H
        have A5 := Aside0.mk A50
        clear A50
        obtain ⟨ji6, hji6⟩ : ∃ j_ : Int, (mx x3_1 t574) = j_ := ⟨_, rfl⟩
        replace H : (if (ji6) < 0 then (some ji6) else (graph_Diameter.l0 k1 ji6 (l0_1.length : Int) (wrap64 (x8_1 + 1)) l0_0 l0_1)) = some r := by first | (rw [hji6] at H; exact H) | (simp only [hji6] at H ⊢; exact H)
        (try rw [hji6] at A5)
        have hji6_ : (if x3_1 < t574 then t574 else x3_1) = ji6 := hji6
        by_cases c7 : (ji6) < 0
        · rw [if_pos c7] at H
          have c7b0 : decide ((ji6) < 0) = true := decide_eq_true c7
          clear c7
          obtain rfl := Option.some.inj H
          have hcz8_0 : wr.cell? ⟨gb573, 0, none⟩ = some (.slice A0_0 l0_0.length c0_0) := (blk_cell BK573.out 0).trans rfl
          have hcz8_1 : wr.cell? ⟨gb573, 1, none⟩ = some (.slice A0_1 l0_1.length c0_1) := (blk_cell BK573.out 1).trans rfl
          have hfz8_0 := blk_frozen BK573.out 0
          have hfz8_1 := blk_frozen BK573.out 1
          go_wp2_with (first | ((with_reducible refine gate_callee (f := 72) rfl ?_); refine goesL_ (some 14) rfl rfl Try.func72 (by kernel_rfl) rfl #[.agg #[.slice A0_0 l0_0.length c0_0, .slice A0_1 l0_1.length c0_1], .int .i64 x8_1] rfl (by (try simp only [List.map_toArray, List.map_cons, List.map_nil]); first | done | rfl | (simp only [List.length_drop, List.length_take]; rfl)) ?_; (with_reducible refine (graph_Eccentricity.calls k1 _ _ l0_0 _ _ l0_1 x8_1 t574 _ ?side1 ?side2 ?side3 ?side4 A5.out).mono ?_); (case side1 => repeat (first | exact (Kd.C_below HR0_0.out HB.out) | (with_reducible refine Kd.C_alloc ?_ _) | (with_reducible refine Kd.C_drewN ?_ _) | (with_reducible refine Kd.C_drew ?_))); (case side2 => exact HC0_0.out); (case side3 => repeat (first | exact (Kd.C_below HR0_1.out HB.out) | (with_reducible refine Kd.C_alloc ?_ _) | (with_reducible refine Kd.C_drewN ?_ _) | (with_reducible refine Kd.C_drew ?_))); (case side4 => exact HC0_1.out); rintro e w9 ⟨rfl, hb⟩; refine ⟨_, rfl, ?_⟩; have n0_ := Aside0.mk (blk_below (g := gb573) (o := .cells #[.slice A0_0 l0_0.length c0_0, .slice A0_1 l0_1.length c0_1] 26 (0, 0)) (by (with_reducible repeat (first | refine blk_drewN ?_ _ | refine blk_drew ?_ | refine blk_alloc ?_ _)); exact BK573.out) hb); have n1_ := Aside0.mk (below_step (by repeat (first | (with_reducible first | exact HB.out | apply below_alloc | apply pw_below_drewN | apply below_drew1 | refine below_set ?_ GE573.out) | exact HB.out)) hb); clear BK573; clear HB; have BK573 := n0_; have HB := n1_; clear n0_ n1_; (try clear hb); (try clear hb2); (try clear hk); (try clear hi)))
          go_ret
          exact ⟨by first | rfl | (simp [errW_none, errW_some] <;> rfl) | (simp only [← hji6]; first | rfl | (simp [errW_none, errW_some] <;> rfl)) | (simp [*, errW_none, errW_some] <;> rfl), by repeat (first | (with_reducible first | exact HB.out | apply below_alloc | apply pw_below_drewN | apply below_drew1 | refine below_set ?_ GE573.out) | exact HB.out)⟩
        · rw [if_neg c7] at H
          have c7b0 : decide ((ji6) < 0) = false := decide_eq_false c7
          clear c7
          have H' := Aside0.mk H
          clear H
          have hcz10_0 : wr.cell? ⟨gb573, 0, none⟩ = some (.slice A0_0 l0_0.length c0_0) := (blk_cell BK573.out 0).trans rfl
          have hcz10_1 : wr.cell? ⟨gb573, 1, none⟩ = some (.slice A0_1 l0_1.length c0_1) := (blk_cell BK573.out 1).trans rfl
          have hfz10_0 := blk_frozen BK573.out 0
          have hfz10_1 := blk_frozen BK573.out 1
          go_wp2_with (first | ((with_reducible refine gate_callee (f := 72) rfl ?_); refine goesL_ (some 14) rfl rfl Try.func72 (by kernel_rfl) rfl #[.agg #[.slice A0_0 l0_0.length c0_0, .slice A0_1 l0_1.length c0_1], .int .i64 x8_1] rfl (by (try simp only [List.map_toArray, List.map_cons, List.map_nil]); first | done | rfl | (simp only [List.length_drop, List.length_take]; rfl)) ?_; (with_reducible refine (graph_Eccentricity.calls k1 _ _ l0_0 _ _ l0_1 x8_1 t574 _ ?side1 ?side2 ?side3 ?side4 A5.out).mono ?_); (case side1 => repeat (first | exact (Kd.C_below HR0_0.out HB.out) | (with_reducible refine Kd.C_alloc ?_ _) | (with_reducible refine Kd.C_drewN ?_ _) | (with_reducible refine Kd.C_drew ?_))); (case side2 => exact HC0_0.out); (case side3 => repeat (first | exact (Kd.C_below HR0_1.out HB.out) | (with_reducible refine Kd.C_alloc ?_ _) | (with_reducible refine Kd.C_drewN ?_ _) | (with_reducible refine Kd.C_drew ?_))); (case side4 => exact HC0_1.out); rintro e w11 ⟨rfl, hb⟩; refine ⟨_, rfl, ?_⟩; have n0_ := Aside0.mk (blk_below (g := gb573) (o := .cells #[.slice A0_0 l0_0.length c0_0, .slice A0_1 l0_1.length c0_1] 26 (0, 0)) (by (with_reducible repeat (first | refine blk_drewN ?_ _ | refine blk_drew ?_ | refine blk_alloc ?_ _)); exact BK573.out) hb); have n1_ := Aside0.mk (below_step (by repeat (first | (with_reducible first | exact HB.out | apply below_alloc | apply pw_below_drewN | apply below_drew1 | refine below_set ?_ GE573.out) | exact HB.out)) hb); clear BK573; clear HB; have BK573 := n0_; have HB := n1_; clear n0_ n1_; (try clear hb); (try clear hb2); (try clear hk); (try clear hi)))
          go_roundg k1
          case measure => have := HK1.out; omega
          case rel => exact ⟨(ji6), (wrap64 (x8_1 + 1)), (by first | rfl | (simp; done) | (simp only [← hji6] <;> (first | rfl | simp)) | (simp [*]; done)), (by first | rfl | (simp; done) | (simp [*]; done)), H', ⟨by have := HK1.out; omega⟩, ⟨by (with_reducible repeat (first | refine blk_drewN ?_ _ | refine blk_drew ?_ | refine blk_alloc ?_ _)); exact BK573.out⟩, ⟨by repeat (first | (with_reducible first | exact HB.out | apply below_alloc | apply pw_below_drewN | apply below_drew1 | refine below_set ?_ GE573.out) | exact HB.out)⟩⟩
      · rw [if_neg c4] at H
        have c4b0 : decide (x8_1 < (l0_1.length : Int)) = false := decide_eq_false c4
        clear c4
        obtain rfl := Option.some.inj H
        go_wp2
        go_ret
        exact ⟨by first | rfl | (simp [errW_none, errW_some] <;> rfl) | (simp [*, errW_none, errW_some] <;> rfl), by repeat (first | (with_reducible first | exact HB.out | apply below_alloc | apply pw_below_drewN | apply below_drew1 | refine below_set ?_ GE573.out) | exact HB.out)⟩

/-! ### selfstablaw03_shape: function 39 -/
def selfstablaw03_shape.f (k : Nat) (l0_0 : List Int) (l0_1 : List (List (S50))) (a1 : Int) (a2 : Int) (a3 : Int) : Option (Bool) := (graph_Size.f k l0_0 l0_1).bind fun bt576 => ((graph_Valid.f l0_0 l0_1).bind fun t578 => (if t578 = true then (if bt576.1 = a1 then (if bt576.2 = a2 then ((graph_Diameter.f k l0_0 l0_1).bind fun t579 => (some (t579 == a3))) else (some false)) else (some false)) else (some false)))
theorem selfstablaw03_shape.mono : ∀ a0 a1 a2 a3 a4 k, LeO (selfstablaw03_shape.f k a0 a1 a2 a3 a4) (selfstablaw03_shape.f (k + 1) a0 a1 a2 a3 a4) := by
  intro a0 a1 a2 a3 a4 k
  unfold selfstablaw03_shape.f
  repeat' first
      | (with_reducible exact graph_Diameter.mono _ _ _)
      | (with_reducible exact graph_Size.mono _ _ _)
      | (with_reducible exact LeO.refl _)
      | (with_reducible exact LeO.none _)
      | (with_reducible refine LeO.ite ?_ ?_)
      | (with_reducible refine LeO.bind ?_ (fun _ => ?_))
      | exact graph_Diameter.mono _ _ _
      | exact graph_Size.mono _ _ _
      | exact LeO.none _
      | refine LeO.ite ?_ ?_
      | refine LeO.bind ?_ (fun _ => ?_)
set_option maxHeartbeats 8000000 in
set_option maxRecDepth 100000 in
theorem selfstablaw03_shape.calls (k : Nat) (A0_0 : Option Addr) (c0_0 : Nat) (l0_0 : List Int) (A0_1 : Option Addr) (c0_1 : Nat) (l0_1 : List (List (S50))) (a1 : Int) (a2 : Int) (a3 : Int) (r : Bool) (w : World) (hr0_0 : Kd.C (Kd.int .i64) w A0_0 l0_0.length l0_0) (hc0_0 : l0_0.length ≤ c0_0) (hr0_1 : Kd.C (Kd.slice 50 k50) w A0_1 l0_1.length l0_1) (hc0_1 : l0_1.length ≤ c0_1) (h : selfstablaw03_shape.f k l0_0 l0_1 a1 a2 a3 = some r) :
    Calls Try.prog 39 #[.agg #[.slice A0_0 l0_0.length c0_0, .slice A0_1 l0_1.length c0_1], .int .i64 a1, .int .i64 a2, .int .i64 a3] w fun e w' => e = .returned (.bool r) ∧ Below w.heap.size w w' := by
  have hu26 := Try.underlying26
  have HR0_0 := Aside0.mk hr0_0
  have HC0_0 := Aside0.mk hc0_0
  clear hr0_0 hc0_0
  have HR0_1 := Aside0.mk hr0_1
  have HC0_1 := Aside0.mk hc0_1
  clear hr0_1 hc0_1
  have HB := Aside0.mk (Below.refl w.heap.size w)
  have H : ((graph_Size.f k l0_0 l0_1).bind fun bt576 => ((graph_Valid.f l0_0 l0_1).bind fun t578 => (if t578 = true then (if bt576.1 = a1 then (if bt576.2 = a2 then ((graph_Diameter.f k l0_0 l0_1).bind fun t579 => (some (t579 == a3))) else (some false)) else (some false)) else (some false)))) = some r := h
  clear h
  replace H := Option.bind_eq_some_iff.mp H
  obtain ⟨⟨t576, t577⟩, A50, H⟩ := H
  replace H : ((graph_Valid.f l0_0 l0_1).bind fun t578 => (if t578 = true then (if t576 = a1 then (if t577 = a2 then ((graph_Diameter.f k l0_0 l0_1).bind fun t579 => (some (t579 == a3))) else (some false)) else (some false)) else (some false))) = some r := H
  have A5 := Aside0.mk A50
  clear A50
  replace H := Option.bind_eq_some_iff.mp H
  obtain ⟨t578, A60, H⟩ := H
  replace H : (if t578 = true then (if t576 = a1 then (if t577 = a2 then ((graph_Diameter.f k l0_0 l0_1).bind fun t579 => (some (t579 == a3))) else (some false)) else (some false)) else (some false)) = some r := H
  have A6 := Aside0.mk A60
  clear A60
  by_cases c7 : t578 = true
  · subst c7
    have H1 : (if t576 = a1 then (if t577 = a2 then ((graph_Diameter.f k l0_0 l0_1).bind fun t579 => (some (t579 == a3))) else (some false)) else (some false)) = some r := by rw [if_pos rfl] at H; exact H
    clear H
    have H := H1
    clear H1
    by_cases c8 : t576 = a1
    · rw [if_pos c8] at H
      have c8b0 : (t576 == a1) = true := beq_iff_eq.mpr c8
      have c8b1 : (t576 != a1) = false := bne_eq_false_iff_eq.mpr c8
      clear c8
      by_cases c9 : t577 = a2
      · rw [if_pos c9] at H
        have c9b0 : (t577 == a2) = true := beq_iff_eq.mpr c9
        have c9b1 : (t577 != a2) = false := bne_eq_false_iff_eq.mpr c9
        clear c9
        replace H := Option.bind_eq_some_iff.mp H
        obtain ⟨t579, A100, H⟩ := H
        replace H : (some (t579 == a3)) = some r := H
        have A10 := Aside0.mk A100
        clear A100
        obtain rfl := Option.some.inj H
        go_enter Try.func39, Try.ntmps39
        go_wp2_with (first | ((with_reducible refine gate_dst (N := 4) rfl ?_); refine box_event ?hg (N := 4) ?hd (cs := #[.slice A0_0 l0_0.length c0_0, .slice A0_1 l0_1.length c0_1]) (t := 26) ?hr ?_; (case hd => rfl); (case hg => rfl); (case hr => first | (go_simp; done) | (go_simp; rfl)); intro gb575 hg w11 hbox hb; have n0_ := Aside0.mk (below_step (by repeat (first | (with_reducible first | exact HB.out | apply below_alloc | apply pw_below_drewN | apply below_drew1) | exact HB.out)) hb); have n1_ := Aside0.mk (hbox); have n2_ := Aside0.mk ((by rw [hg]; exact (below_size (by repeat (first | (with_reducible first | exact HB.out | apply below_alloc | apply pw_below_drewN | apply below_drew1) | exact HB.out))) : w.heap.size ≤ gb575)); have n3_ := Aside0.mk ((by rw [hg]; exact (below_size (by repeat (first | (with_reducible first | exact HB.out | apply below_alloc | apply pw_below_drewN | apply below_drew1) | exact HB.out))) : w.heap.size ≤ gb575)); clear HB; have HB := n0_; have BK575 := n1_; have GW575 := n2_; have GE575 := n3_; clear n0_ n1_ n2_ n3_; clear hb hbox hg; have hcz12_0 : w11.cell? ⟨gb575, 0, none⟩ = some (.slice A0_0 l0_0.length c0_0) := (blk_cell BK575.out 0).trans rfl; have hcz12_1 : w11.cell? ⟨gb575, 1, none⟩ = some (.slice A0_1 l0_1.length c0_1) := (blk_cell BK575.out 1).trans rfl; have hfz12_0 := blk_frozen BK575.out 0; have hfz12_1 := blk_frozen BK575.out 1) | ((with_reducible refine gate_callee (f := 64) rfl ?_); refine goesL_ (some 13) rfl rfl Try.func64 (by kernel_rfl) rfl #[.agg #[.slice A0_0 l0_0.length c0_0, .slice A0_1 l0_1.length c0_1]] rfl (by (try simp only [List.map_toArray, List.map_cons, List.map_nil]); first | done | rfl | (simp only [List.length_drop, List.length_take]; rfl)) ?_; (with_reducible refine (graph_Size.calls k _ _ l0_0 _ _ l0_1 t576 t577 _ ?side1 ?side2 ?side3 ?side4 A5.out).mono ?_); (case side1 => repeat (first | exact (Kd.C_below HR0_0.out HB.out) | (with_reducible refine Kd.C_alloc ?_ _) | (with_reducible refine Kd.C_drewN ?_ _) | (with_reducible refine Kd.C_drew ?_))); (case side2 => exact HC0_0.out); (case side3 => repeat (first | exact (Kd.C_below HR0_1.out HB.out) | (with_reducible refine Kd.C_alloc ?_ _) | (with_reducible refine Kd.C_drewN ?_ _) | (with_reducible refine Kd.C_drew ?_))); (case side4 => exact HC0_1.out); rintro e w13 ⟨rfl, hb⟩; refine ⟨_, rfl, ?_⟩; have n0_ := Aside0.mk (blk_below (g := gb575) (o := .cells #[.slice A0_0 l0_0.length c0_0, .slice A0_1 l0_1.length c0_1] 26 (0, 0)) (by (with_reducible repeat (first | refine blk_drewN ?_ _ | refine blk_drew ?_ | refine blk_alloc ?_ _)); exact BK575.out) hb); have n1_ := Aside0.mk (below_step (by repeat (first | (with_reducible first | exact HB.out | apply below_alloc | apply pw_below_drewN | apply below_drew1 | refine below_set ?_ GE575.out) | exact HB.out)) hb); clear BK575; clear HB; have BK575 := n0_; have HB := n1_; clear n0_ n1_; (try clear hb); (try clear hb2); (try clear hk); (try clear hi); have hcz14_0 : w13.cell? ⟨gb575, 0, none⟩ = some (.slice A0_0 l0_0.length c0_0) := (blk_cell BK575.out 0).trans rfl; have hcz14_1 : w13.cell? ⟨gb575, 1, none⟩ = some (.slice A0_1 l0_1.length c0_1) := (blk_cell BK575.out 1).trans rfl; have hfz14_0 := blk_frozen BK575.out 0; have hfz14_1 := blk_frozen BK575.out 1) | ((with_reducible refine gate_callee (f := 50) rfl ?_); refine goesL_ (some 17) rfl rfl Try.func50 (by kernel_rfl) rfl #[.agg #[.slice A0_0 l0_0.length c0_0, .slice A0_1 l0_1.length c0_1]] rfl (by (try simp only [List.map_toArray, List.map_cons, List.map_nil]); first | done | rfl | (simp only [List.length_drop, List.length_take]; rfl)) ?_; (with_reducible refine (graph_Valid.calls _ _ l0_0 _ _ l0_1 true _ ?side1 ?side2 ?side3 ?side4 A6.out).mono ?_); (case side1 => repeat (first | exact (Kd.C_below HR0_0.out HB.out) | (with_reducible refine Kd.C_alloc ?_ _) | (with_reducible refine Kd.C_drewN ?_ _) | (with_reducible refine Kd.C_drew ?_))); (case side2 => exact HC0_0.out); (case side3 => repeat (first | exact (Kd.C_below HR0_1.out HB.out) | (with_reducible refine Kd.C_alloc ?_ _) | (with_reducible refine Kd.C_drewN ?_ _) | (with_reducible refine Kd.C_drew ?_))); (case side4 => exact HC0_1.out); rintro e w15 ⟨rfl, hb⟩; refine ⟨_, rfl, ?_⟩; have n0_ := Aside0.mk (blk_below (g := gb575) (o := .cells #[.slice A0_0 l0_0.length c0_0, .slice A0_1 l0_1.length c0_1] 26 (0, 0)) (by (with_reducible repeat (first | refine blk_drewN ?_ _ | refine blk_drew ?_ | refine blk_alloc ?_ _)); exact BK575.out) hb); have n1_ := Aside0.mk (below_step (by repeat (first | (with_reducible first | exact HB.out | apply below_alloc | apply pw_below_drewN | apply below_drew1 | refine below_set ?_ GE575.out) | exact HB.out)) hb); clear BK575; clear HB; have BK575 := n0_; have HB := n1_; clear n0_ n1_; (try clear hb); (try clear hb2); (try clear hk); (try clear hi); have hcz16_0 : w15.cell? ⟨gb575, 0, none⟩ = some (.slice A0_0 l0_0.length c0_0) := (blk_cell BK575.out 0).trans rfl; have hcz16_1 : w15.cell? ⟨gb575, 1, none⟩ = some (.slice A0_1 l0_1.length c0_1) := (blk_cell BK575.out 1).trans rfl; have hfz16_0 := blk_frozen BK575.out 0; have hfz16_1 := blk_frozen BK575.out 1) | (go_at_call 66; (with_reducible refine (graph_Diameter.calls k _ _ l0_0 _ _ l0_1 t579 _ ?side1 ?side2 ?side3 ?side4 A10.out).mono ?_); (case side1 => repeat (first | exact (Kd.C_below HR0_0.out HB.out) | (with_reducible refine Kd.C_alloc ?_ _) | (with_reducible refine Kd.C_drewN ?_ _) | (with_reducible refine Kd.C_drew ?_))); (case side2 => exact HC0_0.out); (case side3 => repeat (first | exact (Kd.C_below HR0_1.out HB.out) | (with_reducible refine Kd.C_alloc ?_ _) | (with_reducible refine Kd.C_drewN ?_ _) | (with_reducible refine Kd.C_drew ?_))); (case side4 => exact HC0_1.out); rintro e w17 ⟨rfl, hb⟩; have n0_ := Aside0.mk (blk_below (g := gb575) (o := .cells #[.slice A0_0 l0_0.length c0_0, .slice A0_1 l0_1.length c0_1] 26 (0, 0)) (by (with_reducible repeat (first | refine blk_drewN ?_ _ | refine blk_drew ?_ | refine blk_alloc ?_ _)); exact BK575.out) hb); have n1_ := Aside0.mk (below_step (by repeat (first | (with_reducible first | exact HB.out | apply below_alloc | apply pw_below_drewN | apply below_drew1 | refine below_set ?_ GE575.out) | exact HB.out)) hb); clear BK575; clear HB; have BK575 := n0_; have HB := n1_; clear n0_ n1_; (try clear hb); (try clear hb2); (try clear hk); (try clear hi)))
        go_ret
        exact ⟨by first | rfl | (simp [errW_none, errW_some] <;> rfl) | (simp [*, errW_none, errW_some] <;> rfl), by repeat (first | (with_reducible first | exact HB.out | apply below_alloc | apply pw_below_drewN | apply below_drew1 | refine below_set ?_ GE575.out) | exact HB.out)⟩
      · rw [if_neg c9] at H
        have c9b0 : (t577 == a2) = false := beq_eq_false_iff_ne.mpr c9
        have c9b1 : (t577 != a2) = true := bne_iff_ne.mpr c9
        obtain rfl := Option.some.inj H
        go_enter Try.func39, Try.ntmps39
        go_wp2_with (first | ((with_reducible refine gate_dst (N := 4) rfl ?_); refine box_event ?hg (N := 4) ?hd (cs := #[.slice A0_0 l0_0.length c0_0, .slice A0_1 l0_1.length c0_1]) (t := 26) ?hr ?_; (case hd => rfl); (case hg => rfl); (case hr => first | (go_simp; done) | (go_simp; rfl)); intro gb575 hg w18 hbox hb; have n0_ := Aside0.mk (below_step (by repeat (first | (with_reducible first | exact HB.out | apply below_alloc | apply pw_below_drewN | apply below_drew1) | exact HB.out)) hb); have n1_ := Aside0.mk (hbox); have n2_ := Aside0.mk ((by rw [hg]; exact (below_size (by repeat (first | (with_reducible first | exact HB.out | apply below_alloc | apply pw_below_drewN | apply below_drew1) | exact HB.out))) : w.heap.size ≤ gb575)); have n3_ := Aside0.mk ((by rw [hg]; exact (below_size (by repeat (first | (with_reducible first | exact HB.out | apply below_alloc | apply pw_below_drewN | apply below_drew1) | exact HB.out))) : w.heap.size ≤ gb575)); clear HB; have HB := n0_; have BK575 := n1_; have GW575 := n2_; have GE575 := n3_; clear n0_ n1_ n2_ n3_; clear hb hbox hg; have hcz19_0 : w18.cell? ⟨gb575, 0, none⟩ = some (.slice A0_0 l0_0.length c0_0) := (blk_cell BK575.out 0).trans rfl; have hcz19_1 : w18.cell? ⟨gb575, 1, none⟩ = some (.slice A0_1 l0_1.length c0_1) := (blk_cell BK575.out 1).trans rfl; have hfz19_0 := blk_frozen BK575.out 0; have hfz19_1 := blk_frozen BK575.out 1) | ((with_reducible refine gate_callee (f := 64) rfl ?_); refine goesL_ (some 13) rfl rfl Try.func64 (by kernel_rfl) rfl #[.agg #[.slice A0_0 l0_0.length c0_0, .slice A0_1 l0_1.length c0_1]] rfl (by (try simp only [List.map_toArray, List.map_cons, List.map_nil]); first | done | rfl | (simp only [List.length_drop, List.length_take]; rfl)) ?_; (with_reducible refine (graph_Size.calls k _ _ l0_0 _ _ l0_1 t576 t577 _ ?side1 ?side2 ?side3 ?side4 A5.out).mono ?_); (case side1 => repeat (first | exact (Kd.C_below HR0_0.out HB.out) | (with_reducible refine Kd.C_alloc ?_ _) | (with_reducible refine Kd.C_drewN ?_ _) | (with_reducible refine Kd.C_drew ?_))); (case side2 => exact HC0_0.out); (case side3 => repeat (first | exact (Kd.C_below HR0_1.out HB.out) | (with_reducible refine Kd.C_alloc ?_ _) | (with_reducible refine Kd.C_drewN ?_ _) | (with_reducible refine Kd.C_drew ?_))); (case side4 => exact HC0_1.out); rintro e w20 ⟨rfl, hb⟩; refine ⟨_, rfl, ?_⟩; have n0_ := Aside0.mk (blk_below (g := gb575) (o := .cells #[.slice A0_0 l0_0.length c0_0, .slice A0_1 l0_1.length c0_1] 26 (0, 0)) (by (with_reducible repeat (first | refine blk_drewN ?_ _ | refine blk_drew ?_ | refine blk_alloc ?_ _)); exact BK575.out) hb); have n1_ := Aside0.mk (below_step (by repeat (first | (with_reducible first | exact HB.out | apply below_alloc | apply pw_below_drewN | apply below_drew1 | refine below_set ?_ GE575.out) | exact HB.out)) hb); clear BK575; clear HB; have BK575 := n0_; have HB := n1_; clear n0_ n1_; (try clear hb); (try clear hb2); (try clear hk); (try clear hi); have hcz21_0 : w20.cell? ⟨gb575, 0, none⟩ = some (.slice A0_0 l0_0.length c0_0) := (blk_cell BK575.out 0).trans rfl; have hcz21_1 : w20.cell? ⟨gb575, 1, none⟩ = some (.slice A0_1 l0_1.length c0_1) := (blk_cell BK575.out 1).trans rfl; have hfz21_0 := blk_frozen BK575.out 0; have hfz21_1 := blk_frozen BK575.out 1) | ((with_reducible refine gate_callee (f := 50) rfl ?_); refine goesL_ (some 17) rfl rfl Try.func50 (by kernel_rfl) rfl #[.agg #[.slice A0_0 l0_0.length c0_0, .slice A0_1 l0_1.length c0_1]] rfl (by (try simp only [List.map_toArray, List.map_cons, List.map_nil]); first | done | rfl | (simp only [List.length_drop, List.length_take]; rfl)) ?_; (with_reducible refine (graph_Valid.calls _ _ l0_0 _ _ l0_1 true _ ?side1 ?side2 ?side3 ?side4 A6.out).mono ?_); (case side1 => repeat (first | exact (Kd.C_below HR0_0.out HB.out) | (with_reducible refine Kd.C_alloc ?_ _) | (with_reducible refine Kd.C_drewN ?_ _) | (with_reducible refine Kd.C_drew ?_))); (case side2 => exact HC0_0.out); (case side3 => repeat (first | exact (Kd.C_below HR0_1.out HB.out) | (with_reducible refine Kd.C_alloc ?_ _) | (with_reducible refine Kd.C_drewN ?_ _) | (with_reducible refine Kd.C_drew ?_))); (case side4 => exact HC0_1.out); rintro e w22 ⟨rfl, hb⟩; refine ⟨_, rfl, ?_⟩; have n0_ := Aside0.mk (blk_below (g := gb575) (o := .cells #[.slice A0_0 l0_0.length c0_0, .slice A0_1 l0_1.length c0_1] 26 (0, 0)) (by (with_reducible repeat (first | refine blk_drewN ?_ _ | refine blk_drew ?_ | refine blk_alloc ?_ _)); exact BK575.out) hb); have n1_ := Aside0.mk (below_step (by repeat (first | (with_reducible first | exact HB.out | apply below_alloc | apply pw_below_drewN | apply below_drew1 | refine below_set ?_ GE575.out) | exact HB.out)) hb); clear BK575; clear HB; have BK575 := n0_; have HB := n1_; clear n0_ n1_; (try clear hb); (try clear hb2); (try clear hk); (try clear hi)))
        go_ret
        exact ⟨by first | rfl | (simp [errW_none, errW_some] <;> rfl) | (simp [*, errW_none, errW_some] <;> rfl), by repeat (first | (with_reducible first | exact HB.out | apply below_alloc | apply pw_below_drewN | apply below_drew1 | refine below_set ?_ GE575.out) | exact HB.out)⟩
    · rw [if_neg c8] at H
      have c8b0 : (t576 == a1) = false := beq_eq_false_iff_ne.mpr c8
      have c8b1 : (t576 != a1) = true := bne_iff_ne.mpr c8
      obtain rfl := Option.some.inj H
      go_enter Try.func39, Try.ntmps39
      go_wp2_with (first | ((with_reducible refine gate_dst (N := 4) rfl ?_); refine box_event ?hg (N := 4) ?hd (cs := #[.slice A0_0 l0_0.length c0_0, .slice A0_1 l0_1.length c0_1]) (t := 26) ?hr ?_; (case hd => rfl); (case hg => rfl); (case hr => first | (go_simp; done) | (go_simp; rfl)); intro gb575 hg w23 hbox hb; have n0_ := Aside0.mk (below_step (by repeat (first | (with_reducible first | exact HB.out | apply below_alloc | apply pw_below_drewN | apply below_drew1) | exact HB.out)) hb); have n1_ := Aside0.mk (hbox); have n2_ := Aside0.mk ((by rw [hg]; exact (below_size (by repeat (first | (with_reducible first | exact HB.out | apply below_alloc | apply pw_below_drewN | apply below_drew1) | exact HB.out))) : w.heap.size ≤ gb575)); have n3_ := Aside0.mk ((by rw [hg]; exact (below_size (by repeat (first | (with_reducible first | exact HB.out | apply below_alloc | apply pw_below_drewN | apply below_drew1) | exact HB.out))) : w.heap.size ≤ gb575)); clear HB; have HB := n0_; have BK575 := n1_; have GW575 := n2_; have GE575 := n3_; clear n0_ n1_ n2_ n3_; clear hb hbox hg; have hcz24_0 : w23.cell? ⟨gb575, 0, none⟩ = some (.slice A0_0 l0_0.length c0_0) := (blk_cell BK575.out 0).trans rfl; have hcz24_1 : w23.cell? ⟨gb575, 1, none⟩ = some (.slice A0_1 l0_1.length c0_1) := (blk_cell BK575.out 1).trans rfl; have hfz24_0 := blk_frozen BK575.out 0; have hfz24_1 := blk_frozen BK575.out 1) | ((with_reducible refine gate_callee (f := 64) rfl ?_); refine goesL_ (some 13) rfl rfl Try.func64 (by kernel_rfl) rfl #[.agg #[.slice A0_0 l0_0.length c0_0, .slice A0_1 l0_1.length c0_1]] rfl (by (try simp only [List.map_toArray, List.map_cons, List.map_nil]); first | done | rfl | (simp only [List.length_drop, List.length_take]; rfl)) ?_; (with_reducible refine (graph_Size.calls k _ _ l0_0 _ _ l0_1 t576 t577 _ ?side1 ?side2 ?side3 ?side4 A5.out).mono ?_); (case side1 => repeat (first | exact (Kd.C_below HR0_0.out HB.out) | (with_reducible refine Kd.C_alloc ?_ _) | (with_reducible refine Kd.C_drewN ?_ _) | (with_reducible refine Kd.C_drew ?_))); (case side2 => exact HC0_0.out); (case side3 => repeat (first | exact (Kd.C_below HR0_1.out HB.out) | (with_reducible refine Kd.C_alloc ?_ _) | (with_reducible refine Kd.C_drewN ?_ _) | (with_reducible refine Kd.C_drew ?_))); (case side4 => exact HC0_1.out); rintro e w25 ⟨rfl, hb⟩; refine ⟨_, rfl, ?_⟩; have n0_ := Aside0.mk (blk_below (g := gb575) (o := .cells #[.slice A0_0 l0_0.length c0_0, .slice A0_1 l0_1.length c0_1] 26 (0, 0)) (by (with_reducible repeat (first | refine blk_drewN ?_ _ | refine blk_drew ?_ | refine blk_alloc ?_ _)); exact BK575.out) hb); have n1_ := Aside0.mk (below_step (by repeat (first | (with_reducible first | exact HB.out | apply below_alloc | apply pw_below_drewN | apply below_drew1 | refine below_set ?_ GE575.out) | exact HB.out)) hb); clear BK575; clear HB; have BK575 := n0_; have HB := n1_; clear n0_ n1_; (try clear hb); (try clear hb2); (try clear hk); (try clear hi); have hcz26_0 : w25.cell? ⟨gb575, 0, none⟩ = some (.slice A0_0 l0_0.length c0_0) := (blk_cell BK575.out 0).trans rfl; have hcz26_1 : w25.cell? ⟨gb575, 1, none⟩ = some (.slice A0_1 l0_1.length c0_1) := (blk_cell BK575.out 1).trans rfl; have hfz26_0 := blk_frozen BK575.out 0; have hfz26_1 := blk_frozen BK575.out 1) | ((with_reducible refine gate_callee (f := 50) rfl ?_); refine goesL_ (some 17) rfl rfl Try.func50 (by kernel_rfl) rfl #[.agg #[.slice A0_0 l0_0.length c0_0, .slice A0_1 l0_1.length c0_1]] rfl (by (try simp only [List.map_toArray, List.map_cons, List.map_nil]); first | done | rfl | (simp only [List.length_drop, List.length_take]; rfl)) ?_; (with_reducible refine (graph_Valid.calls _ _ l0_0 _ _ l0_1 true _ ?side1 ?side2 ?side3 ?side4 A6.out).mono ?_); (case side1 => repeat (first | exact (Kd.C_below HR0_0.out HB.out) | (with_reducible refine Kd.C_alloc ?_ _) | (with_reducible refine Kd.C_drewN ?_ _) | (with_reducible refine Kd.C_drew ?_))); (case side2 => exact HC0_0.out); (case side3 => repeat (first | exact (Kd.C_below HR0_1.out HB.out) | (with_reducible refine Kd.C_alloc ?_ _) | (with_reducible refine Kd.C_drewN ?_ _) | (with_reducible refine Kd.C_drew ?_))); (case side4 => exact HC0_1.out); rintro e w27 ⟨rfl, hb⟩; refine ⟨_, rfl, ?_⟩; have n0_ := Aside0.mk (blk_below (g := gb575) (o := .cells #[.slice A0_0 l0_0.length c0_0, .slice A0_1 l0_1.length c0_1] 26 (0, 0)) (by (with_reducible repeat (first | refine blk_drewN ?_ _ | refine blk_drew ?_ | refine blk_alloc ?_ _)); exact BK575.out) hb); have n1_ := Aside0.mk (below_step (by repeat (first | (with_reducible first | exact HB.out | apply below_alloc | apply pw_below_drewN | apply below_drew1 | refine below_set ?_ GE575.out) | exact HB.out)) hb); clear BK575; clear HB; have BK575 := n0_; have HB := n1_; clear n0_ n1_; (try clear hb); (try clear hb2); (try clear hk); (try clear hi)))
      go_ret
      exact ⟨by first | rfl | (simp [errW_none, errW_some] <;> rfl) | (simp [*, errW_none, errW_some] <;> rfl), by repeat (first | (with_reducible first | exact HB.out | apply below_alloc | apply pw_below_drewN | apply below_drew1 | refine below_set ?_ GE575.out) | exact HB.out)⟩
  · replace c7 := Bool.eq_false_iff.mpr c7
    subst c7
    have H1 : (some false) = some r := by rw [if_neg (show ¬ (false = true) by decide)] at H; exact H
    clear H
    have H := H1
    clear H1
    obtain rfl := Option.some.inj H
    go_enter Try.func39, Try.ntmps39
    go_wp2_with (first | ((with_reducible refine gate_dst (N := 4) rfl ?_); refine box_event ?hg (N := 4) ?hd (cs := #[.slice A0_0 l0_0.length c0_0, .slice A0_1 l0_1.length c0_1]) (t := 26) ?hr ?_; (case hd => rfl); (case hg => rfl); (case hr => first | (go_simp; done) | (go_simp; rfl)); intro gb575 hg w28 hbox hb; have n0_ := Aside0.mk (below_step (by repeat (first | (with_reducible first | exact HB.out | apply below_alloc | apply pw_below_drewN | apply below_drew1) | exact HB.out)) hb); have n1_ := Aside0.mk (hbox); have n2_ := Aside0.mk ((by rw [hg]; exact (below_size (by repeat (first | (with_reducible first | exact HB.out | apply below_alloc | apply pw_below_drewN | apply below_drew1) | exact HB.out))) : w.heap.size ≤ gb575)); have n3_ := Aside0.mk ((by rw [hg]; exact (below_size (by repeat (first | (with_reducible first | exact HB.out | apply below_alloc | apply pw_below_drewN | apply below_drew1) | exact HB.out))) : w.heap.size ≤ gb575)); clear HB; have HB := n0_; have BK575 := n1_; have GW575 := n2_; have GE575 := n3_; clear n0_ n1_ n2_ n3_; clear hb hbox hg; have hcz29_0 : w28.cell? ⟨gb575, 0, none⟩ = some (.slice A0_0 l0_0.length c0_0) := (blk_cell BK575.out 0).trans rfl; have hcz29_1 : w28.cell? ⟨gb575, 1, none⟩ = some (.slice A0_1 l0_1.length c0_1) := (blk_cell BK575.out 1).trans rfl; have hfz29_0 := blk_frozen BK575.out 0; have hfz29_1 := blk_frozen BK575.out 1) | ((with_reducible refine gate_callee (f := 64) rfl ?_); refine goesL_ (some 13) rfl rfl Try.func64 (by kernel_rfl) rfl #[.agg #[.slice A0_0 l0_0.length c0_0, .slice A0_1 l0_1.length c0_1]] rfl (by (try simp only [List.map_toArray, List.map_cons, List.map_nil]); first | done | rfl | (simp only [List.length_drop, List.length_take]; rfl)) ?_; (with_reducible refine (graph_Size.calls k _ _ l0_0 _ _ l0_1 t576 t577 _ ?side1 ?side2 ?side3 ?side4 A5.out).mono ?_); (case side1 => repeat (first | exact (Kd.C_below HR0_0.out HB.out) | (with_reducible refine Kd.C_alloc ?_ _) | (with_reducible refine Kd.C_drewN ?_ _) | (with_reducible refine Kd.C_drew ?_))); (case side2 => exact HC0_0.out); (case side3 => repeat (first | exact (Kd.C_below HR0_1.out HB.out) | (with_reducible refine Kd.C_alloc ?_ _) | (with_reducible refine Kd.C_drewN ?_ _) | (with_reducible refine Kd.C_drew ?_))); (case side4 => exact HC0_1.out); rintro e w30 ⟨rfl, hb⟩; refine ⟨_, rfl, ?_⟩; have n0_ := Aside0.mk (blk_below (g := gb575) (o := .cells #[.slice A0_0 l0_0.length c0_0, .slice A0_1 l0_1.length c0_1] 26 (0, 0)) (by (with_reducible repeat (first | refine blk_drewN ?_ _ | refine blk_drew ?_ | refine blk_alloc ?_ _)); exact BK575.out) hb); have n1_ := Aside0.mk (below_step (by repeat (first | (with_reducible first | exact HB.out | apply below_alloc | apply pw_below_drewN | apply below_drew1 | refine below_set ?_ GE575.out) | exact HB.out)) hb); clear BK575; clear HB; have BK575 := n0_; have HB := n1_; clear n0_ n1_; (try clear hb); (try clear hb2); (try clear hk); (try clear hi); have hcz31_0 : w30.cell? ⟨gb575, 0, none⟩ = some (.slice A0_0 l0_0.length c0_0) := (blk_cell BK575.out 0).trans rfl; have hcz31_1 : w30.cell? ⟨gb575, 1, none⟩ = some (.slice A0_1 l0_1.length c0_1) := (blk_cell BK575.out 1).trans rfl; have hfz31_0 := blk_frozen BK575.out 0; have hfz31_1 := blk_frozen BK575.out 1) | ((with_reducible refine gate_callee (f := 50) rfl ?_); refine goesL_ (some 17) rfl rfl Try.func50 (by kernel_rfl) rfl #[.agg #[.slice A0_0 l0_0.length c0_0, .slice A0_1 l0_1.length c0_1]] rfl (by (try simp only [List.map_toArray, List.map_cons, List.map_nil]); first | done | rfl | (simp only [List.length_drop, List.length_take]; rfl)) ?_; (with_reducible refine (graph_Valid.calls _ _ l0_0 _ _ l0_1 false _ ?side1 ?side2 ?side3 ?side4 A6.out).mono ?_); (case side1 => repeat (first | exact (Kd.C_below HR0_0.out HB.out) | (with_reducible refine Kd.C_alloc ?_ _) | (with_reducible refine Kd.C_drewN ?_ _) | (with_reducible refine Kd.C_drew ?_))); (case side2 => exact HC0_0.out); (case side3 => repeat (first | exact (Kd.C_below HR0_1.out HB.out) | (with_reducible refine Kd.C_alloc ?_ _) | (with_reducible refine Kd.C_drewN ?_ _) | (with_reducible refine Kd.C_drew ?_))); (case side4 => exact HC0_1.out); rintro e w32 ⟨rfl, hb⟩; refine ⟨_, rfl, ?_⟩; have n0_ := Aside0.mk (blk_below (g := gb575) (o := .cells #[.slice A0_0 l0_0.length c0_0, .slice A0_1 l0_1.length c0_1] 26 (0, 0)) (by (with_reducible repeat (first | refine blk_drewN ?_ _ | refine blk_drew ?_ | refine blk_alloc ?_ _)); exact BK575.out) hb); have n1_ := Aside0.mk (below_step (by repeat (first | (with_reducible first | exact HB.out | apply below_alloc | apply pw_below_drewN | apply below_drew1 | refine below_set ?_ GE575.out) | exact HB.out)) hb); clear BK575; clear HB; have BK575 := n0_; have HB := n1_; clear n0_ n1_; (try clear hb); (try clear hb2); (try clear hk); (try clear hi)))
    go_ret
    exact ⟨by first | rfl | (simp [errW_none, errW_some] <;> rfl) | (simp [*, errW_none, errW_some] <;> rfl), by repeat (first | (with_reducible first | exact HB.out | apply below_alloc | apply pw_below_drewN | apply below_drew1 | refine below_set ?_ GE575.out) | exact HB.out)⟩

end Go.Proofs.Ytilmpkoklkgjeaa.P
