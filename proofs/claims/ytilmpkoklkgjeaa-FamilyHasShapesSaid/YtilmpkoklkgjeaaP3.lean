-- By a program of this session (wip/tools/myprint.py over the kit's printer). Not trusted: Lean checks it.
import Derived.Test.YtilmpkoklkgjeaaP0
import Derived.Test.YtilmpkoklkgjeaaGValid
namespace Go.Proofs.Ytilmpkoklkgjeaa.P
open Go.RowKit Go.Proofs.YtilmpkoklkgjeaaW.PrintWords Go.Proofs.YtilmpkoklkgjeaaW.PrintLast Go.Proofs.YtilmpkoklkgjeaaW.PrintMore
attribute [local go_sem] max2_int min2_int max_two min_two max_three min_three max_four min_four   -- for this text's walks alone
set_option linter.unusedVariables false
set_option linter.unusedSimpArgs false

/-! ### selfstabmade_Mod: function 31 -/
def selfstabmade_Mod.f (a0 : Int) (a1 : Int) : Option (Int) := if a1 = 0 then (none) else (if (Int.tmod a0 a1) < 0 then (some (wrap64 ((Int.tmod a0 a1) + a1))) else (some (Int.tmod a0 a1)))
set_option maxHeartbeats 8000000 in
set_option maxRecDepth 100000 in
theorem selfstabmade_Mod.calls (a0 : Int) (a1 : Int) (r : Int) (w : World) (h : selfstabmade_Mod.f a0 a1 = some r) :
    Calls Try.prog 31 #[.int .i64 a0, .int .i64 a1] w fun e w' => e = .returned (.int .i64 r) ∧ Drawn0 w w' := by
  have H : (if a1 = 0 then (none) else (if (Int.tmod a0 a1) < 0 then (some (wrap64 ((Int.tmod a0 a1) + a1))) else (some (Int.tmod a0 a1)))) = some r := h
  clear h
  by_cases c3 : a1 = 0
  · rw [if_pos c3] at H
    exact absurd H (by simp)
  · rw [if_neg c3] at H
    have c3b0 : (a1 == 0) = false := beq_eq_false_iff_ne.mpr c3
    have c3b1 : (a1 != 0) = true := bne_iff_ne.mpr c3
    by_cases c4 : (Int.tmod a0 a1) < 0
    · rw [if_pos c4] at H
      have c4b0 : decide ((Int.tmod a0 a1) < 0) = true := decide_eq_true c4
      clear c4
      obtain rfl := Option.some.inj H
      go_enter Try.func31, Try.ntmps31
      go_wp2
      go_ret
      exact ⟨by first | rfl | (simp; done) | (simp [*]; done), by repeat (first | exact Drawn0.refl _ | apply Drawn0.step)⟩
    · rw [if_neg c4] at H
      have c4b0 : decide ((Int.tmod a0 a1) < 0) = false := decide_eq_false c4
      clear c4
      obtain rfl := Option.some.inj H
      go_enter Try.func31, Try.ntmps31
      go_wp2
      go_ret
      exact ⟨by first | rfl | (simp; done) | (simp [*]; done), by repeat (first | exact Drawn0.refl _ | apply Drawn0.step)⟩

/-! ### graph_node: function 56 -/
def graph_node.f (l0_0 : List Int) (l0_1 : List (List (S50))) (a1 : Int) : Option (Bool) := if a1 ≥ 0 then (if a1 < (l0_1.length : Int) then ((graph_Valid.f l0_0 l0_1).bind fun t469 => (some t469)) else (some false)) else (some false)
set_option maxHeartbeats 8000000 in
set_option maxRecDepth 100000 in
theorem graph_node.calls (A0_0 : Option Addr) (c0_0 : Nat) (l0_0 : List Int) (A0_1 : Option Addr) (c0_1 : Nat) (l0_1 : List (List (S50))) (a1 : Int) (r : Bool) (w : World) (hr0_0 : Kd.C (Kd.int .i64) w A0_0 l0_0.length l0_0) (hc0_0 : l0_0.length ≤ c0_0) (hr0_1 : Kd.C (Kd.slice 50 k50) w A0_1 l0_1.length l0_1) (hc0_1 : l0_1.length ≤ c0_1) (h : graph_node.f l0_0 l0_1 a1 = some r) :
    Calls Try.prog 56 #[.agg #[.slice A0_0 l0_0.length c0_0, .slice A0_1 l0_1.length c0_1], .int .i64 a1] w fun e w' => e = .returned (.bool r) ∧ Below w.heap.size w w' := by
  have hu26 := Try.underlying26
  have HR0_0 := Aside0.mk hr0_0
  have HC0_0 := Aside0.mk hc0_0
  clear hr0_0 hc0_0
  have HR0_1 := Aside0.mk hr0_1
  have HC0_1 := Aside0.mk hc0_1
  clear hr0_1 hc0_1
  have HB := Aside0.mk (Below.refl w.heap.size w)
  have H : (if a1 ≥ 0 then (if a1 < (l0_1.length : Int) then ((graph_Valid.f l0_0 l0_1).bind fun t469 => (some t469)) else (some false)) else (some false)) = some r := h
  clear h
  by_cases c3 : a1 ≥ 0
  · rw [if_pos c3] at H
    have c3b0 : decide (0 ≤ a1) = true := decide_eq_true c3
    clear c3
    by_cases c4 : a1 < (l0_1.length : Int)
    · rw [if_pos c4] at H
      have c4b0 : decide (a1 < (l0_1.length : Int)) = true := decide_eq_true c4
      clear c4
      replace H := Option.bind_eq_some_iff.mp H
      obtain ⟨t469, A50, H⟩ := H
      replace H : (some t469) = some r := H
      have A5 := Aside0.mk A50
      clear A50
      obtain rfl := Option.some.inj H
      go_enter Try.func56, Try.ntmps56
      go_wp2_with (first | ((with_reducible refine gate_dst (N := 2) rfl ?_); (try (refine gate_guard (by rfl) ?_; dsimp only)); refine box_event ?hg (N := 2) ?hd (cs := #[.slice A0_0 l0_0.length c0_0, .slice A0_1 l0_1.length c0_1]) (t := 26) ?hr ?_; (case hd => rfl); (case hg => rfl); (case hr => first | (go_simp; done) | (go_simp; rfl)); intro gb468 hg w6 hbox hb; have n0_ := Aside0.mk (below_step (by repeat (first | (with_reducible first | exact HB.out | apply below_alloc | apply pw_below_drewN | apply below_drew1) | exact HB.out)) hb); have n1_ := Aside0.mk (hbox); have n2_ := Aside0.mk ((by rw [hg]; exact (below_size (by repeat (first | (with_reducible first | exact HB.out | apply below_alloc | apply pw_below_drewN | apply below_drew1) | exact HB.out))) : w.heap.size ≤ gb468)); have n3_ := Aside0.mk ((by rw [hg]; exact (below_size (by repeat (first | (with_reducible first | exact HB.out | apply below_alloc | apply pw_below_drewN | apply below_drew1) | exact HB.out))) : w.heap.size ≤ gb468)); clear HB; have HB := n0_; have BK468 := n1_; have GW468 := n2_; have GE468 := n3_; clear n0_ n1_ n2_ n3_; clear hb hbox hg; have hcz7_0 : w6.cell? ⟨gb468, 0, none⟩ = some (.slice A0_0 l0_0.length c0_0) := (blk_cell BK468.out 0).trans rfl; have hcz7_1 : w6.cell? ⟨gb468, 1, none⟩ = some (.slice A0_1 l0_1.length c0_1) := (blk_cell BK468.out 1).trans rfl; have hfz7_0 := blk_frozen BK468.out 0; have hfz7_1 := blk_frozen BK468.out 1) | (go_at_call 50; (with_reducible refine (graph_Valid.calls _ _ l0_0 _ _ l0_1 t469 _ ?side1 ?side2 ?side3 ?side4 A5.out).mono ?_); (case side1 => repeat (first | exact (Kd.C_below HR0_0.out HB.out) | (with_reducible refine Kd.C_alloc ?_ _) | (with_reducible refine Kd.C_drewN ?_ _) | (with_reducible refine Kd.C_drew ?_))); (case side2 => exact HC0_0.out); (case side3 => repeat (first | exact (Kd.C_below HR0_1.out HB.out) | (with_reducible refine Kd.C_alloc ?_ _) | (with_reducible refine Kd.C_drewN ?_ _) | (with_reducible refine Kd.C_drew ?_))); (case side4 => exact HC0_1.out); rintro e w8 ⟨rfl, hb⟩; have n0_ := Aside0.mk (blk_below (g := gb468) (o := .cells #[.slice A0_0 l0_0.length c0_0, .slice A0_1 l0_1.length c0_1] 26 (0, 0)) (by (with_reducible repeat (first | refine blk_drewN ?_ _ | refine blk_drew ?_ | refine blk_alloc ?_ _)); exact BK468.out) hb); have n1_ := Aside0.mk (below_step (by repeat (first | (with_reducible first | exact HB.out | apply below_alloc | apply pw_below_drewN | apply below_drew1 | refine below_set ?_ GE468.out) | exact HB.out)) hb); clear BK468; clear HB; have BK468 := n0_; have HB := n1_; clear n0_ n1_; (try clear hb); (try clear hb2); (try clear hk); (try clear hi)))
      go_ret
      exact ⟨by first | rfl | (simp [errW_none, errW_some] <;> rfl) | (simp [*, errW_none, errW_some] <;> rfl), by repeat (first | (with_reducible first | exact HB.out | apply below_alloc | apply pw_below_drewN | apply below_drew1 | refine below_set ?_ GE468.out) | exact HB.out)⟩
    · rw [if_neg c4] at H
      have c4b0 : decide (a1 < (l0_1.length : Int)) = false := decide_eq_false c4
      clear c4
      obtain rfl := Option.some.inj H
      go_enter Try.func56, Try.ntmps56
      go_wp2_with (first | ((with_reducible refine gate_dst (N := 2) rfl ?_); (try (refine gate_guard (by rfl) ?_; dsimp only)); refine box_event ?hg (N := 2) ?hd (cs := #[.slice A0_0 l0_0.length c0_0, .slice A0_1 l0_1.length c0_1]) (t := 26) ?hr ?_; (case hd => rfl); (case hg => rfl); (case hr => first | (go_simp; done) | (go_simp; rfl)); intro gb468 hg w9 hbox hb; have n0_ := Aside0.mk (below_step (by repeat (first | (with_reducible first | exact HB.out | apply below_alloc | apply pw_below_drewN | apply below_drew1) | exact HB.out)) hb); have n1_ := Aside0.mk (hbox); have n2_ := Aside0.mk ((by rw [hg]; exact (below_size (by repeat (first | (with_reducible first | exact HB.out | apply below_alloc | apply pw_below_drewN | apply below_drew1) | exact HB.out))) : w.heap.size ≤ gb468)); have n3_ := Aside0.mk ((by rw [hg]; exact (below_size (by repeat (first | (with_reducible first | exact HB.out | apply below_alloc | apply pw_below_drewN | apply below_drew1) | exact HB.out))) : w.heap.size ≤ gb468)); clear HB; have HB := n0_; have BK468 := n1_; have GW468 := n2_; have GE468 := n3_; clear n0_ n1_ n2_ n3_; clear hb hbox hg; have hcz10_0 : w9.cell? ⟨gb468, 0, none⟩ = some (.slice A0_0 l0_0.length c0_0) := (blk_cell BK468.out 0).trans rfl; have hcz10_1 : w9.cell? ⟨gb468, 1, none⟩ = some (.slice A0_1 l0_1.length c0_1) := (blk_cell BK468.out 1).trans rfl; have hfz10_0 := blk_frozen BK468.out 0; have hfz10_1 := blk_frozen BK468.out 1))
      go_ret
      exact ⟨by first | rfl | (simp [errW_none, errW_some] <;> rfl) | (simp [*, errW_none, errW_some] <;> rfl), by repeat (first | (with_reducible first | exact HB.out | apply below_alloc | apply pw_below_drewN | apply below_drew1 | refine below_set ?_ GE468.out) | exact HB.out)⟩
  · rw [if_neg c3] at H
    have c3b0 : decide (0 ≤ a1) = false := decide_eq_false c3
    clear c3
    obtain rfl := Option.some.inj H
    go_enter Try.func56, Try.ntmps56
    go_wp2_with (first | ((with_reducible refine gate_dst (N := 2) rfl ?_); (try (refine gate_guard (by rfl) ?_; dsimp only)); refine box_event ?hg (N := 2) ?hd (cs := #[.slice A0_0 l0_0.length c0_0, .slice A0_1 l0_1.length c0_1]) (t := 26) ?hr ?_; (case hd => rfl); (case hg => rfl); (case hr => first | (go_simp; done) | (go_simp; rfl)); intro gb468 hg w11 hbox hb; have n0_ := Aside0.mk (below_step (by repeat (first | (with_reducible first | exact HB.out | apply below_alloc | apply pw_below_drewN | apply below_drew1) | exact HB.out)) hb); have n1_ := Aside0.mk (hbox); have n2_ := Aside0.mk ((by rw [hg]; exact (below_size (by repeat (first | (with_reducible first | exact HB.out | apply below_alloc | apply pw_below_drewN | apply below_drew1) | exact HB.out))) : w.heap.size ≤ gb468)); have n3_ := Aside0.mk ((by rw [hg]; exact (below_size (by repeat (first | (with_reducible first | exact HB.out | apply below_alloc | apply pw_below_drewN | apply below_drew1) | exact HB.out))) : w.heap.size ≤ gb468)); clear HB; have HB := n0_; have BK468 := n1_; have GW468 := n2_; have GE468 := n3_; clear n0_ n1_ n2_ n3_; clear hb hbox hg))
    go_ret
    exact ⟨by first | rfl | (simp [errW_none, errW_some] <;> rfl) | (simp [*, errW_none, errW_some] <;> rfl), by repeat (first | (with_reducible first | exact HB.out | apply below_alloc | apply pw_below_drewN | apply below_drew1 | refine below_set ?_ GE468.out) | exact HB.out)⟩

/-! ### graph_around: function 57 -/
def graph_around.l0 : Nat → Int → List (S50) → Int → Int → Option (Int)
  | 0, _, _, _, _ => none
  | k + 1, x5, x12, x13, x14 => if x14 < x13 then (if 0 ≤ x14 then (if x14 < (x12.length : Int) then (if 0 ≤ ((rd_T50 x12 x14).f0) then (graph_around.l0 k (Go.bits .or .u32 x5 (shl .u32 1 ((rd_T50 x12 x14).f0))) x12 x13 (wrap64 (x14 + 1))) else (none)) else (none)) else (none)) else (some x5)
def graph_around.f (k : Nat) (l0_0 : List Int) (l0_1 : List (List (S50))) (a1 : Int) : Option (Int) := if 0 ≤ a1 then (if a1 < (l0_1.length : Int) then (graph_around.l0 k 0 (rd_L2 l0_1 a1) ((rd_L2 l0_1 a1).length : Int) 0) else (none)) else (none)
theorem graph_around.mono_l : ∀ k, (∀ y0 y1 y2 y3, LeO (graph_around.l0 k y0 y1 y2 y3) (graph_around.l0 (k + 1) y0 y1 y2 y3))
  | 0 => fun _ _ _ _ r h => by simp [graph_around.l0] at h
  | k + 1 => by
    have ih0 := graph_around.mono_l k
    · intro y0 y1 y2 y3
      unfold graph_around.l0
      repeat' first
      | (with_reducible exact ih0 _ _ _ _)
      | (with_reducible exact LeO.refl _)
      | (with_reducible exact LeO.none _)
      | (with_reducible refine LeO.ite ?_ ?_)
      | (with_reducible refine LeO.bind ?_ (fun _ => ?_))
      | exact ih0 _ _ _ _
      | exact LeO.none _
      | refine LeO.ite ?_ ?_
      | refine LeO.bind ?_ (fun _ => ?_)
theorem graph_around.mono : ∀ a0 a1 a2 k, LeO (graph_around.f k a0 a1 a2) (graph_around.f (k + 1) a0 a1 a2) := by
  intro a0 a1 a2 k
  have ih0 := graph_around.mono_l k
  unfold graph_around.f
  repeat' first
      | (with_reducible exact ih0 _ _ _ _)
      | (with_reducible exact LeO.refl _)
      | (with_reducible exact LeO.none _)
      | (with_reducible refine LeO.ite ?_ ?_)
      | (with_reducible refine LeO.bind ?_ (fun _ => ?_))
      | exact ih0 _ _ _ _
      | exact LeO.none _
      | refine LeO.ite ?_ ?_
      | refine LeO.bind ?_ (fun _ => ?_)
set_option maxHeartbeats 8000000 in
set_option maxRecDepth 100000 in
theorem graph_around.calls (k : Nat) (A0_0 : Option Addr) (c0_0 : Nat) (l0_0 : List Int) (A0_1 : Option Addr) (c0_1 : Nat) (l0_1 : List (List (S50))) (a1 : Int) (r : Int) (w : World) (hr0_0 : Kd.C (Kd.int .i64) w A0_0 l0_0.length l0_0) (hc0_0 : l0_0.length ≤ c0_0) (hr0_1 : Kd.C (Kd.slice 50 k50) w A0_1 l0_1.length l0_1) (hc0_1 : l0_1.length ≤ c0_1) (h : graph_around.f k l0_0 l0_1 a1 = some r) :
    Calls Try.prog 57 #[.agg #[.slice A0_0 l0_0.length c0_0, .slice A0_1 l0_1.length c0_1], .int .i64 a1] w fun e w' => e = .returned (.int .u32 r) ∧ Below w.heap.size w w' := by
  have hu26 := Try.underlying26
  have hu50 := Try.underlying50
  have HR0_0 := Aside0.mk hr0_0
  have HC0_0 := Aside0.mk hc0_0
  clear hr0_0 hc0_0
  have HR0_1 := Aside0.mk hr0_1
  have HC0_1 := Aside0.mk hc0_1
  clear hr0_1 hc0_1
  have HB := Aside0.mk (Below.refl w.heap.size w)
  have H : (if 0 ≤ a1 then (if a1 < (l0_1.length : Int) then (graph_around.l0 k 0 (rd_L2 l0_1 a1) ((rd_L2 l0_1 a1).length : Int) 0) else (none)) else (none)) = some r := h
  clear h
  by_cases c3 : 0 ≤ a1
  · rw [if_pos c3] at H
    have c3b0 : decide (0 ≤ a1) = true := decide_eq_true c3
    clear c3
    by_cases c4 : a1 < (l0_1.length : Int)
    · rw [if_pos c4] at H
      have c4b0 : decide (a1 < (l0_1.length : Int)) = true := decide_eq_true c4
      clear c4
      have H' := Aside0.mk H
      clear H
      go_enter Try.func57, Try.ntmps57
      go_wp2_with (first | ((with_reducible refine gate_dst (N := 2) rfl ?_); refine box_event ?hg (N := 2) ?hd (cs := #[.slice A0_0 l0_0.length c0_0, .slice A0_1 l0_1.length c0_1]) (t := 26) ?hr ?_; (case hd => rfl); (case hg => rfl); (case hr => first | (go_simp; done) | (go_simp; rfl)); intro gb470 hg w5 hbox hb; have n0_ := Aside0.mk (below_step (by repeat (first | (with_reducible first | exact HB.out | apply below_alloc | apply pw_below_drewN | apply below_drew1) | exact HB.out)) hb); have n1_ := Aside0.mk (hbox); have n2_ := Aside0.mk ((by rw [hg]; exact (below_size (by repeat (first | (with_reducible first | exact HB.out | apply below_alloc | apply pw_below_drewN | apply below_drew1) | exact HB.out))) : w.heap.size ≤ gb470)); have n3_ := Aside0.mk ((by rw [hg]; exact (below_size (by repeat (first | (with_reducible first | exact HB.out | apply below_alloc | apply pw_below_drewN | apply below_drew1) | exact HB.out))) : w.heap.size ≤ gb470)); clear HB; have HB := n0_; have BK470 := n1_; have GW470 := n2_; have GE470 := n3_; clear n0_ n1_ n2_ n3_; clear hb hbox hg; have hcz6_0 : w5.cell? ⟨gb470, 0, none⟩ = some (.slice A0_0 l0_0.length c0_0) := (blk_cell BK470.out 0).trans rfl; have hcz6_1 : w5.cell? ⟨gb470, 1, none⟩ = some (.slice A0_1 l0_1.length c0_1) := (blk_cell BK470.out 1).trans rfl; have hfz6_0 := blk_frozen BK470.out 0; have hfz6_1 := blk_frozen BK470.out 1; have p471 : 0 ≤ (a1 : Int) := of_decide_eq_true (by first | (with_reducible assumption) | assumption); have q471 : a1 < (l0_1.length : Int) := of_decide_eq_true (by first | (with_reducible assumption) | assumption); obtain ⟨ad471, A471_0, c471_0, e471, hx471_0, hl471_0, hi471_0⟩ := at_L2 HR0_1.out a1 p471 q471; cases e471; replace hx471_0 := (HB.out.cell (World.block_lt_of_cell? w _ hx471_0)).trans hx471_0; have HR471_0 := Aside0.mk hi471_0; have HC471_0 := Aside0.mk hl471_0; clear hi471_0 hl471_0; replace p471 := eq_true p471; replace q471 := eq_true q471))
      go_loopg [5, 14] k (fun kq v5 v14 w' => ∃ (x5_1 : Int) (x14_1 : Int), v5 = .int .u32 x5_1 ∧ v14 = .int .i64 x14_1 ∧ Aside0 (graph_around.l0 kq x5_1 (rd_L2 l0_1 a1) ((rd_L2 l0_1 a1).length : Int) x14_1 = some r) ∧ Aside0 (kq ≤ k) ∧ Aside0 (w'.heap[gb470]? = some (.cells #[(.slice A0_0 l0_0.length c0_0), (.slice (some ad471) l0_1.length c0_1)] 26 (0, 0))) ∧ Aside0 (Below w.heap.size w w'))
      case atStart => exact ⟨(0), (0), (by first | rfl | (simp; done) | (simp [*]; done)), (by first | rfl | (simp; done) | (simp [*]; done)), H', ⟨Nat.le_refl _⟩, ⟨by (with_reducible repeat (first | refine blk_drewN ?_ _ | refine blk_drew ?_ | refine blk_alloc ?_ _)); exact BK470.out⟩, ⟨by repeat (first | (with_reducible first | exact HB.out | apply below_alloc | apply pw_below_drewN | apply below_drew1 | refine below_set ?_ GE470.out) | exact HB.out)⟩⟩
      case round =>
        clear H'
        try clear p2
        try clear c3
        try clear c3b0
        try clear c4
        try clear c4b0
        try clear p4
        try clear q4
        try clear hx4
        try clear c5
        try clear hcz6_0
        try clear hcz6_1
        try clear hfz6_0
        try clear hfz6_1
        try clear hx471_0
        try clear p471
        try clear q471
        obtain ⟨x5_1, x14_1, rfl, rfl, HA, HK1, BK470, HB⟩ := hrel
        cases gk with
        | zero => exact absurd HA.out (by simp [graph_around.l0])
        | succ k1 =>
          have H := HA.out
          clear HA
          simp only [graph_around.l0] at H
          by_cases c7 : x14_1 < ((rd_L2 l0_1 a1).length : Int)
          · rw [if_pos c7] at H
            have c7b0 : decide (x14_1 < ((rd_L2 l0_1 a1).length : Int)) = true := decide_eq_true c7
            clear c7
            by_cases c8 : 0 ≤ x14_1
            · rw [if_pos c8] at H
              have c8b0 : decide (0 ≤ x14_1) = true := decide_eq_true c8
              clear c8
              by_cases c9 : x14_1 < ((rd_L2 l0_1 a1).length : Int)
              · rw [if_pos c9] at H
                have c9b0 : decide (x14_1 < ((rd_L2 l0_1 a1).length : Int)) = true := decide_eq_true c9
                clear c9
                by_cases c10 : 0 ≤ ((rd_T50 (rd_L2 l0_1 a1) x14_1).f0)
                · rw [if_pos c10] at H
                  have c10b0 := eq_true c10
                  have c10b1 : decide (0 ≤ ((rd_T50 (rd_L2 l0_1 a1) x14_1).f0)) = true := decide_eq_true c10
                  clear c10
                  obtain ⟨ji11, hji11⟩ : ∃ j_ : Int, (shl .u32 1 ((rd_T50 (rd_L2 l0_1 a1) x14_1).f0)) = j_ := ⟨_, rfl⟩
                  replace H : (graph_around.l0 k1 (Go.bits .or .u32 x5_1 (ji11)) (rd_L2 l0_1 a1) ((rd_L2 l0_1 a1).length : Int) (wrap64 (x14_1 + 1))) = some r := by first | (rw [hji11] at H; exact H) | (simp only [hji11] at H ⊢; exact H)
                  have hji11_ : (IntKind.u32.wrap (1 * 2 ^ min ((rd_T50 (rd_L2 l0_1 a1) x14_1).f0).toNat 32)) = ji11 := hji11
                  have hji11z : ((rd_T50 (rd_L2 l0_1 a1) x14_1).f0) ≤ 32 → (IntKind.u32.wrap (1 * 2 ^ ((rd_T50 (rd_L2 l0_1 a1) x14_1).f0).toNat)) = ji11 := shl_small hji11
                  have hji11u : (IntKind.u32.wrap (2 ^ min ((rd_T50 (rd_L2 l0_1 a1) x14_1).f0).toNat 32)) = ji11 := by have h_ := hji11_; rw [Int.one_mul] at h_; exact h_
                  have hji11v : ((rd_T50 (rd_L2 l0_1 a1) x14_1).f0) ≤ 32 → (IntKind.u32.wrap (2 ^ ((rd_T50 (rd_L2 l0_1 a1) x14_1).f0).toNat)) = ji11 := fun hle_ => by have h_ := hji11z hle_; rw [Int.one_mul] at h_; exact h_
                  have H' := Aside0.mk H
                  clear H
                  have p472 : 0 ≤ (x14_1 : Int) := of_decide_eq_true (by first | (with_reducible assumption) | assumption)
                  have q472 : x14_1 < ((rd_L2 l0_1 a1).length : Int) := of_decide_eq_true (by first | (with_reducible assumption) | assumption)
                  obtain ⟨ad472, e472, hx472_0, hx472_1⟩ := at_T50 HR471_0.out x14_1 p472 q472
                  cases e472
                  replace hx472_0 := (HB.out.cell (World.block_lt_of_cell? w _ hx472_0)).trans hx472_0
                  replace hx472_1 := (HB.out.cell (World.block_lt_of_cell? w _ hx472_1)).trans hx472_1
                  replace p472 := eq_true p472
                  replace q472 := eq_true q472
                  go_wp2_with (first | ((with_reducible refine gate_dst (N := 7) rfl ?_); refine box_event ?hg (N := 7) ?hd (cs := #[.int .i64 0, .int .i64 0]) (t := 50) ?hr ?_; (case hd => rfl); (case hg => rfl); (case hr => first | (go_simp; done) | (go_simp; rfl)); intro gb473 hg w12 hbox hb; have n0_ := Aside0.mk (blk_below (g := gb470) (o := .cells #[.slice A0_0 l0_0.length c0_0, .slice (some ad471) l0_1.length c0_1] 26 (0, 0)) (by (with_reducible repeat (first | refine blk_drewN ?_ _ | refine blk_drew ?_ | refine blk_alloc ?_ _)); exact BK470.out) hb); have n1_ := Aside0.mk (below_step (by repeat (first | (with_reducible first | exact HB.out | apply below_alloc | apply pw_below_drewN | apply below_drew1 | refine below_set ?_ GE470.out) | exact HB.out)) hb); have n2_ := Aside0.mk (hbox); have n3_ := Aside0.mk ((by rw [hg]; exact (below_size (by repeat (first | (with_reducible first | exact HB.out | apply below_alloc | apply pw_below_drewN | apply below_drew1 | refine below_set ?_ GE470.out) | exact HB.out))) : w.heap.size ≤ gb473)); have n4_ := Aside0.mk ((by rw [hg]; exact (below_size (by repeat (first | (with_reducible first | exact HB.out | apply below_alloc | apply pw_below_drewN | apply below_drew1 | refine below_set ?_ GE470.out) | exact HB.out))) : w.heap.size ≤ gb473)); have n5_ := Aside0.mk ((by rw [hg]; exact Nat.ne_of_lt (blk_lt (g := gb470) (o := .cells #[.slice A0_0 l0_0.length c0_0, .slice (some ad471) l0_1.length c0_1] 26 (0, 0)) (by (with_reducible repeat (first | refine blk_drewN ?_ _ | refine blk_drew ?_ | refine blk_alloc ?_ _)); exact BK470.out)) : gb470 ≠ gb473)); have n6_ := Aside0.mk ((by rw [hg]; exact Nat.ne_of_gt (blk_lt (g := gb470) (o := .cells #[.slice A0_0 l0_0.length c0_0, .slice (some ad471) l0_1.length c0_1] 26 (0, 0)) (by (with_reducible repeat (first | refine blk_drewN ?_ _ | refine blk_drew ?_ | refine blk_alloc ?_ _)); exact BK470.out)) : gb473 ≠ gb470)); clear BK470; clear HB; have BK470 := n0_; have HB := n1_; have BK473 := n2_; have GW473 := n3_; have GE473 := n4_; have NB470_473 := n5_; have NB473_470 := n6_; clear n0_ n1_ n2_ n3_ n4_ n5_ n6_; clear hb hbox hg; have hnb13 := NB473_470.out; have hnc13 := NB470_473.out; have hcz14_0 : w12.cell? ⟨gb473, 0, none⟩ = some (.int .i64 0) := (blk_cell BK473.out 0).trans rfl; have hcz14_1 : w12.cell? ⟨gb473, 1, none⟩ = some (.int .i64 0) := (blk_cell BK473.out 1).trans rfl; have hfz14_0 := blk_frozen BK473.out 0; have hfz14_1 := blk_frozen BK473.out 1))
                  go_roundg k1
                  case measure => have := HK1.out; omega
                  case rel => exact ⟨(Go.bits .or .u32 x5_1 (ji11)), (wrap64 (x14_1 + 1)), (by first | rfl | (simp; done) | (simp only [← hji11] <;> (first | rfl | simp)) | (simp [*]; done)), (by first | rfl | (simp; done) | (simp [*]; done)), H', ⟨by have := HK1.out; omega⟩, ⟨by (with_reducible repeat (first | refine blk_drewN ?_ _ | refine blk_drew ?_ | refine blk_alloc ?_ _)); refine blk_far ?_ NB470_473.out _; (with_reducible repeat (first | refine blk_drewN ?_ _ | refine blk_drew ?_ | refine blk_alloc ?_ _)); refine blk_far ?_ NB470_473.out _; (with_reducible repeat (first | refine blk_drewN ?_ _ | refine blk_drew ?_ | refine blk_alloc ?_ _)); exact BK470.out⟩, ⟨by repeat (first | (with_reducible first | exact HB.out | apply below_alloc | apply pw_below_drewN | apply below_drew1 | refine below_set ?_ GE470.out | refine below_set ?_ GE473.out) | exact HB.out)⟩⟩
                · rw [if_neg c10] at H
                  exact absurd H (by simp)
              · rw [if_neg c9] at H
                exact absurd H (by simp)
            · rw [if_neg c8] at H
              exact absurd H (by simp)
          · rw [if_neg c7] at H
            have c7b0 : decide (x14_1 < ((rd_L2 l0_1 a1).length : Int)) = false := decide_eq_false c7
            clear c7
            obtain rfl := Option.some.inj H
            go_wp2
            go_ret
            exact ⟨by first | rfl | (simp [errW_none, errW_some] <;> rfl) | (simp [*, errW_none, errW_some] <;> rfl), by repeat (first | (with_reducible first | exact HB.out | apply below_alloc | apply pw_below_drewN | apply below_drew1 | refine below_set ?_ GE470.out) | exact HB.out)⟩
    · rw [if_neg c4] at H
      exact absurd H (by simp)
  · rw [if_neg c3] at H
    exact absurd H (by simp)

/-! ### graph_Distances: function 32 -/
mutual
def graph_Distances.l0 : Nat → Int → List Int → Int → Int → List Int → List (List (S50)) → Option (List Int)
  | 0, _, _, _, _, _, _ => none
  | k + 1, x1, x5, x21, x22, x475000, x475001 => if x22 < x21 then (if 0 ≤ x22 then (if x22 < (x5.length : Int) then (graph_Distances.l0 k x1 (x5.set (x22 : Int).toNat (-1)) x21 (wrap64 (x22 + 1)) x475000 x475001) else (none)) else (none)) else (if 0 ≤ x1 then (graph_Distances.l1 k x5 0 0 (shl .u32 1 x1) x475000 x475001) else (none))
def graph_Distances.l1 : Nat → List Int → Int → Int → Int → List Int → List (List (S50)) → Option (List Int)
  | 0, _, _, _, _, _, _ => none
  | k + 1, x5, x7, x8, x9, x475000, x475001 => if x9 = 0 then (some x5) else (graph_Distances.l2 k x5 (Go.bits .or .u32 x7 x9) x8 x9 0 (x5.length : Int) 0 x475000 x475001)
def graph_Distances.l2 : Nat → List Int → Int → Int → Int → Int → Int → Int → List Int → List (List (S50)) → Option (List Int)
  | 0, _, _, _, _, _, _, _, _, _ => none
  | k + 1, x5, x7, x8, x9, x10, x39, x40, x475000, x475001 => if x40 < x39 then (if 0 ≤ x40 then (if (Go.bits .and .u32 (shr .u32 x9 x40) 1) = 1 then (if x40 < (x5.length : Int) then ((graph_around.f k x475000 x475001 x40).bind fun t481 => (graph_Distances.l2 k (x5.set (x40 : Int).toNat x8) x7 x8 x9 (Go.bits .or .u32 x10 t481) x39 (wrap64 (x40 + 1)) x475000 x475001)) else (none)) else (graph_Distances.l2 k x5 x7 x8 x9 x10 x39 (wrap64 (x40 + 1)) x475000 x475001)) else (none)) else (graph_Distances.l1 k x5 x7 (wrap64 (x8 + 1)) (Go.bits .andNot .u32 x10 x7) x475000 x475001)
end
def graph_Distances.f (k : Nat) (l0_0 : List Int) (l0_1 : List (List (S50))) (a1 : Int) : Option (List Int) := (graph_node.f l0_0 l0_1 a1).bind fun t475 => (if t475 = true then (if 0 ≤ (l0_1.length : Int) then (if ((l0_1.length : Int) : Int).toNat ≤ 35184372088832 then ((some (List.replicate ((l0_1.length : Int) : Int).toNat 0 : List Int)).bind fun y476 => (graph_Distances.l0 k a1 y476 (y476.length : Int) 0 l0_0 l0_1)) else (none)) else (none)) else (some ([] : List Int)))
theorem graph_Distances.mono_l : ∀ k, (∀ y0 y1 y2 y3 y4 y5, LeO (graph_Distances.l0 k y0 y1 y2 y3 y4 y5) (graph_Distances.l0 (k + 1) y0 y1 y2 y3 y4 y5)) ∧ (∀ y0 y1 y2 y3 y4 y5, LeO (graph_Distances.l1 k y0 y1 y2 y3 y4 y5) (graph_Distances.l1 (k + 1) y0 y1 y2 y3 y4 y5)) ∧ (∀ y0 y1 y2 y3 y4 y5 y6 y7 y8, LeO (graph_Distances.l2 k y0 y1 y2 y3 y4 y5 y6 y7 y8) (graph_Distances.l2 (k + 1) y0 y1 y2 y3 y4 y5 y6 y7 y8))
  | 0 => ⟨fun _ _ _ _ _ _ r h => by simp [graph_Distances.l0] at h, fun _ _ _ _ _ _ r h => by simp [graph_Distances.l1] at h, fun _ _ _ _ _ _ _ _ _ r h => by simp [graph_Distances.l2] at h⟩
  | k + 1 => by
    obtain ⟨ih0, ih1, ih2⟩ := graph_Distances.mono_l k
    refine ⟨?_, ?_, ?_⟩
    · intro y0 y1 y2 y3 y4 y5
      unfold graph_Distances.l0
      repeat' first
      | (with_reducible exact ih0 _ _ _ _ _ _)
      | (with_reducible exact ih1 _ _ _ _ _ _)
      | (with_reducible exact ih2 _ _ _ _ _ _ _ _ _)
      | (with_reducible exact graph_around.mono _ _ _ _)
      | (with_reducible exact LeO.refl _)
      | (with_reducible exact LeO.none _)
      | (with_reducible refine LeO.ite ?_ ?_)
      | (with_reducible refine LeO.bind ?_ (fun _ => ?_))
      | exact ih0 _ _ _ _ _ _
      | exact ih1 _ _ _ _ _ _
      | exact ih2 _ _ _ _ _ _ _ _ _
      | exact graph_around.mono _ _ _ _
      | exact LeO.none _
      | refine LeO.ite ?_ ?_
      | refine LeO.bind ?_ (fun _ => ?_)
    · intro y0 y1 y2 y3 y4 y5
      unfold graph_Distances.l1
      repeat' first
      | (with_reducible exact ih0 _ _ _ _ _ _)
      | (with_reducible exact ih1 _ _ _ _ _ _)
      | (with_reducible exact ih2 _ _ _ _ _ _ _ _ _)
      | (with_reducible exact graph_around.mono _ _ _ _)
      | (with_reducible exact LeO.refl _)
      | (with_reducible exact LeO.none _)
      | (with_reducible refine LeO.ite ?_ ?_)
      | (with_reducible refine LeO.bind ?_ (fun _ => ?_))
      | exact ih0 _ _ _ _ _ _
      | exact ih1 _ _ _ _ _ _
      | exact ih2 _ _ _ _ _ _ _ _ _
      | exact graph_around.mono _ _ _ _
      | exact LeO.none _
      | refine LeO.ite ?_ ?_
      | refine LeO.bind ?_ (fun _ => ?_)
    · intro y0 y1 y2 y3 y4 y5 y6 y7 y8
      unfold graph_Distances.l2
      repeat' first
      | (with_reducible exact ih0 _ _ _ _ _ _)
      | (with_reducible exact ih1 _ _ _ _ _ _)
      | (with_reducible exact ih2 _ _ _ _ _ _ _ _ _)
      | (with_reducible exact graph_around.mono _ _ _ _)
      | (with_reducible exact LeO.refl _)
      | (with_reducible exact LeO.none _)
      | (with_reducible refine LeO.ite ?_ ?_)
      | (with_reducible refine LeO.bind ?_ (fun _ => ?_))
      | exact ih0 _ _ _ _ _ _
      | exact ih1 _ _ _ _ _ _
      | exact ih2 _ _ _ _ _ _ _ _ _
      | exact graph_around.mono _ _ _ _
      | exact LeO.none _
      | refine LeO.ite ?_ ?_
      | refine LeO.bind ?_ (fun _ => ?_)
theorem graph_Distances.mono : ∀ a0 a1 a2 k, LeO (graph_Distances.f k a0 a1 a2) (graph_Distances.f (k + 1) a0 a1 a2) := by
  intro a0 a1 a2 k
  obtain ⟨ih0, ih1, ih2⟩ := graph_Distances.mono_l k
  unfold graph_Distances.f
  repeat' first
      | (with_reducible exact ih0 _ _ _ _ _ _)
      | (with_reducible exact ih1 _ _ _ _ _ _)
      | (with_reducible exact ih2 _ _ _ _ _ _ _ _ _)
      | (with_reducible exact graph_around.mono _ _ _ _)
      | (with_reducible exact LeO.refl _)
      | (with_reducible exact LeO.none _)
      | (with_reducible refine LeO.ite ?_ ?_)
      | (with_reducible refine LeO.bind ?_ (fun _ => ?_))
      | exact ih0 _ _ _ _ _ _
      | exact ih1 _ _ _ _ _ _
      | exact ih2 _ _ _ _ _ _ _ _ _
      | exact graph_around.mono _ _ _ _
      | exact LeO.none _
      | refine LeO.ite ?_ ?_
      | refine LeO.bind ?_ (fun _ => ?_)
set_option maxHeartbeats 8000000 in
set_option maxRecDepth 100000 in
theorem graph_Distances.calls (k : Nat) (A0_0 : Option Addr) (c0_0 : Nat) (l0_0 : List Int) (A0_1 : Option Addr) (c0_1 : Nat) (l0_1 : List (List (S50))) (a1 : Int) (r : List Int) (w : World) (hr0_0 : Kd.C (Kd.int .i64) w A0_0 l0_0.length l0_0) (hc0_0 : l0_0.length ≤ c0_0) (hr0_1 : Kd.C (Kd.slice 50 k50) w A0_1 l0_1.length l0_1) (hc0_1 : l0_1.length ≤ c0_1) (h : graph_Distances.f k l0_0 l0_1 a1 = some r) :
    Calls Try.prog 32 #[.agg #[.slice A0_0 l0_0.length c0_0, .slice A0_1 l0_1.length c0_1], .int .i64 a1] w fun e w' => ∃ v0_ : Value, e = .returned (v0_) ∧ Kd.R (Kd.int .i64) 3 w' w.heap.size (fun _ => True) v0_ r ∧ Below w.heap.size w w' := by
  have hu26 := Try.underlying26
  have HR0_0 := Aside0.mk hr0_0
  have HC0_0 := Aside0.mk hc0_0
  clear hr0_0 hc0_0
  have HR0_1 := Aside0.mk hr0_1
  have HC0_1 := Aside0.mk hc0_1
  clear hr0_1 hc0_1
  have HB := Aside0.mk (Below.refl w.heap.size w)
  have H : ((graph_node.f l0_0 l0_1 a1).bind fun t475 => (if t475 = true then (if 0 ≤ (l0_1.length : Int) then (if ((l0_1.length : Int) : Int).toNat ≤ 35184372088832 then ((some (List.replicate ((l0_1.length : Int) : Int).toNat 0 : List Int)).bind fun y476 => (graph_Distances.l0 k a1 y476 (y476.length : Int) 0 l0_0 l0_1)) else (none)) else (none)) else (some ([] : List Int)))) = some r := h
  clear h
  replace H := Option.bind_eq_some_iff.mp H
  obtain ⟨t475, A30, H⟩ := H
  replace H : (if t475 = true then (if 0 ≤ (l0_1.length : Int) then (if ((l0_1.length : Int) : Int).toNat ≤ 35184372088832 then ((some (List.replicate ((l0_1.length : Int) : Int).toNat 0 : List Int)).bind fun y476 => (graph_Distances.l0 k a1 y476 (y476.length : Int) 0 l0_0 l0_1)) else (none)) else (none)) else (some ([] : List Int))) = some r := H
  have A3 := Aside0.mk A30
  clear A30
  by_cases c4 : t475 = true
  · subst c4
    have H1 : (if 0 ≤ (l0_1.length : Int) then (if ((l0_1.length : Int) : Int).toNat ≤ 35184372088832 then ((some (List.replicate ((l0_1.length : Int) : Int).toNat 0 : List Int)).bind fun y476 => (graph_Distances.l0 k a1 y476 (y476.length : Int) 0 l0_0 l0_1)) else (none)) else (none)) = some r := by rw [if_pos rfl] at H; exact H
    clear H
    have H := H1
    clear H1
    by_cases c5 : 0 ≤ (l0_1.length : Int)
    · rw [if_pos c5] at H
      have c5b0 := eq_true c5
      have c5b1 : decide (0 ≤ (l0_1.length : Int)) = true := decide_eq_true c5
      clear c5
      by_cases c6 : ((l0_1.length : Int) : Int).toNat ≤ 35184372088832
      · rw [if_pos c6] at H
        have c6b0 := eq_true c6
        have c6b1 : decide (((l0_1.length : Int) : Int).toNat ≤ 35184372088832) = true := decide_eq_true c6
        clear c6
        obtain ⟨y476, hy476⟩ : ∃ y_ : List Int, y_ = (List.replicate ((l0_1.length : Int) : Int).toNat 0) := ⟨_, rfl⟩
        replace H : (graph_Distances.l0 k a1 y476 (y476.length : Int) 0 l0_0 l0_1) = some r := by first | (rw [hy476]; with_reducible exact H) | (have H2_ := (Option.bind_some _ _).symm.trans H; rw [hy476]; with_reducible exact H2_) | (have H2_ := (Option.bind_some _ _).symm.trans H; with_reducible exact H2_) | with_reducible exact H | (rw [hy476]; exact H) | exact H
        have Ny476 := Aside0.mk hy476
        clear hy476
        have H' := Aside0.mk H
        clear H
        go_enter Try.func32, Try.ntmps32
        go_wp2_with (first | ((with_reducible refine gate_dst (N := 2) rfl ?_); refine box_event ?hg (N := 2) ?hd (cs := #[.slice A0_0 l0_0.length c0_0, .slice A0_1 l0_1.length c0_1]) (t := 26) ?hr ?_; (case hd => rfl); (case hg => rfl); (case hr => first | (go_simp; done) | (go_simp; rfl)); intro gb474 hg w7 hbox hb; have n0_ := Aside0.mk (below_step (by repeat (first | (with_reducible first | exact HB.out | apply below_alloc | apply pw_below_drewN | apply below_drew1) | exact HB.out)) hb); have n1_ := Aside0.mk (hbox); have n2_ := Aside0.mk ((by rw [hg]; exact (below_size (by repeat (first | (with_reducible first | exact HB.out | apply below_alloc | apply pw_below_drewN | apply below_drew1) | exact HB.out))) : w.heap.size ≤ gb474)); have n3_ := Aside0.mk ((by rw [hg]; exact (below_size (by repeat (first | (with_reducible first | exact HB.out | apply below_alloc | apply pw_below_drewN | apply below_drew1) | exact HB.out))) : w.heap.size ≤ gb474)); clear HB; have HB := n0_; have BK474 := n1_; have GW474 := n2_; have GE474 := n3_; clear n0_ n1_ n2_ n3_; clear hb hbox hg; have hcz8_0 : w7.cell? ⟨gb474, 0, none⟩ = some (.slice A0_0 l0_0.length c0_0) := (blk_cell BK474.out 0).trans rfl; have hcz8_1 : w7.cell? ⟨gb474, 1, none⟩ = some (.slice A0_1 l0_1.length c0_1) := (blk_cell BK474.out 1).trans rfl; have hfz8_0 := blk_frozen BK474.out 0; have hfz8_1 := blk_frozen BK474.out 1) | (go_at_call 56; (with_reducible refine (graph_node.calls _ _ l0_0 _ _ l0_1 a1 true _ ?side1 ?side2 ?side3 ?side4 A3.out).mono ?_); (case side1 => repeat (first | exact (Kd.C_below HR0_0.out HB.out) | (with_reducible refine Kd.C_alloc ?_ _) | (with_reducible refine Kd.C_drewN ?_ _) | (with_reducible refine Kd.C_drew ?_))); (case side2 => exact HC0_0.out); (case side3 => repeat (first | exact (Kd.C_below HR0_1.out HB.out) | (with_reducible refine Kd.C_alloc ?_ _) | (with_reducible refine Kd.C_drewN ?_ _) | (with_reducible refine Kd.C_drew ?_))); (case side4 => exact HC0_1.out); rintro e w9 ⟨rfl, hb⟩; have n0_ := Aside0.mk (blk_below (g := gb474) (o := .cells #[.slice A0_0 l0_0.length c0_0, .slice A0_1 l0_1.length c0_1] 26 (0, 0)) (by (with_reducible repeat (first | refine blk_drewN ?_ _ | refine blk_drew ?_ | refine blk_alloc ?_ _)); exact BK474.out) hb); have n1_ := Aside0.mk (below_step (by repeat (first | (with_reducible first | exact HB.out | apply below_alloc | apply pw_below_drewN | apply below_drew1 | refine below_set ?_ GE474.out) | exact HB.out)) hb); clear BK474; clear HB; have BK474 := n0_; have HB := n1_; clear n0_ n1_; (try clear hb); (try clear hb2); (try clear hk); (try clear hi); have hcz10_0 : w9.cell? ⟨gb474, 0, none⟩ = some (.slice A0_0 l0_0.length c0_0) := (blk_cell BK474.out 0).trans rfl; have hcz10_1 : w9.cell? ⟨gb474, 1, none⟩ = some (.slice A0_1 l0_1.length c0_1) := (blk_cell BK474.out 1).trans rfl; have hfz10_0 := blk_frozen BK474.out 0; have hfz10_1 := blk_frozen BK474.out 1) | ((with_reducible refine gate_dst (N := 19) rfl ?_); refine Kd.R_make (Kd.int .i64) _ 3 rfl (N := 19) rfl 22 _ _ rfl (l0_1.length : Int) rfl rfl Try.underlying22 (.int .i64 0) 8 info3 rfl (by decide) (by omega) 0 (ok := fun _ => True) (okp := fun _ => True) rfl (fun _ hk => hk) trivial (of_decide_eq_true (by first | (with_reducible assumption) | assumption)) (Nat.le_trans (Nat.mul_le_mul_right _ (of_decide_eq_true (by first | (with_reducible assumption) | assumption) : (l0_1.length : Int).toNat ≤ 35184372088832)) (by omega)) (Below.refl _ _) (Nat.le_refl _) ?_; intro v477 w11 ho12 hb hg_ hnew_; clear hg_ hnew_; (first | rw [← Ny476.out] at ho12 | (simp only [Int.reduceToNat] at ho12; rw [← Ny476.out] at ho12)); have n0_ := Aside0.mk (Kd.R_lower ho12 (below_size (by repeat (first | (with_reducible first | exact HB.out | apply below_alloc | apply pw_below_drewN | apply below_drew1 | refine below_set ?_ GE474.out) | exact HB.out)))); have n1_ := Aside0.mk (blk_below (g := gb474) (o := .cells #[.slice A0_0 l0_0.length c0_0, .slice A0_1 l0_1.length c0_1] 26 (0, 0)) (by (with_reducible repeat (first | refine blk_drewN ?_ _ | refine blk_drew ?_ | refine blk_alloc ?_ _)); exact BK474.out) hb); have n2_ := Aside0.mk (below_step (by repeat (first | (with_reducible first | exact HB.out | apply below_alloc | apply pw_below_drewN | apply below_drew1 | refine below_set ?_ GE474.out) | exact HB.out)) hb); clear BK474; clear HB; have HO478 := n0_; have BK474 := n1_; have HB := n2_; clear n0_ n1_ n2_; clear hb ho12; obtain ⟨Ao13, co13, eo13⟩ := Kd.R_slice HO478.out; subst eo13))
        repeat (go_quiet (first | ((with_reducible refine gate_dst (N := 2) rfl ?_); refine box_event ?hg (N := 2) ?hd (cs := #[.slice A0_0 l0_0.length c0_0, .slice A0_1 l0_1.length c0_1]) (t := 26) ?hr ?_; (case hd => rfl); (case hg => rfl); (case hr => first | (go_simp; done) | (go_simp; rfl)); intro gb474 hg w7 hbox hb; have n0_ := Aside0.mk (below_step (by repeat (first | (with_reducible first | exact HB.out | apply below_alloc | apply pw_below_drewN | apply below_drew1) | exact HB.out)) hb); have n1_ := Aside0.mk (hbox); have n2_ := Aside0.mk ((by rw [hg]; exact (below_size (by repeat (first | (with_reducible first | exact HB.out | apply below_alloc | apply pw_below_drewN | apply below_drew1) | exact HB.out))) : w.heap.size ≤ gb474)); have n3_ := Aside0.mk ((by rw [hg]; exact (below_size (by repeat (first | (with_reducible first | exact HB.out | apply below_alloc | apply pw_below_drewN | apply below_drew1) | exact HB.out))) : w.heap.size ≤ gb474)); clear HB; have HB := n0_; have BK474 := n1_; have GW474 := n2_; have GE474 := n3_; clear n0_ n1_ n2_ n3_; clear hb hbox hg; have hcz8_0 : w7.cell? ⟨gb474, 0, none⟩ = some (.slice A0_0 l0_0.length c0_0) := (blk_cell BK474.out 0).trans rfl; have hcz8_1 : w7.cell? ⟨gb474, 1, none⟩ = some (.slice A0_1 l0_1.length c0_1) := (blk_cell BK474.out 1).trans rfl; have hfz8_0 := blk_frozen BK474.out 0; have hfz8_1 := blk_frozen BK474.out 1) | (go_at_call 56; (with_reducible refine (graph_node.calls _ _ l0_0 _ _ l0_1 a1 true _ ?side1 ?side2 ?side3 ?side4 A3.out).mono ?_); (case side1 => repeat (first | exact (Kd.C_below HR0_0.out HB.out) | (with_reducible refine Kd.C_alloc ?_ _) | (with_reducible refine Kd.C_drewN ?_ _) | (with_reducible refine Kd.C_drew ?_))); (case side2 => exact HC0_0.out); (case side3 => repeat (first | exact (Kd.C_below HR0_1.out HB.out) | (with_reducible refine Kd.C_alloc ?_ _) | (with_reducible refine Kd.C_drewN ?_ _) | (with_reducible refine Kd.C_drew ?_))); (case side4 => exact HC0_1.out); rintro e w9 ⟨rfl, hb⟩; have n0_ := Aside0.mk (blk_below (g := gb474) (o := .cells #[.slice A0_0 l0_0.length c0_0, .slice A0_1 l0_1.length c0_1] 26 (0, 0)) (by (with_reducible repeat (first | refine blk_drewN ?_ _ | refine blk_drew ?_ | refine blk_alloc ?_ _)); exact BK474.out) hb); have n1_ := Aside0.mk (below_step (by repeat (first | (with_reducible first | exact HB.out | apply below_alloc | apply pw_below_drewN | apply below_drew1 | refine below_set ?_ GE474.out) | exact HB.out)) hb); clear BK474; clear HB; have BK474 := n0_; have HB := n1_; clear n0_ n1_; (try clear hb); (try clear hb2); (try clear hk); (try clear hi); have hcz10_0 : w9.cell? ⟨gb474, 0, none⟩ = some (.slice A0_0 l0_0.length c0_0) := (blk_cell BK474.out 0).trans rfl; have hcz10_1 : w9.cell? ⟨gb474, 1, none⟩ = some (.slice A0_1 l0_1.length c0_1) := (blk_cell BK474.out 1).trans rfl; have hfz10_0 := blk_frozen BK474.out 0; have hfz10_1 := blk_frozen BK474.out 1) | ((with_reducible refine gate_dst (N := 19) rfl ?_); refine Kd.R_make (Kd.int .i64) _ 3 rfl (N := 19) rfl 22 _ _ rfl (l0_1.length : Int) rfl rfl Try.underlying22 (.int .i64 0) 8 info3 rfl (by decide) (by omega) 0 (ok := fun _ => True) (okp := fun _ => True) rfl (fun _ hk => hk) trivial (of_decide_eq_true (by first | (with_reducible assumption) | assumption)) (Nat.le_trans (Nat.mul_le_mul_right _ (of_decide_eq_true (by first | (with_reducible assumption) | assumption) : (l0_1.length : Int).toNat ≤ 35184372088832)) (by omega)) (Below.refl _ _) (Nat.le_refl _) ?_; intro v477 w11 ho12 hb hg_ hnew_; clear hg_ hnew_; (first | rw [← Ny476.out] at ho12 | (simp only [Int.reduceToNat] at ho12; rw [← Ny476.out] at ho12)); have n0_ := Aside0.mk (Kd.R_lower ho12 (below_size (by repeat (first | (with_reducible first | exact HB.out | apply below_alloc | apply pw_below_drewN | apply below_drew1 | refine below_set ?_ GE474.out) | exact HB.out)))); have n1_ := Aside0.mk (blk_below (g := gb474) (o := .cells #[.slice A0_0 l0_0.length c0_0, .slice A0_1 l0_1.length c0_1] 26 (0, 0)) (by (with_reducible repeat (first | refine blk_drewN ?_ _ | refine blk_drew ?_ | refine blk_alloc ?_ _)); exact BK474.out) hb); have n2_ := Aside0.mk (below_step (by repeat (first | (with_reducible first | exact HB.out | apply below_alloc | apply pw_below_drewN | apply below_drew1 | refine below_set ?_ GE474.out) | exact HB.out)) hb); clear BK474; clear HB; have HO478 := n0_; have BK474 := n1_; have HB := n2_; clear n0_ n1_ n2_; clear hb ho12; obtain ⟨Ao13, co13, eo13⟩ := Kd.R_slice HO478.out; subst eo13)); try go_wp2_with (first | ((with_reducible refine gate_dst (N := 2) rfl ?_); refine box_event ?hg (N := 2) ?hd (cs := #[.slice A0_0 l0_0.length c0_0, .slice A0_1 l0_1.length c0_1]) (t := 26) ?hr ?_; (case hd => rfl); (case hg => rfl); (case hr => first | (go_simp; done) | (go_simp; rfl)); intro gb474 hg w7 hbox hb; have n0_ := Aside0.mk (below_step (by repeat (first | (with_reducible first | exact HB.out | apply below_alloc | apply pw_below_drewN | apply below_drew1) | exact HB.out)) hb); have n1_ := Aside0.mk (hbox); have n2_ := Aside0.mk ((by rw [hg]; exact (below_size (by repeat (first | (with_reducible first | exact HB.out | apply below_alloc | apply pw_below_drewN | apply below_drew1) | exact HB.out))) : w.heap.size ≤ gb474)); have n3_ := Aside0.mk ((by rw [hg]; exact (below_size (by repeat (first | (with_reducible first | exact HB.out | apply below_alloc | apply pw_below_drewN | apply below_drew1) | exact HB.out))) : w.heap.size ≤ gb474)); clear HB; have HB := n0_; have BK474 := n1_; have GW474 := n2_; have GE474 := n3_; clear n0_ n1_ n2_ n3_; clear hb hbox hg; have hcz8_0 : w7.cell? ⟨gb474, 0, none⟩ = some (.slice A0_0 l0_0.length c0_0) := (blk_cell BK474.out 0).trans rfl; have hcz8_1 : w7.cell? ⟨gb474, 1, none⟩ = some (.slice A0_1 l0_1.length c0_1) := (blk_cell BK474.out 1).trans rfl; have hfz8_0 := blk_frozen BK474.out 0; have hfz8_1 := blk_frozen BK474.out 1) | (go_at_call 56; (with_reducible refine (graph_node.calls _ _ l0_0 _ _ l0_1 a1 true _ ?side1 ?side2 ?side3 ?side4 A3.out).mono ?_); (case side1 => repeat (first | exact (Kd.C_below HR0_0.out HB.out) | (with_reducible refine Kd.C_alloc ?_ _) | (with_reducible refine Kd.C_drewN ?_ _) | (with_reducible refine Kd.C_drew ?_))); (case side2 => exact HC0_0.out); (case side3 => repeat (first | exact (Kd.C_below HR0_1.out HB.out) | (with_reducible refine Kd.C_alloc ?_ _) | (with_reducible refine Kd.C_drewN ?_ _) | (with_reducible refine Kd.C_drew ?_))); (case side4 => exact HC0_1.out); rintro e w9 ⟨rfl, hb⟩; have n0_ := Aside0.mk (blk_below (g := gb474) (o := .cells #[.slice A0_0 l0_0.length c0_0, .slice A0_1 l0_1.length c0_1] 26 (0, 0)) (by (with_reducible repeat (first | refine blk_drewN ?_ _ | refine blk_drew ?_ | refine blk_alloc ?_ _)); exact BK474.out) hb); have n1_ := Aside0.mk (below_step (by repeat (first | (with_reducible first | exact HB.out | apply below_alloc | apply pw_below_drewN | apply below_drew1 | refine below_set ?_ GE474.out) | exact HB.out)) hb); clear BK474; clear HB; have BK474 := n0_; have HB := n1_; clear n0_ n1_; (try clear hb); (try clear hb2); (try clear hk); (try clear hi); have hcz10_0 : w9.cell? ⟨gb474, 0, none⟩ = some (.slice A0_0 l0_0.length c0_0) := (blk_cell BK474.out 0).trans rfl; have hcz10_1 : w9.cell? ⟨gb474, 1, none⟩ = some (.slice A0_1 l0_1.length c0_1) := (blk_cell BK474.out 1).trans rfl; have hfz10_0 := blk_frozen BK474.out 0; have hfz10_1 := blk_frozen BK474.out 1) | ((with_reducible refine gate_dst (N := 19) rfl ?_); refine Kd.R_make (Kd.int .i64) _ 3 rfl (N := 19) rfl 22 _ _ rfl (l0_1.length : Int) rfl rfl Try.underlying22 (.int .i64 0) 8 info3 rfl (by decide) (by omega) 0 (ok := fun _ => True) (okp := fun _ => True) rfl (fun _ hk => hk) trivial (of_decide_eq_true (by first | (with_reducible assumption) | assumption)) (Nat.le_trans (Nat.mul_le_mul_right _ (of_decide_eq_true (by first | (with_reducible assumption) | assumption) : (l0_1.length : Int).toNat ≤ 35184372088832)) (by omega)) (Below.refl _ _) (Nat.le_refl _) ?_; intro v477 w11 ho12 hb hg_ hnew_; clear hg_ hnew_; (first | rw [← Ny476.out] at ho12 | (simp only [Int.reduceToNat] at ho12; rw [← Ny476.out] at ho12)); have n0_ := Aside0.mk (Kd.R_lower ho12 (below_size (by repeat (first | (with_reducible first | exact HB.out | apply below_alloc | apply pw_below_drewN | apply below_drew1 | refine below_set ?_ GE474.out) | exact HB.out)))); have n1_ := Aside0.mk (blk_below (g := gb474) (o := .cells #[.slice A0_0 l0_0.length c0_0, .slice A0_1 l0_1.length c0_1] 26 (0, 0)) (by (with_reducible repeat (first | refine blk_drewN ?_ _ | refine blk_drew ?_ | refine blk_alloc ?_ _)); exact BK474.out) hb); have n2_ := Aside0.mk (below_step (by repeat (first | (with_reducible first | exact HB.out | apply below_alloc | apply pw_below_drewN | apply below_drew1 | refine below_set ?_ GE474.out) | exact HB.out)) hb); clear BK474; clear HB; have HO478 := n0_; have BK474 := n1_; have HB := n2_; clear n0_ n1_ n2_; clear hb ho12; obtain ⟨Ao13, co13, eo13⟩ := Kd.R_slice HO478.out; subst eo13)))
        go_loopg [22] k (fun kq v22 w' => ∃ (x5_1 : List Int) (x22_1 : Int), v22 = .int .i64 x22_1 ∧ Aside0 (graph_Distances.l0 kq a1 x5_1 (y476.length : Int) x22_1 l0_0 l0_1 = some r) ∧ Aside0 (kq ≤ k) ∧ Aside0 (Kd.R (Kd.int .i64) 3 w' w.heap.size (fun _ => True) (.slice Ao13 y476.length co13) x5_1) ∧ Aside0 (w'.heap[gb474]? = some (.cells #[(.slice A0_0 l0_0.length c0_0), (.slice A0_1 l0_1.length c0_1)] 26 (0, 0))) ∧ Aside0 (Below w.heap.size w w'))
        case atStart => exact ⟨(y476), (0), (by first | rfl | (simp; done) | (simp [*]; done)), H', ⟨Nat.le_refl _⟩, ⟨by (with_reducible repeat (first | apply Kd.R_alloc | apply Kd.R_drewN | apply Kd.R_drew)); exact HO478.out⟩, ⟨by (with_reducible repeat (first | refine blk_drewN ?_ _ | refine blk_drew ?_ | refine blk_alloc ?_ _)); exact BK474.out⟩, ⟨by repeat (first | (with_reducible first | exact HB.out | apply below_alloc | apply pw_below_drewN | apply below_drew1 | refine below_set ?_ GE474.out) | exact HB.out)⟩⟩
        case round =>
          clear H'
          try clear p2
          try clear c3
          try clear c4
          try clear c5
          try clear c5b0
          try clear c5b1
          try clear c6
          try clear c6b0
          try clear c6b1
          try clear hcz10_0
          try clear hcz10_1
          try clear hcz8_0
          try clear hcz8_1
          try clear hfz10_0
          try clear hfz10_1
          try clear hfz8_0
          try clear hfz8_1
          obtain ⟨x5_1, x22_1, rfl, HA, HK1, HO_5, BK474, HB⟩ := hrel
          have hl5_1 := (Kd.R_reads' HO_5.out).1
          rw [hl5_1] at HO_5
          (try simp only [hl5_1])
          (try simp only [hl5_1] at BK474)
          cases gk with
          | zero => exact absurd HA.out (by simp [graph_Distances.l0])
          | succ k1 =>
            have H := HA.out
            clear HA
            simp only [graph_Distances.l0] at H
            by_cases c14 : x22_1 < (y476.length : Int)
            · rw [if_pos c14] at H
              have c14b0 : decide (x22_1 < (y476.length : Int)) = true := decide_eq_true c14
              (try (have c14h0 := c14b0; simp only [hl5_1] at c14h0))
              clear c14
              by_cases c15 : 0 ≤ x22_1
              · rw [if_pos c15] at H
                have c15b0 : decide (0 ≤ x22_1) = true := decide_eq_true c15
                clear c15
                by_cases c16 : x22_1 < (x5_1.length : Int)
                · rw [if_pos c16] at H
                  have c16b0 : decide (x22_1 < (x5_1.length : Int)) = true := decide_eq_true c16
                  (try (have c16h0 := c16b0; simp only [hl5_1] at c16h0))
                  clear c16
                  obtain ⟨y479, hy479⟩ : ∃ y_ : List Int, y_ = (x5_1.set (x22_1 : Int).toNat (-1)) := ⟨_, rfl⟩
                  replace H : (graph_Distances.l0 k1 a1 y479 (y476.length : Int) (wrap64 (x22_1 + 1)) l0_0 l0_1) = some r := by first | (rw [hy479]; with_reducible exact H) | (have H2_ := (Option.bind_some _ _).symm.trans H; rw [hy479]; with_reducible exact H2_) | (have H2_ := (Option.bind_some _ _).symm.trans H; with_reducible exact H2_) | with_reducible exact H | (rw [hy479]; exact H) | exact H
                  have Ny479 := Aside0.mk hy479
                  clear hy479
                  have H' := Aside0.mk H
                  clear H
                  have p17 : 0 ≤ (x22_1 : Int) := of_decide_eq_true (by first | (with_reducible assumption) | assumption)
                  have q17 : (x22_1 : Int) < ((x5_1.length : Int) : Int) := of_decide_eq_true (by first | (with_reducible assumption) | assumption)
                  obtain ⟨go17, co17, eo17, gb17, gl17, cl17, HG17⟩ := Kd.R_form HO_5.out (by omega)
                  (first | cases eo17 | (injection eo17 with ea_ en_ ec_; (first | subst ea_ | (injection ea_ with ea_; subst ea_)); subst ec_; clear en_))
                  have GB17 := Aside0.mk gb17
                  have GG17 := Aside0.mk HG17
                  clear gb17 gl17 HG17
                  obtain ⟨hx17_0, hf17_0⟩ := Kd.R_celln 0 HO_5.out (x22_1 : Int) p17 q17
                  replace p17 := eq_true p17
                  replace q17 := eq_true q17
                  have HP18 := Kd.R_putg HO_5.out (x22_1 : Int) (-1)
                  go_wp2_with (first | ((with_reducible refine gate_store (t := 3) (p := 27) rfl ?_); (try (rw [drewN_self wr]; generalize hq_ : World.drewN wr _ = wr; have n0_ := Aside0.mk (Kd.R_at hq_ HO_5.out); have n1_ := Aside0.mk (blk_at hq_ BK474.out); have n2_ := Aside0.mk (below_at hq_ HB.out); clear hq_ HO_5 BK474 HB; have HO_5 := n0_; have BK474 := n1_; have HB := n2_; clear n0_ n1_ n2_; (try (have HP18 := Kd.R_putg HO_5.out (x22_1 : Int) (-1))))); refine store_event (t := 3) (p := 27) (v := ?vo_w19) (w1 := (wr.setCell ⟨go17, (x22_1 : Int).toNat, none⟩ (.int .i64 (-1)))) ?hg ?ho ?hn ?hr ?_; (case ho => rfl); (case hg => rfl); (case hn => rfl); (case hr => first | (go_simp; done) | (go_simp; rfl)); intro w19 hw; have hg : wr.grownBy w19 (some go17) := (by rw [hw]; exact HP18.2); have hp_ : Kd.R (Kd.int .i64) 3 w19 w.heap.size (fun _ => True) (.slice (some ⟨go17, 0, none⟩) x5_1.length co13) y479 := (by rw [hw, Ny479.out]; exact HP18.1); clear HP18; have n0_ := Aside0.mk (hp_); have n1_ := Aside0.mk (blk_grown (g := gb474) (o := .cells #[.slice A0_0 l0_0.length c0_0, .slice A0_1 l0_1.length c0_1] 26 (0, 0)) (by (with_reducible repeat (first | refine blk_drewN ?_ _ | refine blk_drew ?_ | refine blk_alloc ?_ _)); exact BK474.out) hg (Kd.R_ne HO_5.out BK474.out (by decide))); have n2_ := Aside0.mk ((by rw [hw]; exact below_set (HB.out) GB17.out : Below w.heap.size w w19)); clear HO_5; clear BK474; clear HB; have HO_5 := n0_; have BK474 := n1_; have HB := n2_; clear n0_ n1_ n2_; clear hg hw hp_))
                  repeat (go_quiet (first | ((with_reducible refine gate_store (t := 3) (p := 27) rfl ?_); (try (rw [drewN_self wr]; generalize hq_ : World.drewN wr _ = wr; have n0_ := Aside0.mk (Kd.R_at hq_ HO_5.out); have n1_ := Aside0.mk (blk_at hq_ BK474.out); have n2_ := Aside0.mk (below_at hq_ HB.out); clear hq_ HO_5 BK474 HB; have HO_5 := n0_; have BK474 := n1_; have HB := n2_; clear n0_ n1_ n2_; (try (have HP18 := Kd.R_putg HO_5.out (x22_1 : Int) (-1))))); refine store_event (t := 3) (p := 27) (v := ?vo_w19) (w1 := (wr.setCell ⟨go17, (x22_1 : Int).toNat, none⟩ (.int .i64 (-1)))) ?hg ?ho ?hn ?hr ?_; (case ho => rfl); (case hg => rfl); (case hn => rfl); (case hr => first | (go_simp; done) | (go_simp; rfl)); intro w19 hw; have hg : wr.grownBy w19 (some go17) := (by rw [hw]; exact HP18.2); have hp_ : Kd.R (Kd.int .i64) 3 w19 w.heap.size (fun _ => True) (.slice (some ⟨go17, 0, none⟩) x5_1.length co13) y479 := (by rw [hw, Ny479.out]; exact HP18.1); clear HP18; have n0_ := Aside0.mk (hp_); have n1_ := Aside0.mk (blk_grown (g := gb474) (o := .cells #[.slice A0_0 l0_0.length c0_0, .slice A0_1 l0_1.length c0_1] 26 (0, 0)) (by (with_reducible repeat (first | refine blk_drewN ?_ _ | refine blk_drew ?_ | refine blk_alloc ?_ _)); exact BK474.out) hg (Kd.R_ne HO_5.out BK474.out (by decide))); have n2_ := Aside0.mk ((by rw [hw]; exact below_set (HB.out) GB17.out : Below w.heap.size w w19)); clear HO_5; clear BK474; clear HB; have HO_5 := n0_; have BK474 := n1_; have HB := n2_; clear n0_ n1_ n2_; clear hg hw hp_)); try go_wp2_with (first | ((with_reducible refine gate_store (t := 3) (p := 27) rfl ?_); (try (rw [drewN_self wr]; generalize hq_ : World.drewN wr _ = wr; have n0_ := Aside0.mk (Kd.R_at hq_ HO_5.out); have n1_ := Aside0.mk (blk_at hq_ BK474.out); have n2_ := Aside0.mk (below_at hq_ HB.out); clear hq_ HO_5 BK474 HB; have HO_5 := n0_; have BK474 := n1_; have HB := n2_; clear n0_ n1_ n2_; (try (have HP18 := Kd.R_putg HO_5.out (x22_1 : Int) (-1))))); refine store_event (t := 3) (p := 27) (v := ?vo_w19) (w1 := (wr.setCell ⟨go17, (x22_1 : Int).toNat, none⟩ (.int .i64 (-1)))) ?hg ?ho ?hn ?hr ?_; (case ho => rfl); (case hg => rfl); (case hn => rfl); (case hr => first | (go_simp; done) | (go_simp; rfl)); intro w19 hw; have hg : wr.grownBy w19 (some go17) := (by rw [hw]; exact HP18.2); have hp_ : Kd.R (Kd.int .i64) 3 w19 w.heap.size (fun _ => True) (.slice (some ⟨go17, 0, none⟩) x5_1.length co13) y479 := (by rw [hw, Ny479.out]; exact HP18.1); clear HP18; have n0_ := Aside0.mk (hp_); have n1_ := Aside0.mk (blk_grown (g := gb474) (o := .cells #[.slice A0_0 l0_0.length c0_0, .slice A0_1 l0_1.length c0_1] 26 (0, 0)) (by (with_reducible repeat (first | refine blk_drewN ?_ _ | refine blk_drew ?_ | refine blk_alloc ?_ _)); exact BK474.out) hg (Kd.R_ne HO_5.out BK474.out (by decide))); have n2_ := Aside0.mk ((by rw [hw]; exact below_set (HB.out) GB17.out : Below w.heap.size w w19)); clear HO_5; clear BK474; clear HB; have HO_5 := n0_; have BK474 := n1_; have HB := n2_; clear n0_ n1_ n2_; clear hg hw hp_)))
                  (try simp only [← hl5_1])
                  go_roundg k1
                  case measure => have := HK1.out; omega
                  case rel => exact ⟨(y479), (wrap64 (x22_1 + 1)), (by first | rfl | (simp; done) | (simp [*]; done)), H', ⟨by have := HK1.out; omega⟩, ⟨by (try simp only [hl5_1]); (with_reducible repeat (first | apply Kd.R_alloc | apply Kd.R_drewN | apply Kd.R_drew)); exact HO_5.out⟩, ⟨by (try simp only [hl5_1]); (with_reducible repeat (first | refine blk_drewN ?_ _ | refine blk_drew ?_ | refine blk_alloc ?_ _)); exact BK474.out⟩, ⟨by repeat (first | (with_reducible first | exact HB.out | apply below_alloc | apply pw_below_drewN | apply below_drew1 | refine below_set ?_ GE474.out) | exact HB.out)⟩⟩
                · rw [if_neg c16] at H
                  exact absurd H (by simp)
              · rw [if_neg c15] at H
                exact absurd H (by simp)
            · rw [if_neg c14] at H
              have c14b0 : decide (x22_1 < (y476.length : Int)) = false := decide_eq_false c14
              (try (have c14h0 := c14b0; simp only [hl5_1] at c14h0))
              clear c14
              by_cases c20 : 0 ≤ a1
              · rw [if_pos c20] at H
                have c20b0 := eq_true c20
                have c20b1 : decide (0 ≤ a1) = true := decide_eq_true c20
                clear c20
                obtain ⟨ji21, hji21⟩ : ∃ j_ : Int, (shl .u32 1 a1) = j_ := ⟨_, rfl⟩
                replace H : (graph_Distances.l1 k1 x5_1 0 0 ji21 l0_0 l0_1) = some r := by first | (rw [hji21] at H; exact H) | (simp only [hji21] at H ⊢; exact H)
                have hji21_ : (IntKind.u32.wrap (1 * 2 ^ min a1.toNat 32)) = ji21 := hji21
                have hji21z : a1 ≤ 32 → (IntKind.u32.wrap (1 * 2 ^ a1.toNat)) = ji21 := shl_small hji21
                have hji21u : (IntKind.u32.wrap (2 ^ min a1.toNat 32)) = ji21 := by have h_ := hji21_; rw [Int.one_mul] at h_; exact h_
                have hji21v : a1 ≤ 32 → (IntKind.u32.wrap (2 ^ a1.toNat)) = ji21 := fun hle_ => by have h_ := hji21z hle_; rw [Int.one_mul] at h_; exact h_
                have H' := Aside0.mk H
                clear H
                go_wp2
                repeat (go_quiet (fail); try go_wp2)
                go_loopg [7, 8, 9] k1 (fun kq v7 v8 v9 w' => ∃ (x5_2 : List Int) (x7_2 : Int) (x8_2 : Int) (x9_2 : Int), v7 = .int .u32 x7_2 ∧ v8 = .int .i64 x8_2 ∧ v9 = .int .u32 x9_2 ∧ Aside0 (graph_Distances.l1 kq x5_2 x7_2 x8_2 x9_2 l0_0 l0_1 = some r) ∧ Aside0 (kq ≤ k1) ∧ Aside0 (Kd.R (Kd.int .i64) 3 w' w.heap.size (fun _ => True) (.slice Ao13 x5_1.length co13) x5_2) ∧ Aside0 (w'.heap[gb474]? = some (.cells #[(.slice A0_0 l0_0.length c0_0), (.slice A0_1 l0_1.length c0_1)] 26 (0, 0))) ∧ Aside0 (Below w.heap.size w w'))
                case atStart => exact ⟨(x5_1), (0), (0), (ji21), (by first | rfl | (simp; done) | (simp [*]; done)), (by first | rfl | (simp; done) | (simp [*]; done)), (by first | rfl | (simp; done) | (simp only [← hji21] <;> (first | rfl | simp)) | (simp [*]; done)), H', ⟨Nat.le_refl _⟩, ⟨by (try simp only [hl5_1]); (with_reducible repeat (first | apply Kd.R_alloc | apply Kd.R_drewN | apply Kd.R_drew)); exact HO_5.out⟩, ⟨by (try simp only [hl5_1]); (with_reducible repeat (first | refine blk_drewN ?_ _ | refine blk_drew ?_ | refine blk_alloc ?_ _)); exact BK474.out⟩, ⟨by repeat (first | (with_reducible first | exact HB.out | apply below_alloc | apply pw_below_drewN | apply below_drew1 | refine below_set ?_ GE474.out) | exact HB.out)⟩⟩
                case round =>
                  clear H'
                  try clear c1
                  try clear p1
                  try clear q1
                  try clear hx1
                  try clear c2
                  try clear p2
                  try clear c3
                  try clear c4
                  try clear c5
                  try clear c5b0
                  try clear c5b1
                  try clear c6
                  try clear c6b0
                  try clear c6b1
                  try clear p6
                  try clear c14
                  try clear c14b0
                  try clear c15
                  try clear c15b0
                  try clear c16
                  try clear c16b0
                  try clear p17
                  try clear q17
                  try clear hx17
                  try clear hf17
                  try clear c20
                  try clear c20b0
                  try clear c20b1
                  try clear hcz10_0
                  try clear hcz10_1
                  try clear hcz8_0
                  try clear hcz8_1
                  try clear hfz10_0
                  try clear hfz10_1
                  try clear hfz8_0
                  try clear hfz8_1
                  try clear hx17_0
                  try clear p17
                  try clear p2
                  try clear q17
                  obtain ⟨x5_2, x7_2, x8_2, x9_2, rfl, rfl, rfl, HA, HK2, HO_5, BK474, HB⟩ := hrel
                  have hl5_2 := (Kd.R_reads' HO_5.out).1
                  rw [hl5_2] at HO_5
                  (try simp only [hl5_2])
                  (try simp only [hl5_2] at BK474)
                  cases gk with
                  | zero => exact absurd HA.out (by simp [graph_Distances.l1])
                  | succ k2 =>
                    have H := HA.out
                    clear HA
                    simp only [graph_Distances.l1] at H
                    by_cases c22 : x9_2 = 0
                    · rw [if_pos c22] at H
                      have c22b0 : (x9_2 == 0) = true := beq_iff_eq.mpr c22
                      have c22b1 : (x9_2 != 0) = false := bne_eq_false_iff_eq.mpr c22
                      clear c22
                      obtain rfl := Option.some.inj H
                      go_wp2
                      repeat (go_quiet (fail); try go_wp2)
                      go_ret
                      exact ⟨_, by first | rfl | (simp [errW_none, errW_some] <;> rfl) | (simp only [← hji21]; first | rfl | (simp [errW_none, errW_some] <;> rfl)) | (simp [*, errW_none, errW_some] <;> rfl), by (with_reducible repeat (first | apply Kd.R_alloc | apply Kd.R_drewN | apply Kd.R_drew)); exact HO_5.out, by repeat (first | (with_reducible first | exact HB.out | apply below_alloc | apply pw_below_drewN | apply below_drew1 | refine below_set ?_ GE474.out) | exact HB.out)⟩
                    · rw [if_neg c22] at H
                      have c22b0 : (x9_2 == 0) = false := beq_eq_false_iff_ne.mpr c22
                      have c22b1 : (x9_2 != 0) = true := bne_iff_ne.mpr c22
                      have H' := Aside0.mk H
                      clear H
                      go_wp2
                      repeat (go_quiet (fail); try go_wp2)
                      go_loopg [10, 40] k2 (fun kq v10 v40 w' => ∃ (x5_3 : List Int) (x10_3 : Int) (x40_3 : Int), v10 = .int .u32 x10_3 ∧ v40 = .int .i64 x40_3 ∧ Aside0 (graph_Distances.l2 kq x5_3 (Go.bits .or .u32 x7_2 x9_2) x8_2 x9_2 x10_3 (x5_2.length : Int) x40_3 l0_0 l0_1 = some r) ∧ Aside0 (kq ≤ k2) ∧ Aside0 (Kd.R (Kd.int .i64) 3 w' w.heap.size (fun _ => True) (.slice Ao13 x5_2.length co13) x5_3) ∧ Aside0 (w'.heap[gb474]? = some (.cells #[(.slice A0_0 l0_0.length c0_0), (.slice A0_1 l0_1.length c0_1)] 26 (0, 0))) ∧ Aside0 (Below w.heap.size w w'))
                      case atStart => exact ⟨(x5_2), (0), (0), (by first | rfl | (simp; done) | (simp [*]; done)), (by first | rfl | (simp; done) | (simp [*]; done)), H', ⟨Nat.le_refl _⟩, ⟨by (try simp only [hl5_1]); (try simp only [hl5_2]); (with_reducible repeat (first | apply Kd.R_alloc | apply Kd.R_drewN | apply Kd.R_drew)); exact HO_5.out⟩, ⟨by (try simp only [hl5_1]); (try simp only [hl5_2]); (with_reducible repeat (first | refine blk_drewN ?_ _ | refine blk_drew ?_ | refine blk_alloc ?_ _)); exact BK474.out⟩, ⟨by repeat (first | (with_reducible first | exact HB.out | apply below_alloc | apply pw_below_drewN | apply below_drew1 | refine below_set ?_ GE474.out) | exact HB.out)⟩⟩
                      case round =>
                        clear H'
                        try clear c1
                        try clear p1
                        try clear q1
                        try clear hx1
                        try clear c2
                        try clear p2
                        try clear c3
                        try clear c4
                        try clear c5
                        try clear c5b0
                        try clear c5b1
                        try clear c6
                        try clear c6b0
                        try clear c6b1
                        try clear p6
                        try clear c14
                        try clear c14b0
                        try clear c15
                        try clear c15b0
                        try clear c16
                        try clear c16b0
                        try clear p17
                        try clear q17
                        try clear hx17
                        try clear hf17
                        try clear c20
                        try clear c20b0
                        try clear c20b1
                        try clear c22
                        try clear c22b0
                        try clear c22b1
                        try clear hcz10_0
                        try clear hcz10_1
                        try clear hcz8_0
                        try clear hcz8_1
                        try clear hfz10_0
                        try clear hfz10_1
                        try clear hfz8_0
                        try clear hfz8_1
                        try clear hx17_0
                        try clear p1
                        try clear p17
                        try clear p2
                        try clear p6
                        try clear q1
                        try clear q17
                        obtain ⟨x5_3, x10_3, x40_3, rfl, rfl, HA, HK3, HO_5, BK474, HB⟩ := hrel
                        have hl5_3 := (Kd.R_reads' HO_5.out).1
                        rw [hl5_3] at HO_5
                        (try simp only [hl5_3])
                        (try simp only [hl5_3] at BK474)
                        cases gk with
                        | zero => exact absurd HA.out (by simp [graph_Distances.l2])
                        | succ k3 =>
                          have H := HA.out
                          clear HA
                          simp only [graph_Distances.l2] at H
                          by_cases c23 : x40_3 < (x5_2.length : Int)
                          · rw [if_pos c23] at H
                            have c23b0 : decide (x40_3 < (x5_2.length : Int)) = true := decide_eq_true c23
                            (try (have c23h0 := c23b0; simp only [hl5_1, hl5_2, hl5_3] at c23h0))
                            clear c23
                            by_cases c24 : 0 ≤ x40_3
                            · rw [if_pos c24] at H
                              have c24b0 := eq_true c24
                              have c24b1 : decide (0 ≤ x40_3) = true := decide_eq_true c24
                              clear c24
                              obtain ⟨ji25, hji25⟩ : ∃ j_ : Int, (shr .u32 x9_2 x40_3) = j_ := ⟨_, rfl⟩
                              replace H : (if (Go.bits .and .u32 (ji25) 1) = 1 then (if x40_3 < (x5_3.length : Int) then ((graph_around.f k3 l0_0 l0_1 x40_3).bind fun t481 => (graph_Distances.l2 k3 (x5_3.set (x40_3 : Int).toNat x8_2) (Go.bits .or .u32 x7_2 x9_2) x8_2 x9_2 (Go.bits .or .u32 x10_3 t481) (x5_2.length : Int) (wrap64 (x40_3 + 1)) l0_0 l0_1)) else (none)) else (graph_Distances.l2 k3 x5_3 (Go.bits .or .u32 x7_2 x9_2) x8_2 x9_2 x10_3 (x5_2.length : Int) (wrap64 (x40_3 + 1)) l0_0 l0_1)) = some r := by first | (rw [hji25] at H; exact H) | (simp only [hji25] at H ⊢; exact H)
                              have hji25_ : (x9_2 / 2 ^ min x40_3.toNat 32) = ji25 := hji25
                              have hji25z : x40_3 ≤ 32 → (x9_2 / 2 ^ x40_3.toNat) = ji25 := shr_small hji25
                              by_cases c26 : (Go.bits .and .u32 (ji25) 1) = 1
                              · rw [if_pos c26] at H
                                have c26b0 : ((Go.bits .and .u32 (ji25) 1) == 1) = true := beq_iff_eq.mpr c26
                                have c26b1 : ((Go.bits .and .u32 (ji25) 1) != 1) = false := bne_eq_false_iff_eq.mpr c26
                                clear c26
                                by_cases c27 : x40_3 < (x5_3.length : Int)
                                · rw [if_pos c27] at H
                                  have c27b0 : decide (x40_3 < (x5_3.length : Int)) = true := decide_eq_true c27
                                  (try (have c27h0 := c27b0; simp only [hl5_1, hl5_2, hl5_3] at c27h0))
                                  clear c27
                                  obtain ⟨y480, hy480⟩ : ∃ y_ : List Int, y_ = (x5_3.set (x40_3 : Int).toNat x8_2) := ⟨_, rfl⟩
                                  replace H : ((graph_around.f k3 l0_0 l0_1 x40_3).bind fun t481 => (graph_Distances.l2 k3 y480 (Go.bits .or .u32 x7_2 x9_2) x8_2 x9_2 (Go.bits .or .u32 x10_3 t481) (x5_2.length : Int) (wrap64 (x40_3 + 1)) l0_0 l0_1)) = some r := by first | (rw [hy480]; with_reducible exact H) | (have H2_ := (Option.bind_some _ _).symm.trans H; rw [hy480]; with_reducible exact H2_) | (have H2_ := (Option.bind_some _ _).symm.trans H; with_reducible exact H2_) | with_reducible exact H | (rw [hy480]; exact H) | exact H
                                  have Ny480 := Aside0.mk hy480
                                  clear hy480
                                  replace H := Option.bind_eq_some_iff.mp H
                                  obtain ⟨t481, A290, H⟩ := H
                                  replace H : (graph_Distances.l2 k3 y480 (Go.bits .or .u32 x7_2 x9_2) x8_2 x9_2 (Go.bits .or .u32 x10_3 t481) (x5_2.length : Int) (wrap64 (x40_3 + 1)) l0_0 l0_1) = some r := H
                                  have A29 := Aside0.mk A290
                                  clear A290
                                  have H' := Aside0.mk H
                                  clear H
                                  have p28 : 0 ≤ (x40_3 : Int) := of_decide_eq_true (by first | (with_reducible assumption) | assumption)
                                  have q28 : (x40_3 : Int) < ((x5_3.length : Int) : Int) := of_decide_eq_true (by first | (with_reducible assumption) | assumption)
                                  obtain ⟨go28, co28, eo28, gb28, gl28, cl28, HG28⟩ := Kd.R_form HO_5.out (by omega)
                                  (first | cases eo28 | (injection eo28 with ea_ en_ ec_; (first | subst ea_ | (injection ea_ with ea_; subst ea_)); subst ec_; clear en_))
                                  have GB28 := Aside0.mk gb28
                                  have GG28 := Aside0.mk HG28
                                  clear gb28 gl28 HG28
                                  obtain ⟨hx28_0, hf28_0⟩ := Kd.R_celln 0 HO_5.out (x40_3 : Int) p28 q28
                                  replace p28 := eq_true p28
                                  replace q28 := eq_true q28
                                  have HP30 := Kd.R_putg HO_5.out (x40_3 : Int) x8_2
                                  go_wp2_with (first | ((with_reducible refine gate_store (t := 3) (p := 51) rfl ?_); (try (rw [drewN_self wr]; generalize hq_ : World.drewN wr _ = wr; have n0_ := Aside0.mk (Kd.R_at hq_ HO_5.out); have n1_ := Aside0.mk (blk_at hq_ BK474.out); have n2_ := Aside0.mk (below_at hq_ HB.out); clear hq_ HO_5 BK474 HB; have HO_5 := n0_; have BK474 := n1_; have HB := n2_; clear n0_ n1_ n2_; (try (have HP30 := Kd.R_putg HO_5.out (x40_3 : Int) x8_2)))); refine store_event (t := 3) (p := 51) (v := ?vo_w31) (w1 := (wr.setCell ⟨go28, (x40_3 : Int).toNat, none⟩ (.int .i64 x8_2))) ?hg ?ho ?hn ?hr ?_; (case ho => rfl); (case hg => rfl); (case hn => rfl); (case hr => first | (go_simp; done) | (go_simp; rfl)); intro w31 hw; have hg : wr.grownBy w31 (some go28) := (by rw [hw]; exact HP30.2); have hp_ : Kd.R (Kd.int .i64) 3 w31 w.heap.size (fun _ => True) (.slice (some ⟨go28, 0, none⟩) x5_3.length co13) y480 := (by rw [hw, Ny480.out]; exact HP30.1); clear HP30; have n0_ := Aside0.mk (hp_); have n1_ := Aside0.mk (blk_grown (g := gb474) (o := .cells #[.slice A0_0 l0_0.length c0_0, .slice A0_1 l0_1.length c0_1] 26 (0, 0)) (by (with_reducible repeat (first | refine blk_drewN ?_ _ | refine blk_drew ?_ | refine blk_alloc ?_ _)); exact BK474.out) hg (Kd.R_ne HO_5.out BK474.out (by decide))); have n2_ := Aside0.mk ((by rw [hw]; exact below_set (HB.out) GB28.out : Below w.heap.size w w31)); clear HO_5; clear BK474; clear HB; have HO_5 := n0_; have BK474 := n1_; have HB := n2_; clear n0_ n1_ n2_; clear hg hw hp_; have hcz32_0 : w31.cell? ⟨gb474, 0, none⟩ = some (.slice A0_0 l0_0.length c0_0) := (blk_cell BK474.out 0).trans rfl; have hcz32_1 : w31.cell? ⟨gb474, 1, none⟩ = some (.slice A0_1 l0_1.length c0_1) := (blk_cell BK474.out 1).trans rfl; have hfz32_0 := blk_frozen BK474.out 0; have hfz32_1 := blk_frozen BK474.out 1) | (go_at_call 57; (with_reducible refine (graph_around.calls k3 _ _ l0_0 _ _ l0_1 x40_3 t481 _ ?side1 ?side2 ?side3 ?side4 A29.out).mono ?_); (case side1 => repeat (first | exact (Kd.C_below HR0_0.out HB.out) | (with_reducible refine Kd.C_alloc ?_ _) | (with_reducible refine Kd.C_drewN ?_ _) | (with_reducible refine Kd.C_drew ?_))); (case side2 => exact HC0_0.out); (case side3 => repeat (first | exact (Kd.C_below HR0_1.out HB.out) | (with_reducible refine Kd.C_alloc ?_ _) | (with_reducible refine Kd.C_drewN ?_ _) | (with_reducible refine Kd.C_drew ?_))); (case side4 => exact HC0_1.out); rintro e w33 ⟨rfl, hb⟩; have n0_ := Aside0.mk (Kd.R_below (by (with_reducible repeat (first | apply Kd.R_alloc | apply Kd.R_drewN | apply Kd.R_drew)); exact HO_5.out) hb); have n1_ := Aside0.mk (blk_below (g := gb474) (o := .cells #[.slice A0_0 l0_0.length c0_0, .slice A0_1 l0_1.length c0_1] 26 (0, 0)) (by (with_reducible repeat (first | refine blk_drewN ?_ _ | refine blk_drew ?_ | refine blk_alloc ?_ _)); exact BK474.out) hb); have n2_ := Aside0.mk (below_step (by repeat (first | (with_reducible first | exact HB.out | apply below_alloc | apply pw_below_drewN | apply below_drew1 | refine below_set ?_ GE474.out) | exact HB.out)) hb); clear HO_5; clear BK474; clear HB; have HO_5 := n0_; have BK474 := n1_; have HB := n2_; clear n0_ n1_ n2_; (try clear hb); (try clear hb2); (try clear hk); (try clear hi)))
                                  repeat (go_quiet (first | ((with_reducible refine gate_store (t := 3) (p := 51) rfl ?_); (try (rw [drewN_self wr]; generalize hq_ : World.drewN wr _ = wr; have n0_ := Aside0.mk (Kd.R_at hq_ HO_5.out); have n1_ := Aside0.mk (blk_at hq_ BK474.out); have n2_ := Aside0.mk (below_at hq_ HB.out); clear hq_ HO_5 BK474 HB; have HO_5 := n0_; have BK474 := n1_; have HB := n2_; clear n0_ n1_ n2_; (try (have HP30 := Kd.R_putg HO_5.out (x40_3 : Int) x8_2)))); refine store_event (t := 3) (p := 51) (v := ?vo_w31) (w1 := (wr.setCell ⟨go28, (x40_3 : Int).toNat, none⟩ (.int .i64 x8_2))) ?hg ?ho ?hn ?hr ?_; (case ho => rfl); (case hg => rfl); (case hn => rfl); (case hr => first | (go_simp; done) | (go_simp; rfl)); intro w31 hw; have hg : wr.grownBy w31 (some go28) := (by rw [hw]; exact HP30.2); have hp_ : Kd.R (Kd.int .i64) 3 w31 w.heap.size (fun _ => True) (.slice (some ⟨go28, 0, none⟩) x5_3.length co13) y480 := (by rw [hw, Ny480.out]; exact HP30.1); clear HP30; have n0_ := Aside0.mk (hp_); have n1_ := Aside0.mk (blk_grown (g := gb474) (o := .cells #[.slice A0_0 l0_0.length c0_0, .slice A0_1 l0_1.length c0_1] 26 (0, 0)) (by (with_reducible repeat (first | refine blk_drewN ?_ _ | refine blk_drew ?_ | refine blk_alloc ?_ _)); exact BK474.out) hg (Kd.R_ne HO_5.out BK474.out (by decide))); have n2_ := Aside0.mk ((by rw [hw]; exact below_set (HB.out) GB28.out : Below w.heap.size w w31)); clear HO_5; clear BK474; clear HB; have HO_5 := n0_; have BK474 := n1_; have HB := n2_; clear n0_ n1_ n2_; clear hg hw hp_; have hcz32_0 : w31.cell? ⟨gb474, 0, none⟩ = some (.slice A0_0 l0_0.length c0_0) := (blk_cell BK474.out 0).trans rfl; have hcz32_1 : w31.cell? ⟨gb474, 1, none⟩ = some (.slice A0_1 l0_1.length c0_1) := (blk_cell BK474.out 1).trans rfl; have hfz32_0 := blk_frozen BK474.out 0; have hfz32_1 := blk_frozen BK474.out 1) | (go_at_call 57; (with_reducible refine (graph_around.calls k3 _ _ l0_0 _ _ l0_1 x40_3 t481 _ ?side1 ?side2 ?side3 ?side4 A29.out).mono ?_); (case side1 => repeat (first | exact (Kd.C_below HR0_0.out HB.out) | (with_reducible refine Kd.C_alloc ?_ _) | (with_reducible refine Kd.C_drewN ?_ _) | (with_reducible refine Kd.C_drew ?_))); (case side2 => exact HC0_0.out); (case side3 => repeat (first | exact (Kd.C_below HR0_1.out HB.out) | (with_reducible refine Kd.C_alloc ?_ _) | (with_reducible refine Kd.C_drewN ?_ _) | (with_reducible refine Kd.C_drew ?_))); (case side4 => exact HC0_1.out); rintro e w33 ⟨rfl, hb⟩; have n0_ := Aside0.mk (Kd.R_below (by (with_reducible repeat (first | apply Kd.R_alloc | apply Kd.R_drewN | apply Kd.R_drew)); exact HO_5.out) hb); have n1_ := Aside0.mk (blk_below (g := gb474) (o := .cells #[.slice A0_0 l0_0.length c0_0, .slice A0_1 l0_1.length c0_1] 26 (0, 0)) (by (with_reducible repeat (first | refine blk_drewN ?_ _ | refine blk_drew ?_ | refine blk_alloc ?_ _)); exact BK474.out) hb); have n2_ := Aside0.mk (below_step (by repeat (first | (with_reducible first | exact HB.out | apply below_alloc | apply pw_below_drewN | apply below_drew1 | refine below_set ?_ GE474.out) | exact HB.out)) hb); clear HO_5; clear BK474; clear HB; have HO_5 := n0_; have BK474 := n1_; have HB := n2_; clear n0_ n1_ n2_; (try clear hb); (try clear hb2); (try clear hk); (try clear hi))); try go_wp2_with (first | ((with_reducible refine gate_store (t := 3) (p := 51) rfl ?_); (try (rw [drewN_self wr]; generalize hq_ : World.drewN wr _ = wr; have n0_ := Aside0.mk (Kd.R_at hq_ HO_5.out); have n1_ := Aside0.mk (blk_at hq_ BK474.out); have n2_ := Aside0.mk (below_at hq_ HB.out); clear hq_ HO_5 BK474 HB; have HO_5 := n0_; have BK474 := n1_; have HB := n2_; clear n0_ n1_ n2_; (try (have HP30 := Kd.R_putg HO_5.out (x40_3 : Int) x8_2)))); refine store_event (t := 3) (p := 51) (v := ?vo_w31) (w1 := (wr.setCell ⟨go28, (x40_3 : Int).toNat, none⟩ (.int .i64 x8_2))) ?hg ?ho ?hn ?hr ?_; (case ho => rfl); (case hg => rfl); (case hn => rfl); (case hr => first | (go_simp; done) | (go_simp; rfl)); intro w31 hw; have hg : wr.grownBy w31 (some go28) := (by rw [hw]; exact HP30.2); have hp_ : Kd.R (Kd.int .i64) 3 w31 w.heap.size (fun _ => True) (.slice (some ⟨go28, 0, none⟩) x5_3.length co13) y480 := (by rw [hw, Ny480.out]; exact HP30.1); clear HP30; have n0_ := Aside0.mk (hp_); have n1_ := Aside0.mk (blk_grown (g := gb474) (o := .cells #[.slice A0_0 l0_0.length c0_0, .slice A0_1 l0_1.length c0_1] 26 (0, 0)) (by (with_reducible repeat (first | refine blk_drewN ?_ _ | refine blk_drew ?_ | refine blk_alloc ?_ _)); exact BK474.out) hg (Kd.R_ne HO_5.out BK474.out (by decide))); have n2_ := Aside0.mk ((by rw [hw]; exact below_set (HB.out) GB28.out : Below w.heap.size w w31)); clear HO_5; clear BK474; clear HB; have HO_5 := n0_; have BK474 := n1_; have HB := n2_; clear n0_ n1_ n2_; clear hg hw hp_; have hcz32_0 : w31.cell? ⟨gb474, 0, none⟩ = some (.slice A0_0 l0_0.length c0_0) := (blk_cell BK474.out 0).trans rfl; have hcz32_1 : w31.cell? ⟨gb474, 1, none⟩ = some (.slice A0_1 l0_1.length c0_1) := (blk_cell BK474.out 1).trans rfl; have hfz32_0 := blk_frozen BK474.out 0; have hfz32_1 := blk_frozen BK474.out 1) | (go_at_call 57; (with_reducible refine (graph_around.calls k3 _ _ l0_0 _ _ l0_1 x40_3 t481 _ ?side1 ?side2 ?side3 ?side4 A29.out).mono ?_); (case side1 => repeat (first | exact (Kd.C_below HR0_0.out HB.out) | (with_reducible refine Kd.C_alloc ?_ _) | (with_reducible refine Kd.C_drewN ?_ _) | (with_reducible refine Kd.C_drew ?_))); (case side2 => exact HC0_0.out); (case side3 => repeat (first | exact (Kd.C_below HR0_1.out HB.out) | (with_reducible refine Kd.C_alloc ?_ _) | (with_reducible refine Kd.C_drewN ?_ _) | (with_reducible refine Kd.C_drew ?_))); (case side4 => exact HC0_1.out); rintro e w33 ⟨rfl, hb⟩; have n0_ := Aside0.mk (Kd.R_below (by (with_reducible repeat (first | apply Kd.R_alloc | apply Kd.R_drewN | apply Kd.R_drew)); exact HO_5.out) hb); have n1_ := Aside0.mk (blk_below (g := gb474) (o := .cells #[.slice A0_0 l0_0.length c0_0, .slice A0_1 l0_1.length c0_1] 26 (0, 0)) (by (with_reducible repeat (first | refine blk_drewN ?_ _ | refine blk_drew ?_ | refine blk_alloc ?_ _)); exact BK474.out) hb); have n2_ := Aside0.mk (below_step (by repeat (first | (with_reducible first | exact HB.out | apply below_alloc | apply pw_below_drewN | apply below_drew1 | refine below_set ?_ GE474.out) | exact HB.out)) hb); clear HO_5; clear BK474; clear HB; have HO_5 := n0_; have BK474 := n1_; have HB := n2_; clear n0_ n1_ n2_; (try clear hb); (try clear hb2); (try clear hk); (try clear hi))))
                                  (try simp only [← hl5_3])
                                  go_roundg k3
                                  case measure => have := HK1.out; have := HK2.out; have := HK3.out; omega
                                  case rel => exact ⟨(y480), (Go.bits .or .u32 x10_3 t481), (wrap64 (x40_3 + 1)), (by first | rfl | (simp; done) | (simp [*]; done)), (by first | rfl | (simp; done) | (simp [*]; done)), H', ⟨by have := HK1.out; have := HK2.out; have := HK3.out; omega⟩, ⟨by (try simp only [hl5_1]); (try simp only [hl5_2]); (try simp only [hl5_3]); (with_reducible repeat (first | apply Kd.R_alloc | apply Kd.R_drewN | apply Kd.R_drew)); exact HO_5.out⟩, ⟨by (try simp only [hl5_1]); (try simp only [hl5_2]); (try simp only [hl5_3]); (with_reducible repeat (first | refine blk_drewN ?_ _ | refine blk_drew ?_ | refine blk_alloc ?_ _)); exact BK474.out⟩, ⟨by repeat (first | (with_reducible first | exact HB.out | apply below_alloc | apply pw_below_drewN | apply below_drew1 | refine below_set ?_ GE474.out) | exact HB.out)⟩⟩
                                · rw [if_neg c27] at H
                                  exact absurd H (by simp)
                              · rw [if_neg c26] at H
                                have c26b0 : ((Go.bits .and .u32 (ji25) 1) == 1) = false := beq_eq_false_iff_ne.mpr c26
                                have c26b1 : ((Go.bits .and .u32 (ji25) 1) != 1) = true := bne_iff_ne.mpr c26
                                have H' := Aside0.mk H
                                clear H
                                go_wp2
                                repeat (go_quiet (fail); try go_wp2)
                                (try simp only [← hl5_3])
                                go_roundg k3
                                case measure => have := HK1.out; have := HK2.out; have := HK3.out; omega
                                case rel => exact ⟨(x5_3), (x10_3), (wrap64 (x40_3 + 1)), (by first | rfl | (simp; done) | (simp [*]; done)), (by first | rfl | (simp; done) | (simp [*]; done)), H', ⟨by have := HK1.out; have := HK2.out; have := HK3.out; omega⟩, ⟨by (try simp only [hl5_1]); (try simp only [hl5_2]); (try simp only [hl5_3]); (with_reducible repeat (first | apply Kd.R_alloc | apply Kd.R_drewN | apply Kd.R_drew)); exact HO_5.out⟩, ⟨by (try simp only [hl5_1]); (try simp only [hl5_2]); (try simp only [hl5_3]); (with_reducible repeat (first | refine blk_drewN ?_ _ | refine blk_drew ?_ | refine blk_alloc ?_ _)); exact BK474.out⟩, ⟨by repeat (first | (with_reducible first | exact HB.out | apply below_alloc | apply pw_below_drewN | apply below_drew1 | refine below_set ?_ GE474.out) | exact HB.out)⟩⟩
                            · rw [if_neg c24] at H
                              exact absurd H (by simp)
                          · rw [if_neg c23] at H
                            have c23b0 : decide (x40_3 < (x5_2.length : Int)) = false := decide_eq_false c23
                            (try (have c23h0 := c23b0; simp only [hl5_1, hl5_2, hl5_3] at c23h0))
                            clear c23
                            have H' := Aside0.mk H
                            clear H
                            go_wp2
                            repeat (go_quiet (fail); try go_wp2)
                            (try simp only [← hl5_2, ← hl5_3])
                            go_roundg k3
                            case measure => have := HK1.out; have := HK2.out; have := HK3.out; omega
                            case rel => exact ⟨(x5_3), ((Go.bits .or .u32 x7_2 x9_2)), (wrap64 (x8_2 + 1)), (Go.bits .andNot .u32 x10_3 (Go.bits .or .u32 x7_2 x9_2)), (by first | rfl | (simp; done) | (simp [*]; done)), (by first | rfl | (simp; done) | (simp [*]; done)), (by first | rfl | (simp; done) | (simp [*]; done)), H', ⟨by have := HK1.out; have := HK2.out; have := HK3.out; omega⟩, ⟨by (try simp only [hl5_1]); (try simp only [hl5_2]); (try simp only [hl5_3]); (with_reducible repeat (first | apply Kd.R_alloc | apply Kd.R_drewN | apply Kd.R_drew)); exact HO_5.out⟩, ⟨by (try simp only [hl5_1]); (try simp only [hl5_2]); (try simp only [hl5_3]); (with_reducible repeat (first | refine blk_drewN ?_ _ | refine blk_drew ?_ | refine blk_alloc ?_ _)); exact BK474.out⟩, ⟨by repeat (first | (with_reducible first | exact HB.out | apply below_alloc | apply pw_below_drewN | apply below_drew1 | refine below_set ?_ GE474.out) | exact HB.out)⟩⟩
              · rw [if_neg c20] at H
                exact absurd H (by simp)
      · rw [if_neg c6] at H
        exact absurd H (by simp)
    · rw [if_neg c5] at H
      exact absurd H (by simp)
  · replace c4 := Bool.eq_false_iff.mpr c4
    subst c4
    have H1 : (some ([] : List Int)) = some r := by rw [if_neg (show ¬ (false = true) by decide)] at H; exact H
    clear H
    have H := H1
    clear H1
    obtain rfl := Option.some.inj H
    go_enter Try.func32, Try.ntmps32
    go_wp2_with (first | ((with_reducible refine gate_dst (N := 2) rfl ?_); refine box_event ?hg (N := 2) ?hd (cs := #[.slice A0_0 l0_0.length c0_0, .slice A0_1 l0_1.length c0_1]) (t := 26) ?hr ?_; (case hd => rfl); (case hg => rfl); (case hr => first | (go_simp; done) | (go_simp; rfl)); intro gb474 hg w34 hbox hb; have n0_ := Aside0.mk (below_step (by repeat (first | (with_reducible first | exact HB.out | apply below_alloc | apply pw_below_drewN | apply below_drew1) | exact HB.out)) hb); have n1_ := Aside0.mk (hbox); have n2_ := Aside0.mk ((by rw [hg]; exact (below_size (by repeat (first | (with_reducible first | exact HB.out | apply below_alloc | apply pw_below_drewN | apply below_drew1) | exact HB.out))) : w.heap.size ≤ gb474)); have n3_ := Aside0.mk ((by rw [hg]; exact (below_size (by repeat (first | (with_reducible first | exact HB.out | apply below_alloc | apply pw_below_drewN | apply below_drew1) | exact HB.out))) : w.heap.size ≤ gb474)); clear HB; have HB := n0_; have BK474 := n1_; have GW474 := n2_; have GE474 := n3_; clear n0_ n1_ n2_ n3_; clear hb hbox hg; have hcz35_0 : w34.cell? ⟨gb474, 0, none⟩ = some (.slice A0_0 l0_0.length c0_0) := (blk_cell BK474.out 0).trans rfl; have hcz35_1 : w34.cell? ⟨gb474, 1, none⟩ = some (.slice A0_1 l0_1.length c0_1) := (blk_cell BK474.out 1).trans rfl; have hfz35_0 := blk_frozen BK474.out 0; have hfz35_1 := blk_frozen BK474.out 1) | (go_at_call 56; (with_reducible refine (graph_node.calls _ _ l0_0 _ _ l0_1 a1 false _ ?side1 ?side2 ?side3 ?side4 A3.out).mono ?_); (case side1 => repeat (first | exact (Kd.C_below HR0_0.out HB.out) | (with_reducible refine Kd.C_alloc ?_ _) | (with_reducible refine Kd.C_drewN ?_ _) | (with_reducible refine Kd.C_drew ?_))); (case side2 => exact HC0_0.out); (case side3 => repeat (first | exact (Kd.C_below HR0_1.out HB.out) | (with_reducible refine Kd.C_alloc ?_ _) | (with_reducible refine Kd.C_drewN ?_ _) | (with_reducible refine Kd.C_drew ?_))); (case side4 => exact HC0_1.out); rintro e w36 ⟨rfl, hb⟩; have n0_ := Aside0.mk (blk_below (g := gb474) (o := .cells #[.slice A0_0 l0_0.length c0_0, .slice A0_1 l0_1.length c0_1] 26 (0, 0)) (by (with_reducible repeat (first | refine blk_drewN ?_ _ | refine blk_drew ?_ | refine blk_alloc ?_ _)); exact BK474.out) hb); have n1_ := Aside0.mk (below_step (by repeat (first | (with_reducible first | exact HB.out | apply below_alloc | apply pw_below_drewN | apply below_drew1 | refine below_set ?_ GE474.out) | exact HB.out)) hb); clear BK474; clear HB; have BK474 := n0_; have HB := n1_; clear n0_ n1_; (try clear hb); (try clear hb2); (try clear hk); (try clear hi)))
    repeat (go_quiet (first | ((with_reducible refine gate_dst (N := 2) rfl ?_); refine box_event ?hg (N := 2) ?hd (cs := #[.slice A0_0 l0_0.length c0_0, .slice A0_1 l0_1.length c0_1]) (t := 26) ?hr ?_; (case hd => rfl); (case hg => rfl); (case hr => first | (go_simp; done) | (go_simp; rfl)); intro gb474 hg w34 hbox hb; have n0_ := Aside0.mk (below_step (by repeat (first | (with_reducible first | exact HB.out | apply below_alloc | apply pw_below_drewN | apply below_drew1) | exact HB.out)) hb); have n1_ := Aside0.mk (hbox); have n2_ := Aside0.mk ((by rw [hg]; exact (below_size (by repeat (first | (with_reducible first | exact HB.out | apply below_alloc | apply pw_below_drewN | apply below_drew1) | exact HB.out))) : w.heap.size ≤ gb474)); have n3_ := Aside0.mk ((by rw [hg]; exact (below_size (by repeat (first | (with_reducible first | exact HB.out | apply below_alloc | apply pw_below_drewN | apply below_drew1) | exact HB.out))) : w.heap.size ≤ gb474)); clear HB; have HB := n0_; have BK474 := n1_; have GW474 := n2_; have GE474 := n3_; clear n0_ n1_ n2_ n3_; clear hb hbox hg; have hcz35_0 : w34.cell? ⟨gb474, 0, none⟩ = some (.slice A0_0 l0_0.length c0_0) := (blk_cell BK474.out 0).trans rfl; have hcz35_1 : w34.cell? ⟨gb474, 1, none⟩ = some (.slice A0_1 l0_1.length c0_1) := (blk_cell BK474.out 1).trans rfl; have hfz35_0 := blk_frozen BK474.out 0; have hfz35_1 := blk_frozen BK474.out 1) | (go_at_call 56; (with_reducible refine (graph_node.calls _ _ l0_0 _ _ l0_1 a1 false _ ?side1 ?side2 ?side3 ?side4 A3.out).mono ?_); (case side1 => repeat (first | exact (Kd.C_below HR0_0.out HB.out) | (with_reducible refine Kd.C_alloc ?_ _) | (with_reducible refine Kd.C_drewN ?_ _) | (with_reducible refine Kd.C_drew ?_))); (case side2 => exact HC0_0.out); (case side3 => repeat (first | exact (Kd.C_below HR0_1.out HB.out) | (with_reducible refine Kd.C_alloc ?_ _) | (with_reducible refine Kd.C_drewN ?_ _) | (with_reducible refine Kd.C_drew ?_))); (case side4 => exact HC0_1.out); rintro e w36 ⟨rfl, hb⟩; have n0_ := Aside0.mk (blk_below (g := gb474) (o := .cells #[.slice A0_0 l0_0.length c0_0, .slice A0_1 l0_1.length c0_1] 26 (0, 0)) (by (with_reducible repeat (first | refine blk_drewN ?_ _ | refine blk_drew ?_ | refine blk_alloc ?_ _)); exact BK474.out) hb); have n1_ := Aside0.mk (below_step (by repeat (first | (with_reducible first | exact HB.out | apply below_alloc | apply pw_below_drewN | apply below_drew1 | refine below_set ?_ GE474.out) | exact HB.out)) hb); clear BK474; clear HB; have BK474 := n0_; have HB := n1_; clear n0_ n1_; (try clear hb); (try clear hb2); (try clear hk); (try clear hi))); try go_wp2_with (first | ((with_reducible refine gate_dst (N := 2) rfl ?_); refine box_event ?hg (N := 2) ?hd (cs := #[.slice A0_0 l0_0.length c0_0, .slice A0_1 l0_1.length c0_1]) (t := 26) ?hr ?_; (case hd => rfl); (case hg => rfl); (case hr => first | (go_simp; done) | (go_simp; rfl)); intro gb474 hg w34 hbox hb; have n0_ := Aside0.mk (below_step (by repeat (first | (with_reducible first | exact HB.out | apply below_alloc | apply pw_below_drewN | apply below_drew1) | exact HB.out)) hb); have n1_ := Aside0.mk (hbox); have n2_ := Aside0.mk ((by rw [hg]; exact (below_size (by repeat (first | (with_reducible first | exact HB.out | apply below_alloc | apply pw_below_drewN | apply below_drew1) | exact HB.out))) : w.heap.size ≤ gb474)); have n3_ := Aside0.mk ((by rw [hg]; exact (below_size (by repeat (first | (with_reducible first | exact HB.out | apply below_alloc | apply pw_below_drewN | apply below_drew1) | exact HB.out))) : w.heap.size ≤ gb474)); clear HB; have HB := n0_; have BK474 := n1_; have GW474 := n2_; have GE474 := n3_; clear n0_ n1_ n2_ n3_; clear hb hbox hg; have hcz35_0 : w34.cell? ⟨gb474, 0, none⟩ = some (.slice A0_0 l0_0.length c0_0) := (blk_cell BK474.out 0).trans rfl; have hcz35_1 : w34.cell? ⟨gb474, 1, none⟩ = some (.slice A0_1 l0_1.length c0_1) := (blk_cell BK474.out 1).trans rfl; have hfz35_0 := blk_frozen BK474.out 0; have hfz35_1 := blk_frozen BK474.out 1) | (go_at_call 56; (with_reducible refine (graph_node.calls _ _ l0_0 _ _ l0_1 a1 false _ ?side1 ?side2 ?side3 ?side4 A3.out).mono ?_); (case side1 => repeat (first | exact (Kd.C_below HR0_0.out HB.out) | (with_reducible refine Kd.C_alloc ?_ _) | (with_reducible refine Kd.C_drewN ?_ _) | (with_reducible refine Kd.C_drew ?_))); (case side2 => exact HC0_0.out); (case side3 => repeat (first | exact (Kd.C_below HR0_1.out HB.out) | (with_reducible refine Kd.C_alloc ?_ _) | (with_reducible refine Kd.C_drewN ?_ _) | (with_reducible refine Kd.C_drew ?_))); (case side4 => exact HC0_1.out); rintro e w36 ⟨rfl, hb⟩; have n0_ := Aside0.mk (blk_below (g := gb474) (o := .cells #[.slice A0_0 l0_0.length c0_0, .slice A0_1 l0_1.length c0_1] 26 (0, 0)) (by (with_reducible repeat (first | refine blk_drewN ?_ _ | refine blk_drew ?_ | refine blk_alloc ?_ _)); exact BK474.out) hb); have n1_ := Aside0.mk (below_step (by repeat (first | (with_reducible first | exact HB.out | apply below_alloc | apply pw_below_drewN | apply below_drew1 | refine below_set ?_ GE474.out) | exact HB.out)) hb); clear BK474; clear HB; have BK474 := n0_; have HB := n1_; clear n0_ n1_; (try clear hb); (try clear hb2); (try clear hk); (try clear hi))))
    go_ret
    exact ⟨_, by first | rfl | (simp [errW_none, errW_some] <;> rfl) | (simp [*, errW_none, errW_some] <;> rfl), by first | exact Kd.R_nil _ _ _ _ _ | exact Kd.N_nil _ _ _ _ _ | exact Kd.V_nil _ _ _ _ _ | exact Kd.Q_nil _ _ _ _ _ | exact Kd.S_nil _ _ _ _ _, by repeat (first | (with_reducible first | exact HB.out | apply below_alloc | apply pw_below_drewN | apply below_drew1 | refine below_set ?_ GE474.out) | exact HB.out)⟩

/-! ### graph_Size: function 64 -/
def graph_Size.l0 : Nat → Int → List (List (S50)) → Int → Int → List Int → List (List (S50)) → Option (Int × Int)
  | 0, _, _, _, _, _, _ => none
  | k + 1, x3, x10, x11, x12, x531000, x531001 => if x12 < x11 then (if 0 ≤ x12 then (if x12 < (x10.length : Int) then (graph_Size.l0 k (wrap64 (x3 + ((rd_L2 x10 x12).length : Int))) x10 x11 (wrap64 (x12 + 1)) x531000 x531001) else (none)) else (none)) else (some ((x531001.length : Int), wrap64 (Int.tdiv x3 2)))
def graph_Size.f (k : Nat) (l0_0 : List Int) (l0_1 : List (List (S50))) : Option (Int × Int) := (graph_Valid.f l0_0 l0_1).bind fun t531 => (if t531 = true then (graph_Size.l0 k 0 l0_1 (l0_1.length : Int) 0 l0_0 l0_1) else (some (0, 0)))
theorem graph_Size.mono_l : ∀ k, (∀ y0 y1 y2 y3 y4 y5, LeO (graph_Size.l0 k y0 y1 y2 y3 y4 y5) (graph_Size.l0 (k + 1) y0 y1 y2 y3 y4 y5))
  | 0 => fun _ _ _ _ _ _ r h => by simp [graph_Size.l0] at h
  | k + 1 => by
    have ih0 := graph_Size.mono_l k
    · intro y0 y1 y2 y3 y4 y5
      unfold graph_Size.l0
      repeat' first
      | (with_reducible exact ih0 _ _ _ _ _ _)
      | (with_reducible exact LeO.refl _)
      | (with_reducible exact LeO.none _)
      | (with_reducible refine LeO.ite ?_ ?_)
      | (with_reducible refine LeO.bind ?_ (fun _ => ?_))
      | exact ih0 _ _ _ _ _ _
      | exact LeO.none _
      | refine LeO.ite ?_ ?_
      | refine LeO.bind ?_ (fun _ => ?_)
theorem graph_Size.mono : ∀ a0 a1 k, LeO (graph_Size.f k a0 a1) (graph_Size.f (k + 1) a0 a1) := by
  intro a0 a1 k
  have ih0 := graph_Size.mono_l k
  unfold graph_Size.f
  repeat' first
      | (with_reducible exact ih0 _ _ _ _ _ _)
      | (with_reducible exact LeO.refl _)
      | (with_reducible exact LeO.none _)
      | (with_reducible refine LeO.ite ?_ ?_)
      | (with_reducible refine LeO.bind ?_ (fun _ => ?_))
      | exact ih0 _ _ _ _ _ _
      | exact LeO.none _
      | refine LeO.ite ?_ ?_
      | refine LeO.bind ?_ (fun _ => ?_)
set_option maxHeartbeats 8000000 in
set_option maxRecDepth 100000 in
theorem graph_Size.calls (k : Nat) (A0_0 : Option Addr) (c0_0 : Nat) (l0_0 : List Int) (A0_1 : Option Addr) (c0_1 : Nat) (l0_1 : List (List (S50))) (r1 : Int) (r2 : Int) (w : World) (hr0_0 : Kd.C (Kd.int .i64) w A0_0 l0_0.length l0_0) (hc0_0 : l0_0.length ≤ c0_0) (hr0_1 : Kd.C (Kd.slice 50 k50) w A0_1 l0_1.length l0_1) (hc0_1 : l0_1.length ≤ c0_1) (h : graph_Size.f k l0_0 l0_1 = some (r1, r2)) :
    Calls Try.prog 64 #[.agg #[.slice A0_0 l0_0.length c0_0, .slice A0_1 l0_1.length c0_1]] w fun e w' => e = .returned (.tuple #[.int .i64 r1, .int .i64 r2]) ∧ Below w.heap.size w w' := by
  have hu26 := Try.underlying26
  have HR0_0 := Aside0.mk hr0_0
  have HC0_0 := Aside0.mk hc0_0
  clear hr0_0 hc0_0
  have HR0_1 := Aside0.mk hr0_1
  have HC0_1 := Aside0.mk hc0_1
  clear hr0_1 hc0_1
  have HB := Aside0.mk (Below.refl w.heap.size w)
  have H : ((graph_Valid.f l0_0 l0_1).bind fun t531 => (if t531 = true then (graph_Size.l0 k 0 l0_1 (l0_1.length : Int) 0 l0_0 l0_1) else (some (0, 0)))) = some (r1, r2) := h
  clear h
  replace H := Option.bind_eq_some_iff.mp H
  obtain ⟨t531, A20, H⟩ := H
  replace H : (if t531 = true then (graph_Size.l0 k 0 l0_1 (l0_1.length : Int) 0 l0_0 l0_1) else (some (0, 0))) = some (r1, r2) := H
  have A2 := Aside0.mk A20
  clear A20
  by_cases c3 : t531 = true
  · subst c3
    have H1 : (graph_Size.l0 k 0 l0_1 (l0_1.length : Int) 0 l0_0 l0_1) = some (r1, r2) := by rw [if_pos rfl] at H; exact H
    clear H
    have H := H1
    clear H1
    have H' := Aside0.mk H
    clear H
    go_enter Try.func64, Try.ntmps64
    go_wp2_with (first | ((with_reducible refine gate_dst (N := 1) rfl ?_); refine box_event ?hg (N := 1) ?hd (cs := #[.slice A0_0 l0_0.length c0_0, .slice A0_1 l0_1.length c0_1]) (t := 26) ?hr ?_; (case hd => rfl); (case hg => rfl); (case hr => first | (go_simp; done) | (go_simp; rfl)); intro gb530 hg w4 hbox hb; have n0_ := Aside0.mk (below_step (by repeat (first | (with_reducible first | exact HB.out | apply below_alloc | apply pw_below_drewN | apply below_drew1) | exact HB.out)) hb); have n1_ := Aside0.mk (hbox); have n2_ := Aside0.mk ((by rw [hg]; exact (below_size (by repeat (first | (with_reducible first | exact HB.out | apply below_alloc | apply pw_below_drewN | apply below_drew1) | exact HB.out))) : w.heap.size ≤ gb530)); have n3_ := Aside0.mk ((by rw [hg]; exact (below_size (by repeat (first | (with_reducible first | exact HB.out | apply below_alloc | apply pw_below_drewN | apply below_drew1) | exact HB.out))) : w.heap.size ≤ gb530)); clear HB; have HB := n0_; have BK530 := n1_; have GW530 := n2_; have GE530 := n3_; clear n0_ n1_ n2_ n3_; clear hb hbox hg; have hcz5_0 : w4.cell? ⟨gb530, 0, none⟩ = some (.slice A0_0 l0_0.length c0_0) := (blk_cell BK530.out 0).trans rfl; have hcz5_1 : w4.cell? ⟨gb530, 1, none⟩ = some (.slice A0_1 l0_1.length c0_1) := (blk_cell BK530.out 1).trans rfl; have hfz5_0 := blk_frozen BK530.out 0; have hfz5_1 := blk_frozen BK530.out 1) | ((with_reducible refine gate_callee (f := 50) rfl ?_); refine goesL_ (some 7) rfl rfl Try.func50 (by kernel_rfl) rfl #[.agg #[.slice A0_0 l0_0.length c0_0, .slice A0_1 l0_1.length c0_1]] rfl (by (try simp only [List.map_toArray, List.map_cons, List.map_nil]); first | done | rfl | (simp only [List.length_drop, List.length_take]; rfl)) ?_; (with_reducible refine (graph_Valid.calls _ _ l0_0 _ _ l0_1 true _ ?side1 ?side2 ?side3 ?side4 A2.out).mono ?_); (case side1 => repeat (first | exact (Kd.C_below HR0_0.out HB.out) | (with_reducible refine Kd.C_alloc ?_ _) | (with_reducible refine Kd.C_drewN ?_ _) | (with_reducible refine Kd.C_drew ?_))); (case side2 => exact HC0_0.out); (case side3 => repeat (first | exact (Kd.C_below HR0_1.out HB.out) | (with_reducible refine Kd.C_alloc ?_ _) | (with_reducible refine Kd.C_drewN ?_ _) | (with_reducible refine Kd.C_drew ?_))); (case side4 => exact HC0_1.out); rintro e w6 ⟨rfl, hb⟩; refine ⟨_, rfl, ?_⟩; have n0_ := Aside0.mk (blk_below (g := gb530) (o := .cells #[.slice A0_0 l0_0.length c0_0, .slice A0_1 l0_1.length c0_1] 26 (0, 0)) (by (with_reducible repeat (first | refine blk_drewN ?_ _ | refine blk_drew ?_ | refine blk_alloc ?_ _)); exact BK530.out) hb); have n1_ := Aside0.mk (below_step (by repeat (first | (with_reducible first | exact HB.out | apply below_alloc | apply pw_below_drewN | apply below_drew1 | refine below_set ?_ GE530.out) | exact HB.out)) hb); clear BK530; clear HB; have BK530 := n0_; have HB := n1_; clear n0_ n1_; (try clear hb); (try clear hb2); (try clear hk); (try clear hi); have hcz7_0 : w6.cell? ⟨gb530, 0, none⟩ = some (.slice A0_0 l0_0.length c0_0) := (blk_cell BK530.out 0).trans rfl; have hcz7_1 : w6.cell? ⟨gb530, 1, none⟩ = some (.slice A0_1 l0_1.length c0_1) := (blk_cell BK530.out 1).trans rfl; have hfz7_0 := blk_frozen BK530.out 0; have hfz7_1 := blk_frozen BK530.out 1))
    go_loopg [3, 12] k (fun kq v3 v12 w' => ∃ (x3_1 : Int) (x12_1 : Int), v3 = .int .i64 x3_1 ∧ v12 = .int .i64 x12_1 ∧ Aside0 (graph_Size.l0 kq x3_1 l0_1 (l0_1.length : Int) x12_1 l0_0 l0_1 = some (r1, r2)) ∧ Aside0 (kq ≤ k) ∧ Aside0 (w'.heap[gb530]? = some (.cells #[(.slice A0_0 l0_0.length c0_0), (.slice A0_1 l0_1.length c0_1)] 26 (0, 0))) ∧ Aside0 (Below w.heap.size w w'))
    case atStart => exact ⟨(0), (0), (by first | rfl | (simp; done) | (simp [*]; done)), (by first | rfl | (simp; done) | (simp [*]; done)), H', ⟨Nat.le_refl _⟩, ⟨by (with_reducible repeat (first | refine blk_drewN ?_ _ | refine blk_drew ?_ | refine blk_alloc ?_ _)); exact BK530.out⟩, ⟨by repeat (first | (with_reducible first | exact HB.out | apply below_alloc | apply pw_below_drewN | apply below_drew1 | refine below_set ?_ GE530.out) | exact HB.out)⟩⟩
    case round =>
      clear H'
      try clear p2
      try clear c3
      try clear c5
      try clear c6
      try clear hcz5_0
      try clear hcz5_1
      try clear hcz7_0
      try clear hcz7_1
      try clear hfz5_0
      try clear hfz5_1
      try clear hfz7_0
      try clear hfz7_1
      obtain ⟨x3_1, x12_1, rfl, rfl, HA, HK1, BK530, HB⟩ := hrel
      cases gk with
      | zero => exact absurd HA.out (by simp [graph_Size.l0])
      | succ k1 =>
        have H := HA.out
        clear HA
        simp only [graph_Size.l0] at H
        by_cases c8 : x12_1 < (l0_1.length : Int)
        · rw [if_pos c8] at H
          have c8b0 : decide (x12_1 < (l0_1.length : Int)) = true := decide_eq_true c8
          clear c8
          by_cases c9 : 0 ≤ x12_1
          · rw [if_pos c9] at H
            have c9b0 : decide (0 ≤ x12_1) = true := decide_eq_true c9
            clear c9
            by_cases c10 : x12_1 < (l0_1.length : Int)
            · rw [if_pos c10] at H
              have c10b0 : decide (x12_1 < (l0_1.length : Int)) = true := decide_eq_true c10
              clear c10
              have H' := Aside0.mk H
              clear H
              have p532 : 0 ≤ (x12_1 : Int) := of_decide_eq_true (by first | (with_reducible assumption) | assumption)
              have q532 : x12_1 < (l0_1.length : Int) := of_decide_eq_true (by first | (with_reducible assumption) | assumption)
              obtain ⟨ad532, A532_0, c532_0, e532, hx532_0, hl532_0, hi532_0⟩ := at_L2 HR0_1.out x12_1 p532 q532
              cases e532
              replace hx532_0 := (HB.out.cell (World.block_lt_of_cell? w _ hx532_0)).trans hx532_0
              have HR532_0 := Aside0.mk hi532_0
              have HC532_0 := Aside0.mk hl532_0
              clear hi532_0 hl532_0
              replace p532 := eq_true p532
              replace q532 := eq_true q532
              go_wp2
              go_roundg k1
              case measure => have := HK1.out; omega
              case rel => exact ⟨(wrap64 (x3_1 + ((rd_L2 l0_1 x12_1).length : Int))), (wrap64 (x12_1 + 1)), (by first | rfl | (simp; done) | (simp [*]; done)), (by first | rfl | (simp; done) | (simp [*]; done)), H', ⟨by have := HK1.out; omega⟩, ⟨by (with_reducible repeat (first | refine blk_drewN ?_ _ | refine blk_drew ?_ | refine blk_alloc ?_ _)); exact BK530.out⟩, ⟨by repeat (first | (with_reducible first | exact HB.out | apply below_alloc | apply pw_below_drewN | apply below_drew1 | refine below_set ?_ GE530.out) | exact HB.out)⟩⟩
            · rw [if_neg c10] at H
              exact absurd H (by simp)
          · rw [if_neg c9] at H
            exact absurd H (by simp)
        · rw [if_neg c8] at H
          have c8b0 : decide (x12_1 < (l0_1.length : Int)) = false := decide_eq_false c8
          clear c8
          simp only [Option.some.injEq, Prod.mk.injEq] at H
          obtain ⟨rfl, rfl⟩ := H
          have hcz11_0 : wr.cell? ⟨gb530, 0, none⟩ = some (.slice A0_0 l0_0.length c0_0) := (blk_cell BK530.out 0).trans rfl
          have hcz11_1 : wr.cell? ⟨gb530, 1, none⟩ = some (.slice A0_1 l0_1.length c0_1) := (blk_cell BK530.out 1).trans rfl
          have hfz11_0 := blk_frozen BK530.out 0
          have hfz11_1 := blk_frozen BK530.out 1
          go_wp2
          go_ret2
          exact ⟨by first | rfl | (simp [errW_none, errW_some] <;> rfl) | (simp [*, errW_none, errW_some] <;> rfl), by repeat (first | (with_reducible first | exact HB.out | apply below_alloc | apply pw_below_drewN | apply below_drew1 | refine below_set ?_ GE530.out) | exact HB.out)⟩
  · replace c3 := Bool.eq_false_iff.mpr c3
    subst c3
    have H1 : (some (0, 0)) = some (r1, r2) := by rw [if_neg (show ¬ (false = true) by decide)] at H; exact H
    clear H
    have H := H1
    clear H1
    simp only [Option.some.injEq, Prod.mk.injEq] at H
    obtain ⟨rfl, rfl⟩ := H
    go_enter Try.func64, Try.ntmps64
    go_wp2_with (first | ((with_reducible refine gate_dst (N := 1) rfl ?_); refine box_event ?hg (N := 1) ?hd (cs := #[.slice A0_0 l0_0.length c0_0, .slice A0_1 l0_1.length c0_1]) (t := 26) ?hr ?_; (case hd => rfl); (case hg => rfl); (case hr => first | (go_simp; done) | (go_simp; rfl)); intro gb530 hg w12 hbox hb; have n0_ := Aside0.mk (below_step (by repeat (first | (with_reducible first | exact HB.out | apply below_alloc | apply pw_below_drewN | apply below_drew1) | exact HB.out)) hb); have n1_ := Aside0.mk (hbox); have n2_ := Aside0.mk ((by rw [hg]; exact (below_size (by repeat (first | (with_reducible first | exact HB.out | apply below_alloc | apply pw_below_drewN | apply below_drew1) | exact HB.out))) : w.heap.size ≤ gb530)); have n3_ := Aside0.mk ((by rw [hg]; exact (below_size (by repeat (first | (with_reducible first | exact HB.out | apply below_alloc | apply pw_below_drewN | apply below_drew1) | exact HB.out))) : w.heap.size ≤ gb530)); clear HB; have HB := n0_; have BK530 := n1_; have GW530 := n2_; have GE530 := n3_; clear n0_ n1_ n2_ n3_; clear hb hbox hg; have hcz13_0 : w12.cell? ⟨gb530, 0, none⟩ = some (.slice A0_0 l0_0.length c0_0) := (blk_cell BK530.out 0).trans rfl; have hcz13_1 : w12.cell? ⟨gb530, 1, none⟩ = some (.slice A0_1 l0_1.length c0_1) := (blk_cell BK530.out 1).trans rfl; have hfz13_0 := blk_frozen BK530.out 0; have hfz13_1 := blk_frozen BK530.out 1) | ((with_reducible refine gate_callee (f := 50) rfl ?_); refine goesL_ (some 7) rfl rfl Try.func50 (by kernel_rfl) rfl #[.agg #[.slice A0_0 l0_0.length c0_0, .slice A0_1 l0_1.length c0_1]] rfl (by (try simp only [List.map_toArray, List.map_cons, List.map_nil]); first | done | rfl | (simp only [List.length_drop, List.length_take]; rfl)) ?_; (with_reducible refine (graph_Valid.calls _ _ l0_0 _ _ l0_1 false _ ?side1 ?side2 ?side3 ?side4 A2.out).mono ?_); (case side1 => repeat (first | exact (Kd.C_below HR0_0.out HB.out) | (with_reducible refine Kd.C_alloc ?_ _) | (with_reducible refine Kd.C_drewN ?_ _) | (with_reducible refine Kd.C_drew ?_))); (case side2 => exact HC0_0.out); (case side3 => repeat (first | exact (Kd.C_below HR0_1.out HB.out) | (with_reducible refine Kd.C_alloc ?_ _) | (with_reducible refine Kd.C_drewN ?_ _) | (with_reducible refine Kd.C_drew ?_))); (case side4 => exact HC0_1.out); rintro e w14 ⟨rfl, hb⟩; refine ⟨_, rfl, ?_⟩; have n0_ := Aside0.mk (blk_below (g := gb530) (o := .cells #[.slice A0_0 l0_0.length c0_0, .slice A0_1 l0_1.length c0_1] 26 (0, 0)) (by (with_reducible repeat (first | refine blk_drewN ?_ _ | refine blk_drew ?_ | refine blk_alloc ?_ _)); exact BK530.out) hb); have n1_ := Aside0.mk (below_step (by repeat (first | (with_reducible first | exact HB.out | apply below_alloc | apply pw_below_drewN | apply below_drew1 | refine below_set ?_ GE530.out) | exact HB.out)) hb); clear BK530; clear HB; have BK530 := n0_; have HB := n1_; clear n0_ n1_; (try clear hb); (try clear hb2); (try clear hk); (try clear hi)))
    go_ret2
    exact ⟨by first | rfl | (simp [errW_none, errW_some] <;> rfl) | (simp [*, errW_none, errW_some] <;> rfl), by repeat (first | (with_reducible first | exact HB.out | apply below_alloc | apply pw_below_drewN | apply below_drew1 | refine below_set ?_ GE530.out) | exact HB.out)⟩

/-! ### graph_Connected: function 65 -/
def graph_Connected.l0 : Nat → List Int → List Int → Int → Int → Option (Bool)
  | 0, _, _, _, _ => none
  | k + 1, x3, x8, x9, x10 => if x10 < x9 then (if 0 ≤ x10 then (if x10 < (x8.length : Int) then (if (rd x8 x10) < 0 then (some false) else (graph_Connected.l0 k x3 x8 x9 (wrap64 (x10 + 1)))) else (none)) else (none)) else (some (decide ((x3.length : Int) > 0)))
def graph_Connected.f (k : Nat) (l0_0 : List Int) (l0_1 : List (List (S50))) : Option (Bool) := (graph_Distances.f k l0_0 l0_1 0).bind fun t534 => (graph_Connected.l0 k t534 t534 (t534.length : Int) 0)
theorem graph_Connected.mono_l : ∀ k, (∀ y0 y1 y2 y3, LeO (graph_Connected.l0 k y0 y1 y2 y3) (graph_Connected.l0 (k + 1) y0 y1 y2 y3))
  | 0 => fun _ _ _ _ r h => by simp [graph_Connected.l0] at h
  | k + 1 => by
    have ih0 := graph_Connected.mono_l k
    · intro y0 y1 y2 y3
      unfold graph_Connected.l0
      repeat' first
      | (with_reducible exact ih0 _ _ _ _)
      | (with_reducible exact graph_Distances.mono _ _ _ _)
      | (with_reducible exact LeO.refl _)
      | (with_reducible exact LeO.none _)
      | (with_reducible refine LeO.ite ?_ ?_)
      | (with_reducible refine LeO.bind ?_ (fun _ => ?_))
      | exact ih0 _ _ _ _
      | exact graph_Distances.mono _ _ _ _
      | exact LeO.none _
      | refine LeO.ite ?_ ?_
      | refine LeO.bind ?_ (fun _ => ?_)
theorem graph_Connected.mono : ∀ a0 a1 k, LeO (graph_Connected.f k a0 a1) (graph_Connected.f (k + 1) a0 a1) := by
  intro a0 a1 k
  have ih0 := graph_Connected.mono_l k
  unfold graph_Connected.f
  repeat' first
      | (with_reducible exact ih0 _ _ _ _)
      | (with_reducible exact graph_Distances.mono _ _ _ _)
      | (with_reducible exact LeO.refl _)
      | (with_reducible exact LeO.none _)
      | (with_reducible refine LeO.ite ?_ ?_)
      | (with_reducible refine LeO.bind ?_ (fun _ => ?_))
      | exact ih0 _ _ _ _
      | exact graph_Distances.mono _ _ _ _
      | exact LeO.none _
      | refine LeO.ite ?_ ?_
      | refine LeO.bind ?_ (fun _ => ?_)
set_option maxHeartbeats 8000000 in
set_option maxRecDepth 100000 in
theorem graph_Connected.calls (k : Nat) (A0_0 : Option Addr) (c0_0 : Nat) (l0_0 : List Int) (A0_1 : Option Addr) (c0_1 : Nat) (l0_1 : List (List (S50))) (r : Bool) (w : World) (hr0_0 : Kd.C (Kd.int .i64) w A0_0 l0_0.length l0_0) (hc0_0 : l0_0.length ≤ c0_0) (hr0_1 : Kd.C (Kd.slice 50 k50) w A0_1 l0_1.length l0_1) (hc0_1 : l0_1.length ≤ c0_1) (h : graph_Connected.f k l0_0 l0_1 = some r) :
    Calls Try.prog 65 #[.agg #[.slice A0_0 l0_0.length c0_0, .slice A0_1 l0_1.length c0_1]] w fun e w' => e = .returned (.bool r) ∧ Below w.heap.size w w' := by
  have hu26 := Try.underlying26
  have HR0_0 := Aside0.mk hr0_0
  have HC0_0 := Aside0.mk hc0_0
  clear hr0_0 hc0_0
  have HR0_1 := Aside0.mk hr0_1
  have HC0_1 := Aside0.mk hc0_1
  clear hr0_1 hc0_1
  have HB := Aside0.mk (Below.refl w.heap.size w)
  have H : ((graph_Distances.f k l0_0 l0_1 0).bind fun t534 => (graph_Connected.l0 k t534 t534 (t534.length : Int) 0)) = some r := h
  clear h
  replace H := Option.bind_eq_some_iff.mp H
  obtain ⟨t534, A20, H⟩ := H
  replace H : (graph_Connected.l0 k t534 t534 (t534.length : Int) 0) = some r := H
  have A2 := Aside0.mk A20
  clear A20
  have H' := Aside0.mk H
  clear H
  go_enter Try.func65, Try.ntmps65
  go_wp2_with (first | ((with_reducible refine gate_dst (N := 1) rfl ?_); refine box_event ?hg (N := 1) ?hd (cs := #[.slice A0_0 l0_0.length c0_0, .slice A0_1 l0_1.length c0_1]) (t := 26) ?hr ?_; (case hd => rfl); (case hg => rfl); (case hr => first | (go_simp; done) | (go_simp; rfl)); intro gb533 hg w3 hbox hb; have n0_ := Aside0.mk (below_step (by repeat (first | (with_reducible first | exact HB.out | apply below_alloc | apply pw_below_drewN | apply below_drew1) | exact HB.out)) hb); have n1_ := Aside0.mk (hbox); have n2_ := Aside0.mk ((by rw [hg]; exact (below_size (by repeat (first | (with_reducible first | exact HB.out | apply below_alloc | apply pw_below_drewN | apply below_drew1) | exact HB.out))) : w.heap.size ≤ gb533)); have n3_ := Aside0.mk ((by rw [hg]; exact (below_size (by repeat (first | (with_reducible first | exact HB.out | apply below_alloc | apply pw_below_drewN | apply below_drew1) | exact HB.out))) : w.heap.size ≤ gb533)); clear HB; have HB := n0_; have BK533 := n1_; have GW533 := n2_; have GE533 := n3_; clear n0_ n1_ n2_ n3_; clear hb hbox hg; have hcz4_0 : w3.cell? ⟨gb533, 0, none⟩ = some (.slice A0_0 l0_0.length c0_0) := (blk_cell BK533.out 0).trans rfl; have hcz4_1 : w3.cell? ⟨gb533, 1, none⟩ = some (.slice A0_1 l0_1.length c0_1) := (blk_cell BK533.out 1).trans rfl; have hfz4_0 := blk_frozen BK533.out 0; have hfz4_1 := blk_frozen BK533.out 1) | ((with_reducible refine gate_callee (f := 32) rfl ?_); refine goesL_ (some 7) rfl rfl Try.func32 (by kernel_rfl) rfl #[.agg #[.slice A0_0 l0_0.length c0_0, .slice A0_1 l0_1.length c0_1], .int .i64 0] rfl (by (try simp only [List.map_toArray, List.map_cons, List.map_nil]); first | done | rfl | (simp only [List.length_drop, List.length_take]; rfl)) ?_; (with_reducible refine (graph_Distances.calls k _ _ l0_0 _ _ l0_1 0 t534 _ ?side1 ?side2 ?side3 ?side4 A2.out).mono ?_); (case side1 => repeat (first | exact (Kd.C_below HR0_0.out HB.out) | (with_reducible refine Kd.C_alloc ?_ _) | (with_reducible refine Kd.C_drewN ?_ _) | (with_reducible refine Kd.C_drew ?_))); (case side2 => exact HC0_0.out); (case side3 => repeat (first | exact (Kd.C_below HR0_1.out HB.out) | (with_reducible refine Kd.C_alloc ?_ _) | (with_reducible refine Kd.C_drewN ?_ _) | (with_reducible refine Kd.C_drew ?_))); (case side4 => exact HC0_1.out); rintro e w5 ⟨v535, rfl, ho0, hb⟩; refine ⟨_, rfl, ?_⟩; have n0_ := Aside0.mk (Kd.R_lower ho0 (below_size (by repeat (first | (with_reducible first | exact HB.out | apply below_alloc | apply pw_below_drewN | apply below_drew1 | refine below_set ?_ GE533.out) | exact HB.out)))); have n1_ := Aside0.mk (blk_below (g := gb533) (o := .cells #[.slice A0_0 l0_0.length c0_0, .slice A0_1 l0_1.length c0_1] 26 (0, 0)) (by (with_reducible repeat (first | refine blk_drewN ?_ _ | refine blk_drew ?_ | refine blk_alloc ?_ _)); exact BK533.out) hb); have n2_ := Aside0.mk (below_step (by repeat (first | (with_reducible first | exact HB.out | apply below_alloc | apply pw_below_drewN | apply below_drew1 | refine below_set ?_ GE533.out) | exact HB.out)) hb); clear BK533; clear HB; have HO536 := n0_; have BK533 := n1_; have HB := n2_; clear n0_ n1_ n2_; (try clear hb); (try clear hb2); (try clear hk); (try clear hi); (try clear ho0); obtain ⟨Ao6, co6, eo6⟩ := Kd.R_slice HO536.out; subst eo6))
  go_loopg [10] k (fun kq v10 w' => ∃ (x10_1 : Int), v10 = .int .i64 x10_1 ∧ Aside0 (graph_Connected.l0 kq t534 t534 (t534.length : Int) x10_1 = some r) ∧ Aside0 (kq ≤ k) ∧ Aside0 (Kd.R (Kd.int .i64) 3 w' w.heap.size (fun _ => True) (.slice Ao6 t534.length co6) t534) ∧ Aside0 (Kd.R (Kd.int .i64) 3 w' w.heap.size (fun _ => True) (.slice Ao6 t534.length co6) t534) ∧ Aside0 (w'.heap[gb533]? = some (.cells #[(.slice A0_0 l0_0.length c0_0), (.slice A0_1 l0_1.length c0_1)] 26 (0, 0))) ∧ Aside0 (Below w.heap.size w w'))
  case atStart => exact ⟨(0), (by first | rfl | (simp; done) | (simp [*]; done)), H', ⟨Nat.le_refl _⟩, ⟨by (with_reducible repeat (first | apply Kd.R_alloc | apply Kd.R_drewN | apply Kd.R_drew)); exact HO536.out⟩, ⟨by (with_reducible repeat (first | apply Kd.R_alloc | apply Kd.R_drewN | apply Kd.R_drew)); exact HO536.out⟩, ⟨by (with_reducible repeat (first | refine blk_drewN ?_ _ | refine blk_drew ?_ | refine blk_alloc ?_ _)); exact BK533.out⟩, ⟨by repeat (first | (with_reducible first | exact HB.out | apply below_alloc | apply pw_below_drewN | apply below_drew1 | refine below_set ?_ GE533.out) | exact HB.out)⟩⟩
  case round =>
    clear H'
    try clear p2
    try clear c3
    try clear c6
    try clear hcz4_0
    try clear hcz4_1
    try clear hfz4_0
    try clear hfz4_1
    obtain ⟨x10_1, rfl, HA, HK1, HO_3, HO_8, BK533, HB⟩ := hrel
    cases gk with
    | zero => exact absurd HA.out (by simp [graph_Connected.l0])
    | succ k1 =>
      have H := HA.out
      clear HA
      simp only [graph_Connected.l0] at H
      by_cases c7 : x10_1 < (t534.length : Int)
      · rw [if_pos c7] at H
        have c7b0 : decide (x10_1 < (t534.length : Int)) = true := decide_eq_true c7
        clear c7
        by_cases c8 : 0 ≤ x10_1
        · rw [if_pos c8] at H
          have c8b0 : decide (0 ≤ x10_1) = true := decide_eq_true c8
          clear c8
          by_cases c9 : x10_1 < (t534.length : Int)
          · rw [if_pos c9] at H
            have c9b0 : decide (x10_1 < (t534.length : Int)) = true := decide_eq_true c9
            clear c9
            by_cases c10 : (rd t534 x10_1) < 0
            · rw [if_pos c10] at H
              have c10b0 : decide ((rd t534 x10_1) < 0) = true := decide_eq_true c10
              clear c10
              obtain rfl := Option.some.inj H
              have p537 : 0 ≤ (x10_1 : Int) := of_decide_eq_true (by first | (with_reducible assumption) | assumption)
              have q537 : x10_1 < (t534.length : Int) := of_decide_eq_true (by first | (with_reducible assumption) | assumption)
              (try (obtain ⟨Az537, cz537, ez537⟩ := Kd.R_slice HO_8.out; subst ez537))
              obtain ⟨ad537, e537, hx537_0⟩ := Kd.at_int (Kd.R_reads' HO_8.out).2.2 x10_1 p537 q537
              cases e537
              replace p537 := eq_true p537
              replace q537 := eq_true q537
              go_wp2
              go_ret
              exact ⟨by first | rfl | (simp [errW_none, errW_some] <;> rfl) | (simp [*, errW_none, errW_some] <;> rfl), by repeat (first | (with_reducible first | exact HB.out | apply below_alloc | apply pw_below_drewN | apply below_drew1 | refine below_set ?_ GE533.out) | exact HB.out)⟩
            · rw [if_neg c10] at H
              have c10b0 : decide ((rd t534 x10_1) < 0) = false := decide_eq_false c10
              clear c10
              have H' := Aside0.mk H
              clear H
              have p537 : 0 ≤ (x10_1 : Int) := of_decide_eq_true (by first | (with_reducible assumption) | assumption)
              have q537 : x10_1 < (t534.length : Int) := of_decide_eq_true (by first | (with_reducible assumption) | assumption)
              (try (obtain ⟨Az537, cz537, ez537⟩ := Kd.R_slice HO_8.out; subst ez537))
              obtain ⟨ad537, e537, hx537_0⟩ := Kd.at_int (Kd.R_reads' HO_8.out).2.2 x10_1 p537 q537
              cases e537
              replace p537 := eq_true p537
              replace q537 := eq_true q537
              go_wp2
              go_roundg k1
              case measure => have := HK1.out; omega
              case rel => exact ⟨(wrap64 (x10_1 + 1)), (by first | rfl | (simp; done) | (simp [*]; done)), H', ⟨by have := HK1.out; omega⟩, ⟨by (with_reducible repeat (first | apply Kd.R_alloc | apply Kd.R_drewN | apply Kd.R_drew)); exact HO_3.out⟩, ⟨by (with_reducible repeat (first | apply Kd.R_alloc | apply Kd.R_drewN | apply Kd.R_drew)); exact HO_8.out⟩, ⟨by (with_reducible repeat (first | refine blk_drewN ?_ _ | refine blk_drew ?_ | refine blk_alloc ?_ _)); exact BK533.out⟩, ⟨by repeat (first | (with_reducible first | exact HB.out | apply below_alloc | apply pw_below_drewN | apply below_drew1 | refine below_set ?_ GE533.out) | exact HB.out)⟩⟩
          · rw [if_neg c9] at H
            exact absurd H (by simp)
        · rw [if_neg c8] at H
          exact absurd H (by simp)
      · rw [if_neg c7] at H
        have c7b0 : decide (x10_1 < (t534.length : Int)) = false := decide_eq_false c7
        clear c7
        obtain rfl := Option.some.inj H
        go_wp2
        go_ret
        exact ⟨by first | rfl | (simp [errW_none, errW_some] <;> rfl) | (simp [*, errW_none, errW_some] <;> rfl), by repeat (first | (with_reducible first | exact HB.out | apply below_alloc | apply pw_below_drewN | apply below_drew1 | refine below_set ?_ GE533.out) | exact HB.out)⟩

/-! ### graph_Tree: function 38 -/
def graph_Tree.f (k : Nat) (l0_0 : List Int) (l0_1 : List (List (S50))) : Option (Bool) := (graph_Size.f k l0_0 l0_1).bind fun bt539 => ((graph_Connected.f k l0_0 l0_1).bind fun t541 => (if t541 = true then (some (bt539.2 == (wrap64 (bt539.1 - 1)))) else (some false)))
theorem graph_Tree.mono : ∀ a0 a1 k, LeO (graph_Tree.f k a0 a1) (graph_Tree.f (k + 1) a0 a1) := by
  intro a0 a1 k
  unfold graph_Tree.f
  repeat' first
      | (with_reducible exact graph_Connected.mono _ _ _)
      | (with_reducible exact graph_Size.mono _ _ _)
      | (with_reducible exact LeO.refl _)
      | (with_reducible exact LeO.none _)
      | (with_reducible refine LeO.ite ?_ ?_)
      | (with_reducible refine LeO.bind ?_ (fun _ => ?_))
      | exact graph_Connected.mono _ _ _
      | exact graph_Size.mono _ _ _
      | exact LeO.none _
      | refine LeO.ite ?_ ?_
      | refine LeO.bind ?_ (fun _ => ?_)
set_option maxHeartbeats 8000000 in
set_option maxRecDepth 100000 in
theorem graph_Tree.calls (k : Nat) (A0_0 : Option Addr) (c0_0 : Nat) (l0_0 : List Int) (A0_1 : Option Addr) (c0_1 : Nat) (l0_1 : List (List (S50))) (r : Bool) (w : World) (hr0_0 : Kd.C (Kd.int .i64) w A0_0 l0_0.length l0_0) (hc0_0 : l0_0.length ≤ c0_0) (hr0_1 : Kd.C (Kd.slice 50 k50) w A0_1 l0_1.length l0_1) (hc0_1 : l0_1.length ≤ c0_1) (h : graph_Tree.f k l0_0 l0_1 = some r) :
    Calls Try.prog 38 #[.agg #[.slice A0_0 l0_0.length c0_0, .slice A0_1 l0_1.length c0_1]] w fun e w' => e = .returned (.bool r) ∧ Below w.heap.size w w' := by
  have hu26 := Try.underlying26
  have HR0_0 := Aside0.mk hr0_0
  have HC0_0 := Aside0.mk hc0_0
  clear hr0_0 hc0_0
  have HR0_1 := Aside0.mk hr0_1
  have HC0_1 := Aside0.mk hc0_1
  clear hr0_1 hc0_1
  have HB := Aside0.mk (Below.refl w.heap.size w)
  have H : ((graph_Size.f k l0_0 l0_1).bind fun bt539 => ((graph_Connected.f k l0_0 l0_1).bind fun t541 => (if t541 = true then (some (bt539.2 == (wrap64 (bt539.1 - 1)))) else (some false)))) = some r := h
  clear h
  replace H := Option.bind_eq_some_iff.mp H
  obtain ⟨⟨t539, t540⟩, A20, H⟩ := H
  replace H : ((graph_Connected.f k l0_0 l0_1).bind fun t541 => (if t541 = true then (some (t540 == (wrap64 (t539 - 1)))) else (some false))) = some r := H
  have A2 := Aside0.mk A20
  clear A20
  replace H := Option.bind_eq_some_iff.mp H
  obtain ⟨t541, A30, H⟩ := H
  replace H : (if t541 = true then (some (t540 == (wrap64 (t539 - 1)))) else (some false)) = some r := H
  have A3 := Aside0.mk A30
  clear A30
  by_cases c4 : t541 = true
  · subst c4
    have H1 : (some (t540 == (wrap64 (t539 - 1)))) = some r := by rw [if_pos rfl] at H; exact H
    clear H
    have H := H1
    clear H1
    obtain rfl := Option.some.inj H
    go_enter Try.func38, Try.ntmps38
    go_wp2_with (first | ((with_reducible refine gate_dst (N := 1) rfl ?_); refine box_event ?hg (N := 1) ?hd (cs := #[.slice A0_0 l0_0.length c0_0, .slice A0_1 l0_1.length c0_1]) (t := 26) ?hr ?_; (case hd => rfl); (case hg => rfl); (case hr => first | (go_simp; done) | (go_simp; rfl)); intro gb538 hg w5 hbox hb; have n0_ := Aside0.mk (below_step (by repeat (first | (with_reducible first | exact HB.out | apply below_alloc | apply pw_below_drewN | apply below_drew1) | exact HB.out)) hb); have n1_ := Aside0.mk (hbox); have n2_ := Aside0.mk ((by rw [hg]; exact (below_size (by repeat (first | (with_reducible first | exact HB.out | apply below_alloc | apply pw_below_drewN | apply below_drew1) | exact HB.out))) : w.heap.size ≤ gb538)); have n3_ := Aside0.mk ((by rw [hg]; exact (below_size (by repeat (first | (with_reducible first | exact HB.out | apply below_alloc | apply pw_below_drewN | apply below_drew1) | exact HB.out))) : w.heap.size ≤ gb538)); clear HB; have HB := n0_; have BK538 := n1_; have GW538 := n2_; have GE538 := n3_; clear n0_ n1_ n2_ n3_; clear hb hbox hg; have hcz6_0 : w5.cell? ⟨gb538, 0, none⟩ = some (.slice A0_0 l0_0.length c0_0) := (blk_cell BK538.out 0).trans rfl; have hcz6_1 : w5.cell? ⟨gb538, 1, none⟩ = some (.slice A0_1 l0_1.length c0_1) := (blk_cell BK538.out 1).trans rfl; have hfz6_0 := blk_frozen BK538.out 0; have hfz6_1 := blk_frozen BK538.out 1) | ((with_reducible refine gate_callee (f := 64) rfl ?_); refine goesL_ (some 7) rfl rfl Try.func64 (by kernel_rfl) rfl #[.agg #[.slice A0_0 l0_0.length c0_0, .slice A0_1 l0_1.length c0_1]] rfl (by (try simp only [List.map_toArray, List.map_cons, List.map_nil]); first | done | rfl | (simp only [List.length_drop, List.length_take]; rfl)) ?_; (with_reducible refine (graph_Size.calls k _ _ l0_0 _ _ l0_1 t539 t540 _ ?side1 ?side2 ?side3 ?side4 A2.out).mono ?_); (case side1 => repeat (first | exact (Kd.C_below HR0_0.out HB.out) | (with_reducible refine Kd.C_alloc ?_ _) | (with_reducible refine Kd.C_drewN ?_ _) | (with_reducible refine Kd.C_drew ?_))); (case side2 => exact HC0_0.out); (case side3 => repeat (first | exact (Kd.C_below HR0_1.out HB.out) | (with_reducible refine Kd.C_alloc ?_ _) | (with_reducible refine Kd.C_drewN ?_ _) | (with_reducible refine Kd.C_drew ?_))); (case side4 => exact HC0_1.out); rintro e w7 ⟨rfl, hb⟩; refine ⟨_, rfl, ?_⟩; have n0_ := Aside0.mk (blk_below (g := gb538) (o := .cells #[.slice A0_0 l0_0.length c0_0, .slice A0_1 l0_1.length c0_1] 26 (0, 0)) (by (with_reducible repeat (first | refine blk_drewN ?_ _ | refine blk_drew ?_ | refine blk_alloc ?_ _)); exact BK538.out) hb); have n1_ := Aside0.mk (below_step (by repeat (first | (with_reducible first | exact HB.out | apply below_alloc | apply pw_below_drewN | apply below_drew1 | refine below_set ?_ GE538.out) | exact HB.out)) hb); clear BK538; clear HB; have BK538 := n0_; have HB := n1_; clear n0_ n1_; (try clear hb); (try clear hb2); (try clear hk); (try clear hi); have hcz8_0 : w7.cell? ⟨gb538, 0, none⟩ = some (.slice A0_0 l0_0.length c0_0) := (blk_cell BK538.out 0).trans rfl; have hcz8_1 : w7.cell? ⟨gb538, 1, none⟩ = some (.slice A0_1 l0_1.length c0_1) := (blk_cell BK538.out 1).trans rfl; have hfz8_0 := blk_frozen BK538.out 0; have hfz8_1 := blk_frozen BK538.out 1) | ((with_reducible refine gate_callee (f := 65) rfl ?_); refine goesL_ (some 11) rfl rfl Try.func65 (by kernel_rfl) rfl #[.agg #[.slice A0_0 l0_0.length c0_0, .slice A0_1 l0_1.length c0_1]] rfl (by (try simp only [List.map_toArray, List.map_cons, List.map_nil]); first | done | rfl | (simp only [List.length_drop, List.length_take]; rfl)) ?_; (with_reducible refine (graph_Connected.calls k _ _ l0_0 _ _ l0_1 true _ ?side1 ?side2 ?side3 ?side4 A3.out).mono ?_); (case side1 => repeat (first | exact (Kd.C_below HR0_0.out HB.out) | (with_reducible refine Kd.C_alloc ?_ _) | (with_reducible refine Kd.C_drewN ?_ _) | (with_reducible refine Kd.C_drew ?_))); (case side2 => exact HC0_0.out); (case side3 => repeat (first | exact (Kd.C_below HR0_1.out HB.out) | (with_reducible refine Kd.C_alloc ?_ _) | (with_reducible refine Kd.C_drewN ?_ _) | (with_reducible refine Kd.C_drew ?_))); (case side4 => exact HC0_1.out); rintro e w9 ⟨rfl, hb⟩; refine ⟨_, rfl, ?_⟩; have n0_ := Aside0.mk (blk_below (g := gb538) (o := .cells #[.slice A0_0 l0_0.length c0_0, .slice A0_1 l0_1.length c0_1] 26 (0, 0)) (by (with_reducible repeat (first | refine blk_drewN ?_ _ | refine blk_drew ?_ | refine blk_alloc ?_ _)); exact BK538.out) hb); have n1_ := Aside0.mk (below_step (by repeat (first | (with_reducible first | exact HB.out | apply below_alloc | apply pw_below_drewN | apply below_drew1 | refine below_set ?_ GE538.out) | exact HB.out)) hb); clear BK538; clear HB; have BK538 := n0_; have HB := n1_; clear n0_ n1_; (try clear hb); (try clear hb2); (try clear hk); (try clear hi)))
    go_ret
    exact ⟨by first | rfl | (simp [errW_none, errW_some] <;> rfl) | (simp [*, errW_none, errW_some] <;> rfl), by repeat (first | (with_reducible first | exact HB.out | apply below_alloc | apply pw_below_drewN | apply below_drew1 | refine below_set ?_ GE538.out) | exact HB.out)⟩
  · replace c4 := Bool.eq_false_iff.mpr c4
    subst c4
    have H1 : (some false) = some r := by rw [if_neg (show ¬ (false = true) by decide)] at H; exact H
    clear H
    have H := H1
    clear H1
    obtain rfl := Option.some.inj H
    go_enter Try.func38, Try.ntmps38
    go_wp2_with (first | ((with_reducible refine gate_dst (N := 1) rfl ?_); refine box_event ?hg (N := 1) ?hd (cs := #[.slice A0_0 l0_0.length c0_0, .slice A0_1 l0_1.length c0_1]) (t := 26) ?hr ?_; (case hd => rfl); (case hg => rfl); (case hr => first | (go_simp; done) | (go_simp; rfl)); intro gb538 hg w10 hbox hb; have n0_ := Aside0.mk (below_step (by repeat (first | (with_reducible first | exact HB.out | apply below_alloc | apply pw_below_drewN | apply below_drew1) | exact HB.out)) hb); have n1_ := Aside0.mk (hbox); have n2_ := Aside0.mk ((by rw [hg]; exact (below_size (by repeat (first | (with_reducible first | exact HB.out | apply below_alloc | apply pw_below_drewN | apply below_drew1) | exact HB.out))) : w.heap.size ≤ gb538)); have n3_ := Aside0.mk ((by rw [hg]; exact (below_size (by repeat (first | (with_reducible first | exact HB.out | apply below_alloc | apply pw_below_drewN | apply below_drew1) | exact HB.out))) : w.heap.size ≤ gb538)); clear HB; have HB := n0_; have BK538 := n1_; have GW538 := n2_; have GE538 := n3_; clear n0_ n1_ n2_ n3_; clear hb hbox hg; have hcz11_0 : w10.cell? ⟨gb538, 0, none⟩ = some (.slice A0_0 l0_0.length c0_0) := (blk_cell BK538.out 0).trans rfl; have hcz11_1 : w10.cell? ⟨gb538, 1, none⟩ = some (.slice A0_1 l0_1.length c0_1) := (blk_cell BK538.out 1).trans rfl; have hfz11_0 := blk_frozen BK538.out 0; have hfz11_1 := blk_frozen BK538.out 1) | ((with_reducible refine gate_callee (f := 64) rfl ?_); refine goesL_ (some 7) rfl rfl Try.func64 (by kernel_rfl) rfl #[.agg #[.slice A0_0 l0_0.length c0_0, .slice A0_1 l0_1.length c0_1]] rfl (by (try simp only [List.map_toArray, List.map_cons, List.map_nil]); first | done | rfl | (simp only [List.length_drop, List.length_take]; rfl)) ?_; (with_reducible refine (graph_Size.calls k _ _ l0_0 _ _ l0_1 t539 t540 _ ?side1 ?side2 ?side3 ?side4 A2.out).mono ?_); (case side1 => repeat (first | exact (Kd.C_below HR0_0.out HB.out) | (with_reducible refine Kd.C_alloc ?_ _) | (with_reducible refine Kd.C_drewN ?_ _) | (with_reducible refine Kd.C_drew ?_))); (case side2 => exact HC0_0.out); (case side3 => repeat (first | exact (Kd.C_below HR0_1.out HB.out) | (with_reducible refine Kd.C_alloc ?_ _) | (with_reducible refine Kd.C_drewN ?_ _) | (with_reducible refine Kd.C_drew ?_))); (case side4 => exact HC0_1.out); rintro e w12 ⟨rfl, hb⟩; refine ⟨_, rfl, ?_⟩; have n0_ := Aside0.mk (blk_below (g := gb538) (o := .cells #[.slice A0_0 l0_0.length c0_0, .slice A0_1 l0_1.length c0_1] 26 (0, 0)) (by (with_reducible repeat (first | refine blk_drewN ?_ _ | refine blk_drew ?_ | refine blk_alloc ?_ _)); exact BK538.out) hb); have n1_ := Aside0.mk (below_step (by repeat (first | (with_reducible first | exact HB.out | apply below_alloc | apply pw_below_drewN | apply below_drew1 | refine below_set ?_ GE538.out) | exact HB.out)) hb); clear BK538; clear HB; have BK538 := n0_; have HB := n1_; clear n0_ n1_; (try clear hb); (try clear hb2); (try clear hk); (try clear hi); have hcz13_0 : w12.cell? ⟨gb538, 0, none⟩ = some (.slice A0_0 l0_0.length c0_0) := (blk_cell BK538.out 0).trans rfl; have hcz13_1 : w12.cell? ⟨gb538, 1, none⟩ = some (.slice A0_1 l0_1.length c0_1) := (blk_cell BK538.out 1).trans rfl; have hfz13_0 := blk_frozen BK538.out 0; have hfz13_1 := blk_frozen BK538.out 1) | ((with_reducible refine gate_callee (f := 65) rfl ?_); refine goesL_ (some 11) rfl rfl Try.func65 (by kernel_rfl) rfl #[.agg #[.slice A0_0 l0_0.length c0_0, .slice A0_1 l0_1.length c0_1]] rfl (by (try simp only [List.map_toArray, List.map_cons, List.map_nil]); first | done | rfl | (simp only [List.length_drop, List.length_take]; rfl)) ?_; (with_reducible refine (graph_Connected.calls k _ _ l0_0 _ _ l0_1 false _ ?side1 ?side2 ?side3 ?side4 A3.out).mono ?_); (case side1 => repeat (first | exact (Kd.C_below HR0_0.out HB.out) | (with_reducible refine Kd.C_alloc ?_ _) | (with_reducible refine Kd.C_drewN ?_ _) | (with_reducible refine Kd.C_drew ?_))); (case side2 => exact HC0_0.out); (case side3 => repeat (first | exact (Kd.C_below HR0_1.out HB.out) | (with_reducible refine Kd.C_alloc ?_ _) | (with_reducible refine Kd.C_drewN ?_ _) | (with_reducible refine Kd.C_drew ?_))); (case side4 => exact HC0_1.out); rintro e w14 ⟨rfl, hb⟩; refine ⟨_, rfl, ?_⟩; have n0_ := Aside0.mk (blk_below (g := gb538) (o := .cells #[.slice A0_0 l0_0.length c0_0, .slice A0_1 l0_1.length c0_1] 26 (0, 0)) (by (with_reducible repeat (first | refine blk_drewN ?_ _ | refine blk_drew ?_ | refine blk_alloc ?_ _)); exact BK538.out) hb); have n1_ := Aside0.mk (below_step (by repeat (first | (with_reducible first | exact HB.out | apply below_alloc | apply pw_below_drewN | apply below_drew1 | refine below_set ?_ GE538.out) | exact HB.out)) hb); clear BK538; clear HB; have BK538 := n0_; have HB := n1_; clear n0_ n1_; (try clear hb); (try clear hb2); (try clear hk); (try clear hi)))
    go_ret
    exact ⟨by first | rfl | (simp [errW_none, errW_some] <;> rfl) | (simp [*, errW_none, errW_some] <;> rfl), by repeat (first | (with_reducible first | exact HB.out | apply below_alloc | apply pw_below_drewN | apply below_drew1 | refine below_set ?_ GE538.out) | exact HB.out)⟩

end Go.Proofs.Ytilmpkoklkgjeaa.P
