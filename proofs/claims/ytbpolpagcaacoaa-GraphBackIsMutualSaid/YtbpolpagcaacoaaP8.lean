-- By a program of this session (wip/tools/myprint.py over the kit's printer). Not trusted: Lean checks it.
import Derived.Test.YtbpolpagcaacoaaP0
import Derived.Test.YtbpolpagcaacoaaP3
import Derived.Test.YtbpolpagcaacoaaP4
import Derived.Test.YtbpolpagcaacoaaP7
namespace Go.Proofs.Ytbpolpagcaacoaa.P
open Go.RowKit Go.Proofs.YtbpolpagcaacoaaW.PrintWords Go.Proofs.YtbpolpagcaacoaaW.PrintLast Go.Proofs.YtbpolpagcaacoaaW.PrintMore
attribute [local go_sem] max2_int min2_int max_two min_two max_three min_three max_four min_four   -- for this text's walks alone
set_option linter.unusedVariables false
set_option linter.unusedSimpArgs false

/-! ### selfstablaw01_GraphBackIsMutual: function 6 -/
mutual
def selfstablaw01_GraphBackIsMutual.l0 : Nat → Int → List Int → List (List (S32)) → Option (Bool)
  | 0, _, _, _ => none
  | k + 1, x3, x252000, x252001 => if x3 < (x252001.length : Int) then (selfstablaw01_GraphBackIsMutual.l1 k x3 0 x252000 x252001) else ((selfstablaw01_awake.f k).bind fun t254 => (some t254))
def selfstablaw01_GraphBackIsMutual.l1 : Nat → Int → Int → List Int → List (List (S32)) → Option (Bool)
  | 0, _, _, _, _ => none
  | k + 1, x3, x4, x252000, x252001 => if 0 ≤ x3 then (if x3 < (x252001.length : Int) then (if x4 < ((rd_L2 x252001 x3).length : Int) then (if 0 ≤ x4 then ((graph_Back.f k x252000 x252001 x3 x4).bind fun t258 => (if t258 < 0 then (none) else (if 0 ≤ ((rd_T32 (rd_L2 x252001 x3) x4).f0) then (if ((rd_T32 (rd_L2 x252001 x3) x4).f0) < (x252001.length : Int) then (if t258 ≥ ((rd_L2 x252001 ((rd_T32 (rd_L2 x252001 x3) x4).f0)).length : Int) then (none) else (if 0 ≤ t258 then (if t258 < ((rd_L2 x252001 ((rd_T32 (rd_L2 x252001 x3) x4).f0)).length : Int) then (if ((rd_T32 (rd_L2 x252001 ((rd_T32 (rd_L2 x252001 x3) x4).f0)) t258).f0) = x3 then ((graph_Back.f k x252000 x252001 ((rd_T32 (rd_L2 x252001 x3) x4).f0) t258).bind fun t262 => (if t262 = x4 then (selfstablaw01_GraphBackIsMutual.l1 k x3 (wrap64 (x4 + 1)) x252000 x252001) else (none))) else (none)) else (none)) else (none))) else (none)) else (none)))) else (none)) else ((graph_Back.f k x252000 x252001 x3 ((rd_L2 x252001 x3).length : Int)).bind fun t264 => (if t264 = (-1) then ((graph_Back.f k x252000 x252001 x3 (-1)).bind fun t265 => (if t265 = (-1) then ((graph_Degree.f x252000 x252001 x3).bind fun t266 => (if t266 = ((rd_L2 x252001 x3).length : Int) then (selfstablaw01_GraphBackIsMutual.l0 k (wrap64 (x3 + 1)) x252000 x252001) else (none))) else (none))) else (none)))) else (none)) else (none)
end
def selfstablaw01_GraphBackIsMutual.f (k : Nat) (l0_0 : List Int) (l0_1 : List (List (S32))) : Option (Bool) := (selfstablaw01_fair.f k l0_0 l0_1).bind fun t252 => (if t252 = true then (selfstablaw01_GraphBackIsMutual.l0 k 0 l0_0 l0_1) else ((selfstablaw01_awake.f k).bind fun t253 => (some t253)))
theorem selfstablaw01_GraphBackIsMutual.mono_l : ∀ k, (∀ y0 y1 y2, LeO (selfstablaw01_GraphBackIsMutual.l0 k y0 y1 y2) (selfstablaw01_GraphBackIsMutual.l0 (k + 1) y0 y1 y2)) ∧ (∀ y0 y1 y2 y3, LeO (selfstablaw01_GraphBackIsMutual.l1 k y0 y1 y2 y3) (selfstablaw01_GraphBackIsMutual.l1 (k + 1) y0 y1 y2 y3))
  | 0 => ⟨fun _ _ _ r h => by simp [selfstablaw01_GraphBackIsMutual.l0] at h, fun _ _ _ _ r h => by simp [selfstablaw01_GraphBackIsMutual.l1] at h⟩
  | k + 1 => by
    obtain ⟨ih0, ih1⟩ := selfstablaw01_GraphBackIsMutual.mono_l k
    refine ⟨?_, ?_⟩
    · intro y0 y1 y2
      unfold selfstablaw01_GraphBackIsMutual.l0
      repeat' first
      | (with_reducible exact ih0 _ _ _)
      | (with_reducible exact ih1 _ _ _ _)
      | (with_reducible exact graph_Back.mono _ _ _ _ _)
      | (with_reducible exact selfstablaw01_awake.mono _)
      | (with_reducible exact selfstablaw01_fair.mono _ _ _)
      | (with_reducible exact LeO.refl _)
      | (with_reducible exact LeO.none _)
      | (with_reducible refine LeO.ite ?_ ?_)
      | (with_reducible refine LeO.bind ?_ (fun _ => ?_))
      | exact ih0 _ _ _
      | exact ih1 _ _ _ _
      | exact graph_Back.mono _ _ _ _ _
      | exact selfstablaw01_awake.mono _
      | exact selfstablaw01_fair.mono _ _ _
      | exact LeO.none _
      | refine LeO.ite ?_ ?_
      | refine LeO.bind ?_ (fun _ => ?_)
    · intro y0 y1 y2 y3
      unfold selfstablaw01_GraphBackIsMutual.l1
      repeat' first
      | (with_reducible exact ih0 _ _ _)
      | (with_reducible exact ih1 _ _ _ _)
      | (with_reducible exact graph_Back.mono _ _ _ _ _)
      | (with_reducible exact selfstablaw01_awake.mono _)
      | (with_reducible exact selfstablaw01_fair.mono _ _ _)
      | (with_reducible exact LeO.refl _)
      | (with_reducible exact LeO.none _)
      | (with_reducible refine LeO.ite ?_ ?_)
      | (with_reducible refine LeO.bind ?_ (fun _ => ?_))
      | exact ih0 _ _ _
      | exact ih1 _ _ _ _
      | exact graph_Back.mono _ _ _ _ _
      | exact selfstablaw01_awake.mono _
      | exact selfstablaw01_fair.mono _ _ _
      | exact LeO.none _
      | refine LeO.ite ?_ ?_
      | refine LeO.bind ?_ (fun _ => ?_)
theorem selfstablaw01_GraphBackIsMutual.mono : ∀ a0 a1 k, LeO (selfstablaw01_GraphBackIsMutual.f k a0 a1) (selfstablaw01_GraphBackIsMutual.f (k + 1) a0 a1) := by
  intro a0 a1 k
  obtain ⟨ih0, ih1⟩ := selfstablaw01_GraphBackIsMutual.mono_l k
  unfold selfstablaw01_GraphBackIsMutual.f
  repeat' first
      | (with_reducible exact ih0 _ _ _)
      | (with_reducible exact ih1 _ _ _ _)
      | (with_reducible exact graph_Back.mono _ _ _ _ _)
      | (with_reducible exact selfstablaw01_awake.mono _)
      | (with_reducible exact selfstablaw01_fair.mono _ _ _)
      | (with_reducible exact LeO.refl _)
      | (with_reducible exact LeO.none _)
      | (with_reducible refine LeO.ite ?_ ?_)
      | (with_reducible refine LeO.bind ?_ (fun _ => ?_))
      | exact ih0 _ _ _
      | exact ih1 _ _ _ _
      | exact graph_Back.mono _ _ _ _ _
      | exact selfstablaw01_awake.mono _
      | exact selfstablaw01_fair.mono _ _ _
      | exact LeO.none _
      | refine LeO.ite ?_ ?_
      | refine LeO.bind ?_ (fun _ => ?_)
def selfstablaw01_GraphBackIsMutual.T13 : Bool × List (List Nat × List Nat) := (true, [([], []), ([], []), ([], []), ([2], [2]), ([], []), ([3, 4], [3, 4]), ([5], [5]), ([6], [6]), ([0, 1, 7], [0, 1, 7]), ([8], [8]), ([9, 8], [9]), ([10], [10]), ([10], [10]), ([11, 12, 10, 10], [10, 11, 12]), ([13, 10], [10, 13]), ([10, 14], [10, 14]), ([15, 13], [15]), ([16], [16]), ([16], [16]), ([17, 18, 16, 16], [16, 17, 18]), ([16], [16]), ([20, 16], [16, 20]), ([16], [16]), ([21, 22, 16], [16, 21, 22]), ([23, 16], [16, 23]), ([24, 16], [16, 24]), ([19, 25, 16], [16, 19, 25]), ([16, 26], [16, 26])])
def selfstablaw01_GraphBackIsMutual.B13 : List Nat := [0, 0, 0, 4, 0, 28, 60, 124, 255, 511, 1023, 2047, 2047, 8191, 16383, 32767, 65535, 131071, 131071, 524287, 131071, 1179647, 131071, 7471103, 15859711, 32636927, 67108863, 134217727]
theorem selfstablaw01_GraphBackIsMutual.tab13 : rtab .any (opsOf Try.f6 13) = selfstablaw01_GraphBackIsMutual.T13 := by kernel_rfl
theorem selfstablaw01_GraphBackIsMutual.bits13 : waitsOk selfstablaw01_GraphBackIsMutual.T13.2 selfstablaw01_GraphBackIsMutual.B13 = true := by kernel_rfl
set_option maxHeartbeats 8000000 in
set_option maxRecDepth 100000 in
theorem selfstablaw01_GraphBackIsMutual.calls (k : Nat) (A0_0 : Option Addr) (c0_0 : Nat) (l0_0 : List Int) (A0_1 : Option Addr) (c0_1 : Nat) (l0_1 : List (List (S32))) (r : Bool) (w : World) (hr0_0 : Kd.C (Kd.int .i64) w A0_0 l0_0.length l0_0) (hc0_0 : l0_0.length ≤ c0_0) (hr0_1 : Kd.C (Kd.slice 32 k32) w A0_1 l0_1.length l0_1) (hc0_1 : l0_1.length ≤ c0_1) (h : selfstablaw01_GraphBackIsMutual.f k l0_0 l0_1 = some r) :
    Calls Try.prog 6 #[.agg #[.slice A0_0 l0_0.length c0_0, .slice A0_1 l0_1.length c0_1]] w fun e w' => e = .returned (.bool r) ∧ Below w.heap.size w w' := by
  have hu25 := Try.underlying25
  have HR0_0 := Aside0.mk hr0_0
  have HC0_0 := Aside0.mk hc0_0
  clear hr0_0 hc0_0
  have HR0_1 := Aside0.mk hr0_1
  have HC0_1 := Aside0.mk hc0_1
  clear hr0_1 hc0_1
  have HB := Aside0.mk (Below.refl w.heap.size w)
  have H : ((selfstablaw01_fair.f k l0_0 l0_1).bind fun t252 => (if t252 = true then (selfstablaw01_GraphBackIsMutual.l0 k 0 l0_0 l0_1) else ((selfstablaw01_awake.f k).bind fun t253 => (some t253)))) = some r := h
  clear h
  replace H := Option.bind_eq_some_iff.mp H
  obtain ⟨t252, A20, H⟩ := H
  replace H : (if t252 = true then (selfstablaw01_GraphBackIsMutual.l0 k 0 l0_0 l0_1) else ((selfstablaw01_awake.f k).bind fun t253 => (some t253))) = some r := H
  have A2 := Aside0.mk A20
  clear A20
  by_cases c3 : t252 = true
  · subst c3
    have H1 : (selfstablaw01_GraphBackIsMutual.l0 k 0 l0_0 l0_1) = some r := by rw [if_pos rfl] at H; exact H
    clear H
    have H := H1
    clear H1
    have H' := Aside0.mk H
    clear H
    go_enter Try.func6, Try.ntmps6
    go_wp2_with (first | ((with_reducible refine gate_dst (N := 1) rfl ?_); (try (refine gate_guard (by rfl) ?_; dsimp only)); refine box_event ?hg (N := 1) ?hd (cs := #[.slice A0_0 l0_0.length c0_0, .slice A0_1 l0_1.length c0_1]) (t := 25) ?hr ?_; (case hd => rfl); (case hg => rfl); (case hr => first | (go_simp; done) | (go_simp; rfl)); intro gb251 hg w4 hbox hb; have n0_ := Aside0.mk (below_step (by repeat (first | (with_reducible first | exact HB.out | apply below_alloc | apply pw_below_drewN | apply below_drew1) | exact HB.out)) hb); have n1_ := Aside0.mk (hbox); have n2_ := Aside0.mk ((by rw [hg]; exact (below_size (by repeat (first | (with_reducible first | exact HB.out | apply below_alloc | apply pw_below_drewN | apply below_drew1) | exact HB.out))) : w.heap.size ≤ gb251)); have n3_ := Aside0.mk ((by rw [hg]; exact (below_size (by repeat (first | (with_reducible first | exact HB.out | apply below_alloc | apply pw_below_drewN | apply below_drew1) | exact HB.out))) : w.heap.size ≤ gb251)); clear HB; have HB := n0_; have BK251 := n1_; have GW251 := n2_; have GE251 := n3_; clear n0_ n1_ n2_ n3_; clear hb hbox hg; have hcz5_0 : w4.cell? ⟨gb251, 0, none⟩ = some (.slice A0_0 l0_0.length c0_0) := (blk_cell BK251.out 0).trans rfl; have hcz5_1 : w4.cell? ⟨gb251, 1, none⟩ = some (.slice A0_1 l0_1.length c0_1) := (blk_cell BK251.out 1).trans rfl; have hfz5_0 := blk_frozen BK251.out 0; have hfz5_1 := blk_frozen BK251.out 1) | ((with_reducible refine gate_callee (f := 11) rfl ?_); refine goesL_ (some 8) rfl rfl Try.func11 (by kernel_rfl) rfl #[.agg #[.slice A0_0 l0_0.length c0_0, .slice A0_1 l0_1.length c0_1]] rfl (by (try simp only [List.map_toArray, List.map_cons, List.map_nil]); first | done | rfl | (simp only [List.length_drop, List.length_take]; rfl)) ?_; (with_reducible refine (selfstablaw01_fair.calls k _ _ l0_0 _ _ l0_1 true _ ?side1 ?side2 ?side3 ?side4 A2.out).mono ?_); (case side1 => repeat (first | exact (Kd.C_below HR0_0.out HB.out) | (with_reducible refine Kd.C_alloc ?_ _) | (with_reducible refine Kd.C_drewN ?_ _) | (with_reducible refine Kd.C_drew ?_))); (case side2 => exact HC0_0.out); (case side3 => repeat (first | exact (Kd.C_below HR0_1.out HB.out) | (with_reducible refine Kd.C_alloc ?_ _) | (with_reducible refine Kd.C_drewN ?_ _) | (with_reducible refine Kd.C_drew ?_))); (case side4 => exact HC0_1.out); rintro e w6 ⟨rfl, hb⟩; refine ⟨_, rfl, ?_⟩; have n0_ := Aside0.mk (blk_below (g := gb251) (o := .cells #[.slice A0_0 l0_0.length c0_0, .slice A0_1 l0_1.length c0_1] 25 (0, 0)) (by (with_reducible repeat (first | refine blk_drewN ?_ _ | refine blk_drew ?_ | refine blk_alloc ?_ _)); exact BK251.out) hb); have n1_ := Aside0.mk (below_step (by repeat (first | (with_reducible first | exact HB.out | apply below_alloc | apply pw_below_drewN | apply below_drew1 | refine below_set ?_ GE251.out) | exact HB.out)) hb); clear BK251; clear HB; have BK251 := n0_; have HB := n1_; clear n0_ n1_; (try clear hb); (try clear hb2); (try clear hk); (try clear hi)))
    go_loopg [3] k (fun kq v3 w' => ∃ (x3_1 : Int), v3 = .int .i64 x3_1 ∧ Aside0 (selfstablaw01_GraphBackIsMutual.l0 kq x3_1 l0_0 l0_1 = some r) ∧ Aside0 (kq ≤ k) ∧ Aside0 (w'.heap[gb251]? = some (.cells #[(.slice A0_0 l0_0.length c0_0), (.slice A0_1 l0_1.length c0_1)] 25 (0, 0))) ∧ Aside0 (Below w.heap.size w w'))
    case atStart => exact ⟨(0), (by first | rfl | (simp; done) | (simp [*]; done)), H', ⟨Nat.le_refl _⟩, ⟨by (with_reducible repeat (first | refine blk_drewN ?_ _ | refine blk_drew ?_ | refine blk_alloc ?_ _)); exact BK251.out⟩, ⟨by repeat (first | (with_reducible first | exact HB.out | apply below_alloc | apply pw_below_drewN | apply below_drew1 | refine below_set ?_ GE251.out) | exact HB.out)⟩⟩
    case round =>
      clear H'
      try clear c1
      try clear p2
      try clear c3
      try clear c6
      try clear hcz5_0
      try clear hcz5_1
      try clear hfz5_0
      try clear hfz5_1
      obtain ⟨x3_1, rfl, HA, HK1, BK251, HB⟩ := hrel
      cases gk with
      | zero => exact absurd HA.out (by simp [selfstablaw01_GraphBackIsMutual.l0])
      | succ k1 =>
        have H := HA.out
        clear HA
        simp only [selfstablaw01_GraphBackIsMutual.l0] at H
        by_cases c7 : x3_1 < (l0_1.length : Int)
        · rw [if_pos c7] at H
          have c7b0 : decide (x3_1 < (l0_1.length : Int)) = true := decide_eq_true c7
          clear c7
          have H' := Aside0.mk H
          clear H
          have hcz8_0 : wr.cell? ⟨gb251, 0, none⟩ = some (.slice A0_0 l0_0.length c0_0) := (blk_cell BK251.out 0).trans rfl
          have hcz8_1 : wr.cell? ⟨gb251, 1, none⟩ = some (.slice A0_1 l0_1.length c0_1) := (blk_cell BK251.out 1).trans rfl
          have hfz8_0 := blk_frozen BK251.out 0
          have hfz8_1 := blk_frozen BK251.out 1
          go_wp2
          go_loopg [4] k1 (fun kq v4 w' => ∃ (x4_2 : Int), v4 = .int .i64 x4_2 ∧ Aside0 (selfstablaw01_GraphBackIsMutual.l1 kq x3_1 x4_2 l0_0 l0_1 = some r) ∧ Aside0 (kq ≤ k1) ∧ Aside0 (w'.heap[gb251]? = some (.cells #[(.slice A0_0 l0_0.length c0_0), (.slice A0_1 l0_1.length c0_1)] 25 (0, 0))) ∧ Aside0 (Below w.heap.size w w'))
          case atStart => exact ⟨(0), (by first | rfl | (simp; done) | (simp [*]; done)), H', ⟨Nat.le_refl _⟩, ⟨by (with_reducible repeat (first | refine blk_drewN ?_ _ | refine blk_drew ?_ | refine blk_alloc ?_ _)); exact BK251.out⟩, ⟨by repeat (first | (with_reducible first | exact HB.out | apply below_alloc | apply pw_below_drewN | apply below_drew1 | refine below_set ?_ GE251.out) | exact HB.out)⟩⟩
          case round =>
            clear H'
            try clear c1
            try clear p2
            try clear c3
            try clear c6
            try clear c7
            try clear c7b0
            try clear hcz5_0
            try clear hcz5_1
            try clear hcz8_0
            try clear hcz8_1
            try clear hfz5_0
            try clear hfz5_1
            try clear hfz8_0
            try clear hfz8_1
            try clear p2
            obtain ⟨x4_2, rfl, HA, HK2, BK251, HB⟩ := hrel
            cases gk with
            | zero => exact absurd HA.out (by simp [selfstablaw01_GraphBackIsMutual.l1])
            | succ k2 =>
              have H := HA.out
              clear HA
              simp only [selfstablaw01_GraphBackIsMutual.l1] at H
              by_cases c9 : 0 ≤ x3_1
              · rw [if_pos c9] at H
                have c9b0 : decide (0 ≤ x3_1) = true := decide_eq_true c9
                clear c9
                by_cases c10 : x3_1 < (l0_1.length : Int)
                · rw [if_pos c10] at H
                  have c10b0 : decide (x3_1 < (l0_1.length : Int)) = true := decide_eq_true c10
                  clear c10
                  by_cases c11 : x4_2 < ((rd_L2 l0_1 x3_1).length : Int)
                  · rw [if_pos c11] at H
                    have c11b0 : decide (x4_2 < ((rd_L2 l0_1 x3_1).length : Int)) = true := decide_eq_true c11
                    clear c11
                    by_cases c12 : 0 ≤ x4_2
                    · rw [if_pos c12] at H
                      have c12b0 : decide (0 ≤ x4_2) = true := decide_eq_true c12
                      clear c12
                      replace H := Option.bind_eq_some_iff.mp H
                      obtain ⟨t258, A130, H⟩ := H
                      replace H : (if t258 < 0 then (none) else (if 0 ≤ ((rd_T32 (rd_L2 l0_1 x3_1) x4_2).f0) then (if ((rd_T32 (rd_L2 l0_1 x3_1) x4_2).f0) < (l0_1.length : Int) then (if t258 ≥ ((rd_L2 l0_1 ((rd_T32 (rd_L2 l0_1 x3_1) x4_2).f0)).length : Int) then (none) else (if 0 ≤ t258 then (if t258 < ((rd_L2 l0_1 ((rd_T32 (rd_L2 l0_1 x3_1) x4_2).f0)).length : Int) then (if ((rd_T32 (rd_L2 l0_1 ((rd_T32 (rd_L2 l0_1 x3_1) x4_2).f0)) t258).f0) = x3_1 then ((graph_Back.f k2 l0_0 l0_1 ((rd_T32 (rd_L2 l0_1 x3_1) x4_2).f0) t258).bind fun t262 => (if t262 = x4_2 then (selfstablaw01_GraphBackIsMutual.l1 k2 x3_1 (wrap64 (x4_2 + 1)) l0_0 l0_1) else (none))) else (none)) else (none)) else (none))) else (none)) else (none))) = some r := H
                      have A13 := Aside0.mk A130
                      clear A130
                      by_cases c14 : t258 < 0
                      · rw [if_pos c14] at H
                        exact absurd H (by simp)
                      · rw [if_neg c14] at H
                        have c14b0 : decide (t258 < 0) = false := decide_eq_false c14
                        clear c14
                        by_cases c15 : 0 ≤ ((rd_T32 (rd_L2 l0_1 x3_1) x4_2).f0)
                        · rw [if_pos c15] at H
                          have c15b0 : decide (0 ≤ ((rd_T32 (rd_L2 l0_1 x3_1) x4_2).f0)) = true := decide_eq_true c15
                          clear c15
                          by_cases c16 : ((rd_T32 (rd_L2 l0_1 x3_1) x4_2).f0) < (l0_1.length : Int)
                          · rw [if_pos c16] at H
                            have c16b0 : decide (((rd_T32 (rd_L2 l0_1 x3_1) x4_2).f0) < (l0_1.length : Int)) = true := decide_eq_true c16
                            clear c16
                            by_cases c17 : t258 ≥ ((rd_L2 l0_1 ((rd_T32 (rd_L2 l0_1 x3_1) x4_2).f0)).length : Int)
                            · rw [if_pos c17] at H
                              exact absurd H (by simp)
                            · rw [if_neg c17] at H
                              have c17b0 : decide (((rd_L2 l0_1 ((rd_T32 (rd_L2 l0_1 x3_1) x4_2).f0)).length : Int) ≤ t258) = false := decide_eq_false c17
                              clear c17
                              by_cases c18 : 0 ≤ t258
                              · rw [if_pos c18] at H
                                have c18b0 : decide (0 ≤ t258) = true := decide_eq_true c18
                                clear c18
                                by_cases c19 : t258 < ((rd_L2 l0_1 ((rd_T32 (rd_L2 l0_1 x3_1) x4_2).f0)).length : Int)
                                · rw [if_pos c19] at H
                                  have c19b0 : decide (t258 < ((rd_L2 l0_1 ((rd_T32 (rd_L2 l0_1 x3_1) x4_2).f0)).length : Int)) = true := decide_eq_true c19
                                  clear c19
                                  by_cases c20 : ((rd_T32 (rd_L2 l0_1 ((rd_T32 (rd_L2 l0_1 x3_1) x4_2).f0)) t258).f0) = x3_1
                                  · rw [if_pos c20] at H
                                    have c20b0 : (((rd_T32 (rd_L2 l0_1 ((rd_T32 (rd_L2 l0_1 x3_1) x4_2).f0)) t258).f0) == x3_1) = true := beq_iff_eq.mpr c20
                                    have c20b1 : (((rd_T32 (rd_L2 l0_1 ((rd_T32 (rd_L2 l0_1 x3_1) x4_2).f0)) t258).f0) != x3_1) = false := bne_eq_false_iff_eq.mpr c20
                                    clear c20
                                    replace H := Option.bind_eq_some_iff.mp H
                                    obtain ⟨t262, A210, H⟩ := H
                                    replace H : (if t262 = x4_2 then (selfstablaw01_GraphBackIsMutual.l1 k2 x3_1 (wrap64 (x4_2 + 1)) l0_0 l0_1) else (none)) = some r := H
                                    have A21 := Aside0.mk A210
                                    clear A210
                                    by_cases c22 : t262 = x4_2
                                    · rw [if_pos c22] at H
                                      have c22b0 : (t262 == x4_2) = true := beq_iff_eq.mpr c22
                                      have c22b1 : (t262 != x4_2) = false := bne_eq_false_iff_eq.mpr c22
                                      clear c22
                                      have H' := Aside0.mk H
                                      clear H
                                      have hcz23_0 : wr.cell? ⟨gb251, 0, none⟩ = some (.slice A0_0 l0_0.length c0_0) := (blk_cell BK251.out 0).trans rfl
                                      have hcz23_1 : wr.cell? ⟨gb251, 1, none⟩ = some (.slice A0_1 l0_1.length c0_1) := (blk_cell BK251.out 1).trans rfl
                                      have hfz23_0 := blk_frozen BK251.out 0
                                      have hfz23_1 := blk_frozen BK251.out 1
                                      have p255 : 0 ≤ (x3_1 : Int) := of_decide_eq_true (by first | (with_reducible assumption) | assumption)
                                      have q255 : x3_1 < (l0_1.length : Int) := of_decide_eq_true (by first | (with_reducible assumption) | assumption)
                                      obtain ⟨ad255, A255_0, c255_0, e255, hx255_0, hl255_0, hi255_0⟩ := at_L2 HR0_1.out x3_1 p255 q255
                                      cases e255
                                      replace hx255_0 := (HB.out.cell (World.block_lt_of_cell? w _ hx255_0)).trans hx255_0
                                      have HR255_0 := Aside0.mk hi255_0
                                      have HC255_0 := Aside0.mk hl255_0
                                      clear hi255_0 hl255_0
                                      replace p255 := eq_true p255
                                      replace q255 := eq_true q255
                                      have p256 : 0 ≤ (x3_1 : Int) := of_decide_eq_true (by first | (with_reducible assumption) | assumption)
                                      have q256 : x3_1 < (l0_1.length : Int) := of_decide_eq_true (by first | (with_reducible assumption) | assumption)
                                      obtain ⟨ad256, A256_0, c256_0, e256, hx256_0, hl256_0, hi256_0⟩ := at_L2 HR0_1.out x3_1 p256 q256
                                      obtain rfl : ad255 = ad256 := (by injection e256)
                                      replace hx256_0 := (HB.out.cell (World.block_lt_of_cell? w _ hx256_0)).trans hx256_0
                                      have HR256_0 := Aside0.mk hi256_0
                                      have HC256_0 := Aside0.mk hl256_0
                                      clear hi256_0 hl256_0
                                      replace p256 := eq_true p256
                                      replace q256 := eq_true q256
                                      have ea_ := Option.some.inj (hx255_0.symm.trans hx256_0)
                                      injection ea_ with ea_ en_ ec_
                                      subst ea_
                                      subst ec_
                                      clear en_
                                      have p257 : 0 ≤ (x4_2 : Int) := of_decide_eq_true (by first | (with_reducible assumption) | assumption)
                                      have q257 : x4_2 < ((rd_L2 l0_1 x3_1).length : Int) := of_decide_eq_true (by first | (with_reducible assumption) | assumption)
                                      obtain ⟨ad257, e257, hx257_0, hx257_1⟩ := at_T32 HR256_0.out x4_2 p257 q257
                                      cases e257
                                      replace hx257_0 := (HB.out.cell (World.block_lt_of_cell? w _ hx257_0)).trans hx257_0
                                      replace hx257_1 := (HB.out.cell (World.block_lt_of_cell? w _ hx257_1)).trans hx257_1
                                      replace p257 := eq_true p257
                                      replace q257 := eq_true q257
                                      go_wp2_with (first | ((with_reducible refine gate_callee (f := 18) rfl ?_); refine goesL_ (some 40) rfl rfl Try.func18 (by kernel_rfl) rfl #[.agg #[.slice A0_0 l0_0.length c0_0, .slice (some ad255) l0_1.length c0_1], .int .i64 x3_1, .int .i64 x4_2] rfl (by (try simp only [List.map_toArray, List.map_cons, List.map_nil]); first | done | rfl | (simp only [List.length_drop, List.length_take]; rfl)) ?_; (with_reducible refine (graph_Back.calls k2 _ _ l0_0 _ _ l0_1 x3_1 x4_2 t258 _ ?side1 ?side2 ?side3 ?side4 A13.out).mono ?_); (case side1 => repeat (first | exact (Kd.C_below HR0_0.out HB.out) | (with_reducible refine Kd.C_alloc ?_ _) | (with_reducible refine Kd.C_drewN ?_ _) | (with_reducible refine Kd.C_drew ?_))); (case side2 => exact HC0_0.out); (case side3 => repeat (first | exact (Kd.C_below HR0_1.out HB.out) | (with_reducible refine Kd.C_alloc ?_ _) | (with_reducible refine Kd.C_drewN ?_ _) | (with_reducible refine Kd.C_drew ?_))); (case side4 => exact HC0_1.out); rintro e w24 ⟨rfl, hb⟩; refine ⟨_, rfl, ?_⟩; have n0_ := Aside0.mk (blk_below (g := gb251) (o := .cells #[.slice A0_0 l0_0.length c0_0, .slice (some ad255) l0_1.length c0_1] 25 (0, 0)) (by (with_reducible repeat (first | refine blk_drewN ?_ _ | refine blk_drew ?_ | refine blk_alloc ?_ _)); exact BK251.out) hb); have n1_ := Aside0.mk (below_step (by repeat (first | (with_reducible first | exact HB.out | apply below_alloc | apply pw_below_drewN | apply below_drew1 | refine below_set ?_ GE251.out) | exact HB.out)) hb); clear BK251; clear HB; have BK251 := n0_; have HB := n1_; clear n0_ n1_; (try clear hb); (try clear hb2); (try clear hk); (try clear hi); have hcz25_0 : w24.cell? ⟨gb251, 0, none⟩ = some (.slice A0_0 l0_0.length c0_0) := (blk_cell BK251.out 0).trans rfl; have hcz25_1 : w24.cell? ⟨gb251, 1, none⟩ = some (.slice (some ad255) l0_1.length c0_1) := (blk_cell BK251.out 1).trans rfl; have hfz25_0 := blk_frozen BK251.out 0; have hfz25_1 := blk_frozen BK251.out 1; have p259 : 0 ≤ (((rd_T32 (rd_L2 l0_1 x3_1) x4_2).f0) : Int) := of_decide_eq_true (by first | (with_reducible assumption) | assumption); have q259 : ((rd_T32 (rd_L2 l0_1 x3_1) x4_2).f0) < (l0_1.length : Int) := of_decide_eq_true (by first | (with_reducible assumption) | assumption); obtain ⟨ad259, A259_0, c259_0, e259, hx259_0, hl259_0, hi259_0⟩ := at_L2 HR0_1.out ((rd_T32 (rd_L2 l0_1 x3_1) x4_2).f0) p259 q259; obtain rfl : ad255 = ad259 := (by injection e259); replace hx259_0 := (HB.out.cell (World.block_lt_of_cell? w _ hx259_0)).trans hx259_0; have HR259_0 := Aside0.mk hi259_0; have HC259_0 := Aside0.mk hl259_0; clear hi259_0 hl259_0; replace p259 := eq_true p259; replace q259 := eq_true q259; have p260 : 0 ≤ (((rd_T32 (rd_L2 l0_1 x3_1) x4_2).f0) : Int) := of_decide_eq_true (by first | (with_reducible assumption) | assumption); have q260 : ((rd_T32 (rd_L2 l0_1 x3_1) x4_2).f0) < (l0_1.length : Int) := of_decide_eq_true (by first | (with_reducible assumption) | assumption); obtain ⟨ad260, A260_0, c260_0, e260, hx260_0, hl260_0, hi260_0⟩ := at_L2 HR0_1.out ((rd_T32 (rd_L2 l0_1 x3_1) x4_2).f0) p260 q260; obtain rfl : ad255 = ad260 := (by injection e260); replace hx260_0 := (HB.out.cell (World.block_lt_of_cell? w _ hx260_0)).trans hx260_0; have HR260_0 := Aside0.mk hi260_0; have HC260_0 := Aside0.mk hl260_0; clear hi260_0 hl260_0; replace p260 := eq_true p260; replace q260 := eq_true q260; have ea_ := Option.some.inj (hx259_0.symm.trans hx260_0); injection ea_ with ea_ en_ ec_; subst ea_; subst ec_; clear en_; have p261 : 0 ≤ (t258 : Int) := of_decide_eq_true (by first | (with_reducible assumption) | assumption); have q261 : t258 < ((rd_L2 l0_1 ((rd_T32 (rd_L2 l0_1 x3_1) x4_2).f0)).length : Int) := of_decide_eq_true (by first | (with_reducible assumption) | assumption); obtain ⟨ad261, e261, hx261_0, hx261_1⟩ := at_T32 HR260_0.out t258 p261 q261; cases e261; replace hx261_0 := (HB.out.cell (World.block_lt_of_cell? w _ hx261_0)).trans hx261_0; replace hx261_1 := (HB.out.cell (World.block_lt_of_cell? w _ hx261_1)).trans hx261_1; replace p261 := eq_true p261; replace q261 := eq_true q261) | (go_at_call 18; (with_reducible refine (graph_Back.calls k2 _ _ l0_0 _ _ l0_1 ((rd_T32 (rd_L2 l0_1 x3_1) x4_2).f0) t258 t262 _ ?side1 ?side2 ?side3 ?side4 A21.out).mono ?_); (case side1 => repeat (first | exact (Kd.C_below HR0_0.out HB.out) | (with_reducible refine Kd.C_alloc ?_ _) | (with_reducible refine Kd.C_drewN ?_ _) | (with_reducible refine Kd.C_drew ?_))); (case side2 => exact HC0_0.out); (case side3 => repeat (first | exact (Kd.C_below HR0_1.out HB.out) | (with_reducible refine Kd.C_alloc ?_ _) | (with_reducible refine Kd.C_drewN ?_ _) | (with_reducible refine Kd.C_drew ?_))); (case side4 => exact HC0_1.out); rintro e w26 ⟨rfl, hb⟩; have n0_ := Aside0.mk (blk_below (g := gb251) (o := .cells #[.slice A0_0 l0_0.length c0_0, .slice (some ad255) l0_1.length c0_1] 25 (0, 0)) (by (with_reducible repeat (first | refine blk_drewN ?_ _ | refine blk_drew ?_ | refine blk_alloc ?_ _)); exact BK251.out) hb); have n1_ := Aside0.mk (below_step (by repeat (first | (with_reducible first | exact HB.out | apply below_alloc | apply pw_below_drewN | apply below_drew1 | refine below_set ?_ GE251.out) | exact HB.out)) hb); clear BK251; clear HB; have BK251 := n0_; have HB := n1_; clear n0_ n1_; (try clear hb); (try clear hb2); (try clear hk); (try clear hi)))
                                      go_roundg k2
                                      case measure => have := HK1.out; have := HK2.out; omega
                                      case rel => exact ⟨(wrap64 (x4_2 + 1)), (by first | rfl | (simp; done) | (simp [*]; done)), H', ⟨by have := HK1.out; have := HK2.out; omega⟩, ⟨by (with_reducible repeat (first | refine blk_drewN ?_ _ | refine blk_drew ?_ | refine blk_alloc ?_ _)); exact BK251.out⟩, ⟨by repeat (first | (with_reducible first | exact HB.out | apply below_alloc | apply pw_below_drewN | apply below_drew1 | refine below_set ?_ GE251.out) | exact HB.out)⟩⟩
                                    · rw [if_neg c22] at H
                                      exact absurd H (by simp)
                                  · rw [if_neg c20] at H
                                    exact absurd H (by simp)
                                · rw [if_neg c19] at H
                                  exact absurd H (by simp)
                              · rw [if_neg c18] at H
                                exact absurd H (by simp)
                          · rw [if_neg c16] at H
                            exact absurd H (by simp)
                        · rw [if_neg c15] at H
                          exact absurd H (by simp)
                    · rw [if_neg c12] at H
                      exact absurd H (by simp)
                  · rw [if_neg c11] at H
                    have c11b0 : decide (x4_2 < ((rd_L2 l0_1 x3_1).length : Int)) = false := decide_eq_false c11
                    clear c11
                    replace H := Option.bind_eq_some_iff.mp H
                    obtain ⟨t264, A270, H⟩ := H
                    replace H : (if t264 = (-1) then ((graph_Back.f k2 l0_0 l0_1 x3_1 (-1)).bind fun t265 => (if t265 = (-1) then ((graph_Degree.f l0_0 l0_1 x3_1).bind fun t266 => (if t266 = ((rd_L2 l0_1 x3_1).length : Int) then (selfstablaw01_GraphBackIsMutual.l0 k2 (wrap64 (x3_1 + 1)) l0_0 l0_1) else (none))) else (none))) else (none)) = some r := H
                    have A27 := Aside0.mk A270
                    clear A270
                    by_cases c28 : t264 = (-1)
                    · rw [if_pos c28] at H
                      have c28b0 : (t264 == (-1)) = true := beq_iff_eq.mpr c28
                      have c28b1 : (t264 != (-1)) = false := bne_eq_false_iff_eq.mpr c28
                      clear c28
                      replace H := Option.bind_eq_some_iff.mp H
                      obtain ⟨t265, A290, H⟩ := H
                      replace H : (if t265 = (-1) then ((graph_Degree.f l0_0 l0_1 x3_1).bind fun t266 => (if t266 = ((rd_L2 l0_1 x3_1).length : Int) then (selfstablaw01_GraphBackIsMutual.l0 k2 (wrap64 (x3_1 + 1)) l0_0 l0_1) else (none))) else (none)) = some r := H
                      have A29 := Aside0.mk A290
                      clear A290
                      by_cases c30 : t265 = (-1)
                      · rw [if_pos c30] at H
                        have c30b0 : (t265 == (-1)) = true := beq_iff_eq.mpr c30
                        have c30b1 : (t265 != (-1)) = false := bne_eq_false_iff_eq.mpr c30
                        clear c30
                        replace H := Option.bind_eq_some_iff.mp H
                        obtain ⟨t266, A310, H⟩ := H
                        replace H : (if t266 = ((rd_L2 l0_1 x3_1).length : Int) then (selfstablaw01_GraphBackIsMutual.l0 k2 (wrap64 (x3_1 + 1)) l0_0 l0_1) else (none)) = some r := H
                        have A31 := Aside0.mk A310
                        clear A310
                        by_cases c32 : t266 = ((rd_L2 l0_1 x3_1).length : Int)
                        · rw [if_pos c32] at H
                          have c32b0 : (t266 == ((rd_L2 l0_1 x3_1).length : Int)) = true := beq_iff_eq.mpr c32
                          have c32b1 : (t266 != ((rd_L2 l0_1 x3_1).length : Int)) = false := bne_eq_false_iff_eq.mpr c32
                          clear c32
                          have H' := Aside0.mk H
                          clear H
                          have hcz33_0 : wr.cell? ⟨gb251, 0, none⟩ = some (.slice A0_0 l0_0.length c0_0) := (blk_cell BK251.out 0).trans rfl
                          have hcz33_1 : wr.cell? ⟨gb251, 1, none⟩ = some (.slice A0_1 l0_1.length c0_1) := (blk_cell BK251.out 1).trans rfl
                          have hfz33_0 := blk_frozen BK251.out 0
                          have hfz33_1 := blk_frozen BK251.out 1
                          have p255 : 0 ≤ (x3_1 : Int) := of_decide_eq_true (by first | (with_reducible assumption) | assumption)
                          have q255 : x3_1 < (l0_1.length : Int) := of_decide_eq_true (by first | (with_reducible assumption) | assumption)
                          obtain ⟨ad255, A255_0, c255_0, e255, hx255_0, hl255_0, hi255_0⟩ := at_L2 HR0_1.out x3_1 p255 q255
                          cases e255
                          replace hx255_0 := (HB.out.cell (World.block_lt_of_cell? w _ hx255_0)).trans hx255_0
                          have HR255_0 := Aside0.mk hi255_0
                          have HC255_0 := Aside0.mk hl255_0
                          clear hi255_0 hl255_0
                          replace p255 := eq_true p255
                          replace q255 := eq_true q255
                          try go_wp2
                          have n0_ := Aside0.mk (blk_drew BK251.out)
                          have n1_ := Aside0.mk (below_drew1 HB.out)
                          clear BK251
                          clear HB
                          have BK251 := n0_
                          have HB := n1_
                          clear n0_ n1_
                          have p263 : 0 ≤ (x3_1 : Int) := of_decide_eq_true (by first | (with_reducible assumption) | assumption)
                          have q263 : x3_1 < (l0_1.length : Int) := of_decide_eq_true (by first | (with_reducible assumption) | assumption)
                          obtain ⟨ad263, A263_0, c263_0, e263, hx263_0, hl263_0, hi263_0⟩ := at_L2 HR0_1.out x3_1 p263 q263
                          have hw263_0 := hx263_0
                          obtain rfl : ad255 = ad263 := (by injection e263)
                          replace hx263_0 := (HB.out.cell (World.block_lt_of_cell? w _ hx263_0)).trans hx263_0
                          have HR263_0 := Aside0.mk hi263_0
                          have HC263_0 := Aside0.mk hl263_0
                          clear hi263_0 hl263_0
                          replace p263 := eq_true p263
                          replace q263 := eq_true q263
                          have p267 : 0 ≤ (x3_1 : Int) := of_decide_eq_true (by first | (with_reducible assumption) | assumption)
                          have q267 : x3_1 < (l0_1.length : Int) := of_decide_eq_true (by first | (with_reducible assumption) | assumption)
                          obtain ⟨ad267, A267_0, c267_0, e267, hx267_0, hl267_0, hi267_0⟩ := at_L2 HR0_1.out x3_1 p267 q267
                          have hw267_0 := hx267_0
                          obtain rfl : ad255 = ad267 := (by injection e267)
                          replace hx267_0 := (HB.out.cell (World.block_lt_of_cell? w _ hx267_0)).trans hx267_0
                          have HR267_0 := Aside0.mk hi267_0
                          have HC267_0 := Aside0.mk hl267_0
                          clear hi267_0 hl267_0
                          replace p267 := eq_true p267
                          replace q267 := eq_true q267
                          refine start_ (n := 28) (S := fun w' => w'.cell? ⟨gb251, 0, none⟩ = some (.slice A0_0 l0_0.length c0_0) ∧ w'.cell? ⟨gb251, 1, none⟩ = some (.slice (some ad255) l0_1.length c0_1) ∧ w'.cell? (ad255.add (x3_1).toNat) = some (.slice A263_0 (rd_L2 l0_1 x3_1).length c263_0) ∧ w'.cell? (ad255.add (x3_1).toNat) = some (.slice A267_0 (rd_L2 l0_1 x3_1).length c267_0)) (ds := []) #[false, false, false, false, false, false, false, false, false, false, false, false, false, false, false, false, false, false, false, false, false, false, false, false, false, false, false, false] (by kernel_rfl) rfl rfl ⟨(blk_cell BK251.out 0).trans rfl, (blk_cell BK251.out 1).trans rfl, ((HB.out.cell (World.block_lt_of_cell? w _ hw263_0)).trans hw263_0), ((HB.out.cell (World.block_lt_of_cell? w _ hw267_0)).trans hw267_0)⟩ (fun hHeld => ?_); refine with_tabW selfstablaw01_GraphBackIsMutual.tab13 selfstablaw01_GraphBackIsMutual.bits13 (fun HT_ HW_ => ?_)
                          generalize wr.drew = w34 at BK251 HB HR263_0 HR267_0 hx263_0 hx267_0 hHeld ⊢
                          refine pure_ (i := 1) (N := some 75) (v := ?_) (a' := ?_) #[false, true, false, false, false, false, false, false, false, false, false, false, false, false, false, false, false, false, false, false, false, false, false, false, false, false, false, false] rfl rfl (any_of HT_.out (by kernel_rfl)) (fun _ _ _ h => h) (Or.inl ⟨by rfl, ?_⟩) ?_ ?_
                          rotate_left
                          · intro w'
                            go_simp
                            with_reducible rfl
                          rotate_left
                          · simp only [Act.put, List.setIfInBounds_toArray, List.set_cons_zero, List.set_cons_succ, i64_w, i32_w]
                            rfl
                          refine pure_ (i := 2) (N := some 76) (v := ?_) (a' := ?_) #[false, true, true, false, false, false, false, false, false, false, false, false, false, false, false, false, false, false, false, false, false, false, false, false, false, false, false, false] rfl rfl (any_of HT_.out (by kernel_rfl)) (fun _ _ _ h => h) (Or.inl ⟨by rfl, ?_⟩) ?_ ?_
                          rotate_left
                          · intro w'
                            go_simp
                            with_reducible rfl
                          rotate_left
                          · simp only [Act.put, List.setIfInBounds_toArray, List.set_cons_zero, List.set_cons_succ, i64_w, i32_w]
                            rfl
                          refine pure_ (i := 4) (N := some 78) (v := ?_) (a' := ?_) #[false, true, true, false, true, false, false, false, false, false, false, false, false, false, false, false, false, false, false, false, false, false, false, false, false, false, false, false] rfl rfl (any_of HT_.out (by kernel_rfl)) (fun _ _ _ h => h) (Or.inl ⟨by rfl, ?_⟩) ?_ ?_
                          rotate_left
                          · intro w'
                            go_simp
                            with_reducible rfl
                          rotate_left
                          · simp only [Act.put, List.setIfInBounds_toArray, List.set_cons_zero, List.set_cons_succ, i64_w, i32_w]
                            rfl
                          refine take_ (i := 0) (N := some 74) (v := ?_) (a' := ?_) #[true, true, true, false, true, false, false, false, false, false, false, false, false, false, false, false, false, false, false, false, false, false, false, false, false, false, false, false] rfl rfl (take_ofW HT_.out HW_.out (by kernel_rfl)) (fun _ _ _ h => h) (Or.inl ⟨by rfl, ?_⟩) hHeld ?_ ?_
                          rotate_left
                          · rintro w' ⟨s0, s1, s2, s3⟩
                            go_simp
                            with_reducible rfl
                          rotate_left
                          · simp only [Act.put, List.setIfInBounds_toArray, List.set_cons_zero, List.set_cons_succ, i64_w, i32_w]
                            rfl
                          refine take_ (i := 3) (N := some 77) (v := ?_) (a' := ?_) #[true, true, true, true, true, false, false, false, false, false, false, false, false, false, false, false, false, false, false, false, false, false, false, false, false, false, false, false] rfl rfl (take_ofW HT_.out HW_.out (by kernel_rfl)) (fun _ _ _ h => h) (Or.inl ⟨by rfl, ?_⟩) hHeld ?_ ?_
                          rotate_left
                          · rintro w' ⟨s0, s1, s2, s3⟩
                            go_simp
                            with_reducible rfl
                          rotate_left
                          · simp only [Act.put, List.setIfInBounds_toArray, List.set_cons_zero, List.set_cons_succ, i64_w, i32_w]
                            rfl
                          refine pure_ (i := 5) (N := some 79) (v := ?_) (a' := ?_) #[true, true, true, true, true, true, false, false, false, false, false, false, false, false, false, false, false, false, false, false, false, false, false, false, false, false, false, false] rfl rfl (any_of HT_.out (by kernel_rfl)) (fun _ _ _ h => h) (Or.inl ⟨by rfl, ?_⟩) ?_ ?_
                          rotate_left
                          · intro w'
                            go_simp
                            with_reducible rfl
                          rotate_left
                          · simp only [Act.put, List.setIfInBounds_toArray, List.set_cons_zero, List.set_cons_succ, i64_w, i32_w]
                            rfl
                          refine take_ (i := 6) (N := some 80) (v := ?_) (a' := ?_) #[true, true, true, true, true, true, true, false, false, false, false, false, false, false, false, false, false, false, false, false, false, false, false, false, false, false, false, false] rfl rfl (take_ofW HT_.out HW_.out (by kernel_rfl)) (fun _ _ _ h => h) (Or.inl ⟨by rfl, ?_⟩) hHeld ?_ ?_
                          rotate_left
                          · rintro w' ⟨s0, s1, s2, s3⟩
                            go_simp
                            with_reducible rfl
                          rotate_left
                          · simp only [Act.put, List.setIfInBounds_toArray, List.set_cons_zero, List.set_cons_succ, i64_w, i32_w]
                            rfl
                          refine pure_ (i := 7) (N := some 81) (v := ?_) (a' := ?_) #[true, true, true, true, true, true, true, true, false, false, false, false, false, false, false, false, false, false, false, false, false, false, false, false, false, false, false, false] rfl rfl (any_of HT_.out (by kernel_rfl)) (fun _ _ _ h => h) (Or.inl ⟨by rfl, ?_⟩) ?_ ?_
                          rotate_left
                          · intro w'
                            go_simp
                            with_reducible rfl
                          rotate_left
                          · simp only [Act.put, List.setIfInBounds_toArray, List.set_cons_zero, List.set_cons_succ, i64_w, i32_w]
                            rfl
                          refine one_ (i := 8) (N := some 82) #[true, true, true, true, true, true, true, true, true, false, false, false, false, false, false, false, false, false, false, false, false, false, false, false, false, false, false, false] rfl rfl (one_of HT_.out (by kernel_rfl)) (by decide) (fun K hK => ?_)
                          refine goes_ Try.func18 (by kernel_rfl) rfl #[.agg #[.slice A0_0 l0_0.length c0_0, .slice (some ad255) l0_1.length c0_1], .int .i64 x3_1, .int .i64 ((rd_L2 l0_1 x3_1).length : Int)] (by rfl) rfl rfl (by (try simp only [List.map_toArray, List.map_cons, List.map_nil]); first | done | rfl | (simp only [List.length_drop, List.length_take]; rfl)) ?_
                          with_reducible refine (graph_Back.calls k2 _ _ l0_0 _ _ l0_1 x3_1 ((rd_L2 l0_1 x3_1).length : Int) t264 _ ?side1 ?side2 ?side3 ?side4 A27.out).mono ?_
                          (case side1 => repeat (first | exact (Kd.C_below HR0_0.out HB.out) | (with_reducible refine Kd.C_alloc ?_ _) | (with_reducible refine Kd.C_drewN ?_ _) | (with_reducible refine Kd.C_drew ?_)))
                          (case side2 => exact HC0_0.out)
                          (case side3 => repeat (first | exact (Kd.C_below HR0_1.out HB.out) | (with_reducible refine Kd.C_alloc ?_ _) | (with_reducible refine Kd.C_drewN ?_ _) | (with_reducible refine Kd.C_drew ?_)))
                          (case side4 => exact HC0_1.out)
                          rintro e w35 ⟨rfl, hb⟩
                          refine ⟨_, rfl, ?_⟩
                          have n0_ := Aside0.mk (blk_below (g := gb251) (o := .cells #[.slice A0_0 l0_0.length c0_0, .slice (some ad255) l0_1.length c0_1] 25 (0, 0)) (by (with_reducible repeat (first | refine blk_drewN ?_ _ | refine blk_drew ?_ | refine blk_alloc ?_ _)); exact BK251.out) hb)
                          have n1_ := Aside0.mk (below_step (by repeat (first | (with_reducible first | exact HB.out | apply below_alloc | apply pw_below_drewN | apply below_drew1 | refine below_set ?_ GE251.out) | exact HB.out)) hb)
                          clear BK251
                          clear HB
                          have BK251 := n0_
                          have HB := n1_
                          clear n0_ n1_
                          (try clear hb)
                          (try clear hb2)
                          (try clear hk)
                          (try clear hi)
                          refine hK.out _ _ ⟨(blk_cell BK251.out 0).trans rfl, (blk_cell BK251.out 1).trans rfl, ((HB.out.cell (World.block_lt_of_cell? w _ hw263_0)).trans hw263_0), ((HB.out.cell (World.block_lt_of_cell? w _ hw267_0)).trans hw267_0)⟩ (fun hHeld => ?_)
                          clear hK K
                          refine norm_ (a' := ?_) ?_ ?_
                          rotate_left
                          · show Act.put _ (some 82) _ = _
                            simp only [Act.put, List.setIfInBounds_toArray, List.set_cons_zero, List.set_cons_succ, i64_w, i32_w]
                            rfl
                          refine pure_ (i := 9) (N := some 83) (v := ?_) (a' := ?_) #[true, true, true, true, true, true, true, true, true, true, false, false, false, false, false, false, false, false, false, false, false, false, false, false, false, false, false, false] rfl rfl (any_of HT_.out (by kernel_rfl)) (fun _ _ _ h => h) (Or.inl ⟨by rfl, ?_⟩) ?_ ?_
                          rotate_left
                          · intro w'
                            go_simp
                            with_reducible rfl
                          rotate_left
                          · simp only [Act.put, List.setIfInBounds_toArray, List.set_cons_zero, List.set_cons_succ, i64_w, i32_w]
                            rfl
                          refine pure_ (i := 10) (N := some 84) (v := ?_) (a' := ?_) #[true, true, true, true, true, true, true, true, true, true, true, false, false, false, false, false, false, false, false, false, false, false, false, false, false, false, false, false] rfl rfl (any_of HT_.out (by kernel_rfl)) (fun _ _ _ h => h) (Or.inl ⟨by rfl, ?_⟩) ?_ ?_
                          rotate_left
                          · intro w'
                            go_simp
                            with_reducible rfl
                          rotate_left
                          · simp only [Act.put, List.setIfInBounds_toArray, List.set_cons_zero, List.set_cons_succ, i64_w, i32_w]
                            rfl
                          refine pure_ (i := 12) (N := some 86) (v := ?_) (a' := ?_) #[true, true, true, true, true, true, true, true, true, true, true, false, true, false, false, false, false, false, false, false, false, false, false, false, false, false, false, false] rfl rfl (any_of HT_.out (by kernel_rfl)) (fun _ _ _ h => h) (Or.inl ⟨by rfl, ?_⟩) ?_ ?_
                          rotate_left
                          · intro w'
                            go_simp
                            with_reducible rfl
                          rotate_left
                          · simp only [Act.put, List.setIfInBounds_toArray, List.set_cons_zero, List.set_cons_succ, i64_w, i32_w]
                            rfl
                          refine take_ (i := 11) (N := some 85) (v := ?_) (a' := ?_) #[true, true, true, true, true, true, true, true, true, true, true, true, true, false, false, false, false, false, false, false, false, false, false, false, false, false, false, false] rfl rfl (take_ofW HT_.out HW_.out (by kernel_rfl)) (fun _ _ _ h => h) (Or.inl ⟨by rfl, ?_⟩) hHeld ?_ ?_
                          rotate_left
                          · rintro w' ⟨s0, s1, s2, s3⟩
                            go_simp
                            with_reducible rfl
                          rotate_left
                          · simp only [Act.put, List.setIfInBounds_toArray, List.set_cons_zero, List.set_cons_succ, i64_w, i32_w]
                            rfl
                          refine one_ (i := 13) (N := some 87) #[true, true, true, true, true, true, true, true, true, true, true, true, true, true, false, false, false, false, false, false, false, false, false, false, false, false, false, false] rfl rfl (one_of HT_.out (by kernel_rfl)) (by decide) (fun K hK => ?_)
                          refine goes_ Try.func18 (by kernel_rfl) rfl #[.agg #[.slice A0_0 l0_0.length c0_0, .slice (some ad255) l0_1.length c0_1], .int .i64 x3_1, .int .i64 (-1)] (by rfl) rfl rfl (by (try simp only [List.map_toArray, List.map_cons, List.map_nil]); first | done | rfl | (simp only [List.length_drop, List.length_take]; rfl)) ?_
                          with_reducible refine (graph_Back.calls k2 _ _ l0_0 _ _ l0_1 x3_1 (-1) t265 _ ?side1 ?side2 ?side3 ?side4 A29.out).mono ?_
                          (case side1 => repeat (first | exact (Kd.C_below HR0_0.out HB.out) | (with_reducible refine Kd.C_alloc ?_ _) | (with_reducible refine Kd.C_drewN ?_ _) | (with_reducible refine Kd.C_drew ?_)))
                          (case side2 => exact HC0_0.out)
                          (case side3 => repeat (first | exact (Kd.C_below HR0_1.out HB.out) | (with_reducible refine Kd.C_alloc ?_ _) | (with_reducible refine Kd.C_drewN ?_ _) | (with_reducible refine Kd.C_drew ?_)))
                          (case side4 => exact HC0_1.out)
                          rintro e w36 ⟨rfl, hb⟩
                          refine ⟨_, rfl, ?_⟩
                          have n0_ := Aside0.mk (blk_below (g := gb251) (o := .cells #[.slice A0_0 l0_0.length c0_0, .slice (some ad255) l0_1.length c0_1] 25 (0, 0)) (by (with_reducible repeat (first | refine blk_drewN ?_ _ | refine blk_drew ?_ | refine blk_alloc ?_ _)); exact BK251.out) hb)
                          have n1_ := Aside0.mk (below_step (by repeat (first | (with_reducible first | exact HB.out | apply below_alloc | apply pw_below_drewN | apply below_drew1 | refine below_set ?_ GE251.out) | exact HB.out)) hb)
                          clear BK251
                          clear HB
                          have BK251 := n0_
                          have HB := n1_
                          clear n0_ n1_
                          (try clear hb)
                          (try clear hb2)
                          (try clear hk)
                          (try clear hi)
                          refine hK.out _ _ ⟨(blk_cell BK251.out 0).trans rfl, (blk_cell BK251.out 1).trans rfl, ((HB.out.cell (World.block_lt_of_cell? w _ hw263_0)).trans hw263_0), ((HB.out.cell (World.block_lt_of_cell? w _ hw267_0)).trans hw267_0)⟩ (fun hHeld => ?_)
                          clear hK K
                          refine norm_ (a' := ?_) ?_ ?_
                          rotate_left
                          · show Act.put _ (some 87) _ = _
                            simp only [Act.put, List.setIfInBounds_toArray, List.set_cons_zero, List.set_cons_succ, i64_w, i32_w]
                            rfl
                          refine pure_ (i := 14) (N := some 88) (v := ?_) (a' := ?_) #[true, true, true, true, true, true, true, true, true, true, true, true, true, true, true, false, false, false, false, false, false, false, false, false, false, false, false, false] rfl rfl (any_of HT_.out (by kernel_rfl)) (fun _ _ _ h => h) (Or.inl ⟨by rfl, ?_⟩) ?_ ?_
                          rotate_left
                          · intro w'
                            go_simp
                            with_reducible rfl
                          rotate_left
                          · simp only [Act.put, List.setIfInBounds_toArray, List.set_cons_zero, List.set_cons_succ, i64_w, i32_w]
                            rfl
                          refine pure_ (i := 15) (N := some 89) (v := ?_) (a' := ?_) #[true, true, true, true, true, true, true, true, true, true, true, true, true, true, true, true, false, false, false, false, false, false, false, false, false, false, false, false] rfl rfl (any_of HT_.out (by kernel_rfl)) (fun _ _ _ h => h) (Or.inl ⟨by rfl, ?_⟩) ?_ ?_
                          rotate_left
                          · intro w'
                            go_simp
                            with_reducible rfl
                          rotate_left
                          · simp only [Act.put, List.setIfInBounds_toArray, List.set_cons_zero, List.set_cons_succ, i64_w, i32_w]
                            rfl
                          refine pure_ (i := 16) (N := some 90) (v := ?_) (a' := ?_) #[true, true, true, true, true, true, true, true, true, true, true, true, true, true, true, true, true, false, false, false, false, false, false, false, false, false, false, false] rfl rfl (any_of HT_.out (by kernel_rfl)) (fun _ _ _ h => h) (Or.inl ⟨by rfl, ?_⟩) ?_ ?_
                          rotate_left
                          · intro w'
                            go_simp
                            with_reducible rfl
                          rotate_left
                          · simp only [Act.put, List.setIfInBounds_toArray, List.set_cons_zero, List.set_cons_succ, i64_w, i32_w]
                            rfl
                          refine pure_ (i := 18) (N := some 92) (v := ?_) (a' := ?_) #[true, true, true, true, true, true, true, true, true, true, true, true, true, true, true, true, true, false, true, false, false, false, false, false, false, false, false, false] rfl rfl (any_of HT_.out (by kernel_rfl)) (fun _ _ _ h => h) (Or.inl ⟨by rfl, ?_⟩) ?_ ?_
                          rotate_left
                          · intro w'
                            go_simp
                            with_reducible rfl
                          rotate_left
                          · simp only [Act.put, List.setIfInBounds_toArray, List.set_cons_zero, List.set_cons_succ, i64_w, i32_w]
                            rfl
                          refine pure_ (i := 20) (N := some 94) (v := ?_) (a' := ?_) #[true, true, true, true, true, true, true, true, true, true, true, true, true, true, true, true, true, false, true, false, true, false, false, false, false, false, false, false] rfl rfl (any_of HT_.out (by kernel_rfl)) (fun _ _ _ h => h) (Or.inl ⟨by rfl, ?_⟩) ?_ ?_
                          rotate_left
                          · intro w'
                            go_simp
                            with_reducible rfl
                          rotate_left
                          · simp only [Act.put, List.setIfInBounds_toArray, List.set_cons_zero, List.set_cons_succ, i64_w, i32_w]
                            rfl
                          refine pure_ (i := 22) (N := some 96) (v := ?_) (a' := ?_) #[true, true, true, true, true, true, true, true, true, true, true, true, true, true, true, true, true, false, true, false, true, false, true, false, false, false, false, false] rfl rfl (any_of HT_.out (by kernel_rfl)) (fun _ _ _ h => h) (Or.inl ⟨by rfl, ?_⟩) ?_ ?_
                          rotate_left
                          · intro w'
                            go_simp
                            with_reducible rfl
                          rotate_left
                          · simp only [Act.put, List.setIfInBounds_toArray, List.set_cons_zero, List.set_cons_succ, i64_w, i32_w]
                            rfl
                          refine take_ (i := 17) (N := some 91) (v := ?_) (a' := ?_) #[true, true, true, true, true, true, true, true, true, true, true, true, true, true, true, true, true, true, true, false, true, false, true, false, false, false, false, false] rfl rfl (take_ofW HT_.out HW_.out (by kernel_rfl)) (fun _ _ _ h => h) (Or.inl ⟨by rfl, ?_⟩) hHeld ?_ ?_
                          rotate_left
                          · rintro w' ⟨s0, s1, s2, s3⟩
                            go_simp
                            with_reducible rfl
                          rotate_left
                          · simp only [Act.put, List.setIfInBounds_toArray, List.set_cons_zero, List.set_cons_succ, i64_w, i32_w]
                            rfl
                          refine take_ (i := 21) (N := some 95) (v := ?_) (a' := ?_) #[true, true, true, true, true, true, true, true, true, true, true, true, true, true, true, true, true, true, true, false, true, true, true, false, false, false, false, false] rfl rfl (take_ofW HT_.out HW_.out (by kernel_rfl)) (fun _ _ _ h => h) (Or.inl ⟨by rfl, ?_⟩) hHeld ?_ ?_
                          rotate_left
                          · rintro w' ⟨s0, s1, s2, s3⟩
                            go_simp
                            with_reducible rfl
                          rotate_left
                          · simp only [Act.put, List.setIfInBounds_toArray, List.set_cons_zero, List.set_cons_succ, i64_w, i32_w]
                            rfl
                          refine pure_ (i := 23) (N := some 97) (v := ?_) (a' := ?_) #[true, true, true, true, true, true, true, true, true, true, true, true, true, true, true, true, true, true, true, false, true, true, true, true, false, false, false, false] rfl rfl (any_of HT_.out (by kernel_rfl)) (fun _ _ _ h => h) (Or.inl ⟨by rfl, ?_⟩) ?_ ?_
                          rotate_left
                          · intro w'
                            go_simp
                            with_reducible rfl
                          rotate_left
                          · simp only [Act.put, List.setIfInBounds_toArray, List.set_cons_zero, List.set_cons_succ, i64_w, i32_w]
                            rfl
                          refine take_ (i := 24) (N := some 98) (v := ?_) (a' := ?_) #[true, true, true, true, true, true, true, true, true, true, true, true, true, true, true, true, true, true, true, false, true, true, true, true, true, false, false, false] rfl rfl (take_ofW HT_.out HW_.out (by kernel_rfl)) (fun _ _ _ h => h) (Or.inl ⟨by rfl, ?_⟩) hHeld ?_ ?_
                          rotate_left
                          · rintro w' ⟨s0, s1, s2, s3⟩
                            go_simp
                            with_reducible rfl
                          rotate_left
                          · simp only [Act.put, List.setIfInBounds_toArray, List.set_cons_zero, List.set_cons_succ, i64_w, i32_w]
                            rfl
                          refine pure_ (i := 25) (N := some 99) (v := ?_) (a' := ?_) #[true, true, true, true, true, true, true, true, true, true, true, true, true, true, true, true, true, true, true, false, true, true, true, true, true, true, false, false] rfl rfl (any_of HT_.out (by kernel_rfl)) (fun _ _ _ h => h) (Or.inl ⟨by rfl, ?_⟩) ?_ ?_
                          rotate_left
                          · intro w'
                            go_simp
                            with_reducible rfl
                          rotate_left
                          · simp only [Act.put, List.setIfInBounds_toArray, List.set_cons_zero, List.set_cons_succ, i64_w, i32_w]
                            rfl
                          refine one_ (i := 19) (N := some 93) #[true, true, true, true, true, true, true, true, true, true, true, true, true, true, true, true, true, true, true, true, true, true, true, true, true, true, false, false] rfl rfl (one_of HT_.out (by kernel_rfl)) (by decide) (fun K hK => ?_)
                          refine goes_ Try.func19 (by kernel_rfl) rfl #[.agg #[.slice A0_0 l0_0.length c0_0, .slice (some ad255) l0_1.length c0_1], .int .i64 x3_1] (by rfl) rfl rfl (by (try simp only [List.map_toArray, List.map_cons, List.map_nil]); first | done | rfl | (simp only [List.length_drop, List.length_take]; rfl)) ?_
                          with_reducible refine (graph_Degree.calls _ _ l0_0 _ _ l0_1 x3_1 t266 _ ?side1 ?side2 ?side3 ?side4 A31.out).mono ?_
                          (case side1 => repeat (first | exact (Kd.C_below HR0_0.out HB.out) | (with_reducible refine Kd.C_alloc ?_ _) | (with_reducible refine Kd.C_drewN ?_ _) | (with_reducible refine Kd.C_drew ?_)))
                          (case side2 => exact HC0_0.out)
                          (case side3 => repeat (first | exact (Kd.C_below HR0_1.out HB.out) | (with_reducible refine Kd.C_alloc ?_ _) | (with_reducible refine Kd.C_drewN ?_ _) | (with_reducible refine Kd.C_drew ?_)))
                          (case side4 => exact HC0_1.out)
                          rintro e w37 ⟨rfl, hb⟩
                          refine ⟨_, rfl, ?_⟩
                          have n0_ := Aside0.mk (blk_below (g := gb251) (o := .cells #[.slice A0_0 l0_0.length c0_0, .slice (some ad255) l0_1.length c0_1] 25 (0, 0)) (by (with_reducible repeat (first | refine blk_drewN ?_ _ | refine blk_drew ?_ | refine blk_alloc ?_ _)); exact BK251.out) hb)
                          have n1_ := Aside0.mk (below_step (by repeat (first | (with_reducible first | exact HB.out | apply below_alloc | apply pw_below_drewN | apply below_drew1 | refine below_set ?_ GE251.out) | exact HB.out)) hb)
                          clear BK251
                          clear HB
                          have BK251 := n0_
                          have HB := n1_
                          clear n0_ n1_
                          (try clear hb)
                          (try clear hb2)
                          (try clear hk)
                          (try clear hi)
                          refine hK.out _ _ ⟨(blk_cell BK251.out 0).trans rfl, (blk_cell BK251.out 1).trans rfl, ((HB.out.cell (World.block_lt_of_cell? w _ hw263_0)).trans hw263_0), ((HB.out.cell (World.block_lt_of_cell? w _ hw267_0)).trans hw267_0)⟩ (fun hHeld => ?_)
                          clear hK K
                          refine norm_ (a' := ?_) ?_ ?_
                          rotate_left
                          · show Act.put _ (some 93) _ = _
                            simp only [Act.put, List.setIfInBounds_toArray, List.set_cons_zero, List.set_cons_succ, i64_w, i32_w]
                            rfl
                          refine pure_ (i := 26) (N := some 100) (v := ?_) (a' := ?_) #[true, true, true, true, true, true, true, true, true, true, true, true, true, true, true, true, true, true, true, true, true, true, true, true, true, true, true, false] rfl rfl (any_of HT_.out (by kernel_rfl)) (fun _ _ _ h => h) (Or.inl ⟨by rfl, ?_⟩) ?_ ?_
                          rotate_left
                          · intro w'
                            go_simp
                            with_reducible rfl
                          rotate_left
                          · simp only [Act.put, List.setIfInBounds_toArray, List.set_cons_zero, List.set_cons_succ, i64_w, i32_w]
                            rfl
                          refine pure_ (i := 27) (N := some 101) (v := ?_) (a' := ?_) #[true, true, true, true, true, true, true, true, true, true, true, true, true, true, true, true, true, true, true, true, true, true, true, true, true, true, true, true] rfl rfl (any_of HT_.out (by kernel_rfl)) (fun _ _ _ h => h) (Or.inl ⟨by rfl, ?_⟩) ?_ ?_
                          rotate_left
                          · intro w'
                            go_simp
                            with_reducible rfl
                          rotate_left
                          · simp only [Act.put, List.setIfInBounds_toArray, List.set_cons_zero, List.set_cons_succ, i64_w, i32_w]
                            rfl
                          refine done_ (done_of HT_.out (by kernel_rfl)) ?_
                          try go_wp2
                          go_roundg k2
                          case measure => have := HK1.out; have := HK2.out; omega
                          case rel => exact ⟨(wrap64 (x3_1 + 1)), (by first | rfl | (simp; done) | (simp [*]; done)), H', ⟨by have := HK1.out; have := HK2.out; omega⟩, ⟨by (with_reducible repeat (first | refine blk_drewN ?_ _ | refine blk_drew ?_ | refine blk_alloc ?_ _)); exact BK251.out⟩, ⟨by repeat (first | (with_reducible first | exact HB.out | apply below_alloc | apply pw_below_drewN | apply below_drew1 | refine below_set ?_ GE251.out) | exact HB.out)⟩⟩
                        · rw [if_neg c32] at H
                          exact absurd H (by simp)
                      · rw [if_neg c30] at H
                        have c30b0 : (t265 == (-1)) = false := beq_eq_false_iff_ne.mpr c30
                        have c30b1 : (t265 != (-1)) = true := bne_iff_ne.mpr c30
                        exact absurd H (by simp)
                    · rw [if_neg c28] at H
                      have c28b0 : (t264 == (-1)) = false := beq_eq_false_iff_ne.mpr c28
                      have c28b1 : (t264 != (-1)) = true := bne_iff_ne.mpr c28
                      exact absurd H (by simp)
                · rw [if_neg c10] at H
                  exact absurd H (by simp)
              · rw [if_neg c9] at H
                exact absurd H (by simp)
        · rw [if_neg c7] at H
          have c7b0 : decide (x3_1 < (l0_1.length : Int)) = false := decide_eq_false c7
          clear c7
          replace H := Option.bind_eq_some_iff.mp H
          obtain ⟨t254, A380, H⟩ := H
          replace H : (some t254) = some r := H
          have A38 := Aside0.mk A380
          clear A380
          obtain rfl := Option.some.inj H
          have hcz39_0 : wr.cell? ⟨gb251, 0, none⟩ = some (.slice A0_0 l0_0.length c0_0) := (blk_cell BK251.out 0).trans rfl
          have hcz39_1 : wr.cell? ⟨gb251, 1, none⟩ = some (.slice A0_1 l0_1.length c0_1) := (blk_cell BK251.out 1).trans rfl
          have hfz39_0 := blk_frozen BK251.out 0
          have hfz39_1 := blk_frozen BK251.out 1
          go_wp2_with (first | ((with_reducible refine gate_callee (f := 12) rfl ?_); refine goesL_ (some 102) rfl rfl Try.func12 (by kernel_rfl) rfl #[] rfl (by (try simp only [List.map_toArray, List.map_cons, List.map_nil]); first | done | rfl | (simp only [List.length_drop, List.length_take]; rfl)) ?_; (with_reducible refine (selfstablaw01_awake.calls k1  t254 _ A38.out).mono ?_); rintro e w40 ⟨rfl, hb⟩; refine ⟨_, rfl, ?_⟩; have n0_ := Aside0.mk (blk_below (g := gb251) (o := .cells #[.slice A0_0 l0_0.length c0_0, .slice A0_1 l0_1.length c0_1] 25 (0, 0)) (by (with_reducible repeat (first | refine blk_drewN ?_ _ | refine blk_drew ?_ | refine blk_alloc ?_ _)); exact BK251.out) hb); have n1_ := Aside0.mk (below_step (by repeat (first | (with_reducible first | exact HB.out | apply below_alloc | apply pw_below_drewN | apply below_drew1 | refine below_set ?_ GE251.out) | exact HB.out)) hb); clear BK251; clear HB; have BK251 := n0_; have HB := n1_; clear n0_ n1_; (try clear hb); (try clear hb2); (try clear hk); (try clear hi)))
          go_ret
          exact ⟨by first | rfl | (simp [errW_none, errW_some] <;> rfl) | (simp [*, errW_none, errW_some] <;> rfl), by repeat (first | (with_reducible first | exact HB.out | apply below_alloc | apply pw_below_drewN | apply below_drew1 | refine below_set ?_ GE251.out) | exact HB.out)⟩
  · replace c3 := Bool.eq_false_iff.mpr c3
    subst c3
    have H1 : ((selfstablaw01_awake.f k).bind fun t253 => (some t253)) = some r := by rw [if_neg (show ¬ (false = true) by decide)] at H; exact H
    clear H
    have H := H1
    clear H1
    replace H := Option.bind_eq_some_iff.mp H
    obtain ⟨t253, A410, H⟩ := H
    replace H : (some t253) = some r := H
    have A41 := Aside0.mk A410
    clear A410
    obtain rfl := Option.some.inj H
    go_enter Try.func6, Try.ntmps6
    go_wp2_with (first | ((with_reducible refine gate_dst (N := 1) rfl ?_); (try (refine gate_guard (by rfl) ?_; dsimp only)); refine box_event ?hg (N := 1) ?hd (cs := #[.slice A0_0 l0_0.length c0_0, .slice A0_1 l0_1.length c0_1]) (t := 25) ?hr ?_; (case hd => rfl); (case hg => rfl); (case hr => first | (go_simp; done) | (go_simp; rfl)); intro gb251 hg w42 hbox hb; have n0_ := Aside0.mk (below_step (by repeat (first | (with_reducible first | exact HB.out | apply below_alloc | apply pw_below_drewN | apply below_drew1) | exact HB.out)) hb); have n1_ := Aside0.mk (hbox); have n2_ := Aside0.mk ((by rw [hg]; exact (below_size (by repeat (first | (with_reducible first | exact HB.out | apply below_alloc | apply pw_below_drewN | apply below_drew1) | exact HB.out))) : w.heap.size ≤ gb251)); have n3_ := Aside0.mk ((by rw [hg]; exact (below_size (by repeat (first | (with_reducible first | exact HB.out | apply below_alloc | apply pw_below_drewN | apply below_drew1) | exact HB.out))) : w.heap.size ≤ gb251)); clear HB; have HB := n0_; have BK251 := n1_; have GW251 := n2_; have GE251 := n3_; clear n0_ n1_ n2_ n3_; clear hb hbox hg; have hcz43_0 : w42.cell? ⟨gb251, 0, none⟩ = some (.slice A0_0 l0_0.length c0_0) := (blk_cell BK251.out 0).trans rfl; have hcz43_1 : w42.cell? ⟨gb251, 1, none⟩ = some (.slice A0_1 l0_1.length c0_1) := (blk_cell BK251.out 1).trans rfl; have hfz43_0 := blk_frozen BK251.out 0; have hfz43_1 := blk_frozen BK251.out 1) | ((with_reducible refine gate_callee (f := 11) rfl ?_); refine goesL_ (some 8) rfl rfl Try.func11 (by kernel_rfl) rfl #[.agg #[.slice A0_0 l0_0.length c0_0, .slice A0_1 l0_1.length c0_1]] rfl (by (try simp only [List.map_toArray, List.map_cons, List.map_nil]); first | done | rfl | (simp only [List.length_drop, List.length_take]; rfl)) ?_; (with_reducible refine (selfstablaw01_fair.calls k _ _ l0_0 _ _ l0_1 false _ ?side1 ?side2 ?side3 ?side4 A2.out).mono ?_); (case side1 => repeat (first | exact (Kd.C_below HR0_0.out HB.out) | (with_reducible refine Kd.C_alloc ?_ _) | (with_reducible refine Kd.C_drewN ?_ _) | (with_reducible refine Kd.C_drew ?_))); (case side2 => exact HC0_0.out); (case side3 => repeat (first | exact (Kd.C_below HR0_1.out HB.out) | (with_reducible refine Kd.C_alloc ?_ _) | (with_reducible refine Kd.C_drewN ?_ _) | (with_reducible refine Kd.C_drew ?_))); (case side4 => exact HC0_1.out); rintro e w44 ⟨rfl, hb⟩; refine ⟨_, rfl, ?_⟩; have n0_ := Aside0.mk (blk_below (g := gb251) (o := .cells #[.slice A0_0 l0_0.length c0_0, .slice A0_1 l0_1.length c0_1] 25 (0, 0)) (by (with_reducible repeat (first | refine blk_drewN ?_ _ | refine blk_drew ?_ | refine blk_alloc ?_ _)); exact BK251.out) hb); have n1_ := Aside0.mk (below_step (by repeat (first | (with_reducible first | exact HB.out | apply below_alloc | apply pw_below_drewN | apply below_drew1 | refine below_set ?_ GE251.out) | exact HB.out)) hb); clear BK251; clear HB; have BK251 := n0_; have HB := n1_; clear n0_ n1_; (try clear hb); (try clear hb2); (try clear hk); (try clear hi)) | ((with_reducible refine gate_callee (f := 12) rfl ?_); refine goesL_ (some 10) rfl rfl Try.func12 (by kernel_rfl) rfl #[] rfl (by (try simp only [List.map_toArray, List.map_cons, List.map_nil]); first | done | rfl | (simp only [List.length_drop, List.length_take]; rfl)) ?_; (with_reducible refine (selfstablaw01_awake.calls k  t253 _ A41.out).mono ?_); rintro e w45 ⟨rfl, hb⟩; refine ⟨_, rfl, ?_⟩; have n0_ := Aside0.mk (blk_below (g := gb251) (o := .cells #[.slice A0_0 l0_0.length c0_0, .slice A0_1 l0_1.length c0_1] 25 (0, 0)) (by (with_reducible repeat (first | refine blk_drewN ?_ _ | refine blk_drew ?_ | refine blk_alloc ?_ _)); exact BK251.out) hb); have n1_ := Aside0.mk (below_step (by repeat (first | (with_reducible first | exact HB.out | apply below_alloc | apply pw_below_drewN | apply below_drew1 | refine below_set ?_ GE251.out) | exact HB.out)) hb); clear BK251; clear HB; have BK251 := n0_; have HB := n1_; clear n0_ n1_; (try clear hb); (try clear hb2); (try clear hk); (try clear hi)))
    go_ret
    exact ⟨by first | rfl | (simp [errW_none, errW_some] <;> rfl) | (simp [*, errW_none, errW_some] <;> rfl), by repeat (first | (with_reducible first | exact HB.out | apply below_alloc | apply pw_below_drewN | apply below_drew1 | refine below_set ?_ GE251.out) | exact HB.out)⟩

/-! ### selfstabref01_SameInts: function 21 -/
def selfstabref01_SameInts.l0 : Nat → List Int → List Int → Int → Option (Bool)
  | 0, _, _, _ => none
  | k + 1, x0, x1, x5 => if x5 < (x0.length : Int) then (if 0 ≤ x5 then (if x5 < (x1.length : Int) then (if (rd x0 x5) = (rd x1 x5) then (selfstabref01_SameInts.l0 k x0 x1 (wrap64 (x5 + 1))) else (some false)) else (none)) else (none)) else (some true)
def selfstabref01_SameInts.f (k : Nat) (l0 : List Int) (l1 : List Int) : Option (Bool) := if (l0.length : Int) = (l1.length : Int) then (selfstabref01_SameInts.l0 k l0 l1 0) else (some false)
theorem selfstabref01_SameInts.mono_l : ∀ k, (∀ y0 y1 y2, LeO (selfstabref01_SameInts.l0 k y0 y1 y2) (selfstabref01_SameInts.l0 (k + 1) y0 y1 y2))
  | 0 => fun _ _ _ r h => by simp [selfstabref01_SameInts.l0] at h
  | k + 1 => by
    have ih0 := selfstabref01_SameInts.mono_l k
    · intro y0 y1 y2
      unfold selfstabref01_SameInts.l0
      repeat' first
      | (with_reducible exact ih0 _ _ _)
      | (with_reducible exact LeO.refl _)
      | (with_reducible exact LeO.none _)
      | (with_reducible refine LeO.ite ?_ ?_)
      | (with_reducible refine LeO.bind ?_ (fun _ => ?_))
      | exact ih0 _ _ _
      | exact LeO.none _
      | refine LeO.ite ?_ ?_
      | refine LeO.bind ?_ (fun _ => ?_)
theorem selfstabref01_SameInts.mono : ∀ a0 a1 k, LeO (selfstabref01_SameInts.f k a0 a1) (selfstabref01_SameInts.f (k + 1) a0 a1) := by
  intro a0 a1 k
  have ih0 := selfstabref01_SameInts.mono_l k
  unfold selfstabref01_SameInts.f
  repeat' first
      | (with_reducible exact ih0 _ _ _)
      | (with_reducible exact LeO.refl _)
      | (with_reducible exact LeO.none _)
      | (with_reducible refine LeO.ite ?_ ?_)
      | (with_reducible refine LeO.bind ?_ (fun _ => ?_))
      | exact ih0 _ _ _
      | exact LeO.none _
      | refine LeO.ite ?_ ?_
      | refine LeO.bind ?_ (fun _ => ?_)
set_option maxHeartbeats 8000000 in
set_option maxRecDepth 100000 in
theorem selfstabref01_SameInts.calls (k : Nat) (A0 : Option Addr) (c0 : Nat) (l0 : List Int) (A1 : Option Addr) (c1 : Nat) (l1 : List Int) (r : Bool) (w : World) (hr0 : Kd.C (Kd.int .i64) w A0 l0.length l0) (hc0 : l0.length ≤ c0) (hr1 : Kd.C (Kd.int .i64) w A1 l1.length l1) (hc1 : l1.length ≤ c1) (h : selfstabref01_SameInts.f k l0 l1 = some r) :
    Calls Try.prog 21 #[.slice A0 l0.length c0, .slice A1 l1.length c1] w fun e w' => e = .returned (.bool r) ∧ Drawn0 w w' := by
  have HR0 := Aside0.mk hr0
  have HC0 := Aside0.mk hc0
  clear hr0 hc0
  have HR1 := Aside0.mk hr1
  have HC1 := Aside0.mk hc1
  clear hr1 hc1
  have H : (if (l0.length : Int) = (l1.length : Int) then (selfstabref01_SameInts.l0 k l0 l1 0) else (some false)) = some r := h
  clear h
  by_cases c3 : (l0.length : Int) = (l1.length : Int)
  · rw [if_pos c3] at H
    have c3b0 : ((l0.length : Int) == (l1.length : Int)) = true := beq_iff_eq.mpr c3
    have c3b1 : ((l0.length : Int) != (l1.length : Int)) = false := bne_eq_false_iff_eq.mpr c3
    have c3b2 : (l0.length == l1.length) = true := by first | simpa using c3 | (simp at c3 ⊢; omega)
    clear c3
    have H' := Aside0.mk H
    clear H
    go_enter Try.func21, Try.ntmps21
    go_wp2
    repeat (go_quiet (fail); try go_wp2)
    go_loopg [5] k (fun kq v5 w' => ∃ (x5_1 : Int), v5 = .int .i64 x5_1 ∧ Aside0 (selfstabref01_SameInts.l0 kq l0 l1 x5_1 = some r) ∧ Aside0 (kq ≤ k) ∧ Drawn0 w w')
    case atStart => exact ⟨(0), (by first | rfl | (simp; done) | (simp [*]; done)), H', ⟨Nat.le_refl _⟩, by repeat (first | exact Drawn0.refl _ | apply Drawn0.step)⟩
    case round =>
      clear H'
      try clear c1
      try clear c2
      try clear p2
      try clear c3
      try clear c3b0
      try clear c3b1
      try clear c3b2
      obtain ⟨x5_1, rfl, HA, HK1, ⟨m1, rfl⟩⟩ := hrel
      cases gk with
      | zero => exact absurd HA.out (by simp [selfstabref01_SameInts.l0])
      | succ k1 =>
        have H := HA.out
        clear HA
        simp only [selfstabref01_SameInts.l0] at H
        by_cases c4 : x5_1 < (l0.length : Int)
        · rw [if_pos c4] at H
          have c4b0 : decide (x5_1 < (l0.length : Int)) = true := decide_eq_true c4
          clear c4
          by_cases c5 : 0 ≤ x5_1
          · rw [if_pos c5] at H
            have c5b0 : decide (0 ≤ x5_1) = true := decide_eq_true c5
            clear c5
            by_cases c6 : x5_1 < (l1.length : Int)
            · rw [if_pos c6] at H
              have c6b0 : decide (x5_1 < (l1.length : Int)) = true := decide_eq_true c6
              clear c6
              by_cases c7 : (rd l0 x5_1) = (rd l1 x5_1)
              · rw [if_pos c7] at H
                have c7b0 : ((rd l0 x5_1) == (rd l1 x5_1)) = true := beq_iff_eq.mpr c7
                have c7b1 : ((rd l0 x5_1) != (rd l1 x5_1)) = false := bne_eq_false_iff_eq.mpr c7
                clear c7
                have H' := Aside0.mk H
                clear H
                have p268 : 0 ≤ (x5_1 : Int) := of_decide_eq_true (by first | (with_reducible assumption) | assumption)
                have q268 : x5_1 < (l0.length : Int) := of_decide_eq_true (by first | (with_reducible assumption) | assumption)
                obtain ⟨ad268, e268, hx268_0⟩ := Kd.at_int HR0.out x5_1 p268 q268
                cases e268
                replace p268 := eq_true p268
                replace q268 := eq_true q268
                have p269 : 0 ≤ (x5_1 : Int) := of_decide_eq_true (by first | (with_reducible assumption) | assumption)
                have q269 : x5_1 < (l1.length : Int) := of_decide_eq_true (by first | (with_reducible assumption) | assumption)
                obtain ⟨ad269, e269, hx269_0⟩ := Kd.at_int HR1.out x5_1 p269 q269
                cases e269
                replace p269 := eq_true p269
                replace q269 := eq_true q269
                go_wp2
                repeat (go_quiet (fail); try go_wp2)
                go_roundg k1
                case measure => have := HK1.out; omega
                case rel => exact ⟨(wrap64 (x5_1 + 1)), (by first | rfl | (simp; done) | (simp [*]; done)), H', ⟨by have := HK1.out; omega⟩, by repeat (first | exact Drawn0.refl _ | apply Drawn0.step)⟩
              · rw [if_neg c7] at H
                have c7b0 : ((rd l0 x5_1) == (rd l1 x5_1)) = false := beq_eq_false_iff_ne.mpr c7
                have c7b1 : ((rd l0 x5_1) != (rd l1 x5_1)) = true := bne_iff_ne.mpr c7
                obtain rfl := Option.some.inj H
                have p268 : 0 ≤ (x5_1 : Int) := of_decide_eq_true (by first | (with_reducible assumption) | assumption)
                have q268 : x5_1 < (l0.length : Int) := of_decide_eq_true (by first | (with_reducible assumption) | assumption)
                obtain ⟨ad268, e268, hx268_0⟩ := Kd.at_int HR0.out x5_1 p268 q268
                cases e268
                replace p268 := eq_true p268
                replace q268 := eq_true q268
                have p269 : 0 ≤ (x5_1 : Int) := of_decide_eq_true (by first | (with_reducible assumption) | assumption)
                have q269 : x5_1 < (l1.length : Int) := of_decide_eq_true (by first | (with_reducible assumption) | assumption)
                obtain ⟨ad269, e269, hx269_0⟩ := Kd.at_int HR1.out x5_1 p269 q269
                cases e269
                replace p269 := eq_true p269
                replace q269 := eq_true q269
                go_wp2
                repeat (go_quiet (fail); try go_wp2)
                go_ret
                exact ⟨by first | rfl | (simp; done) | (simp [*]; done), by repeat (first | exact Drawn0.refl _ | apply Drawn0.step)⟩
            · rw [if_neg c6] at H
              exact absurd H (by simp)
          · rw [if_neg c5] at H
            exact absurd H (by simp)
        · rw [if_neg c4] at H
          have c4b0 : decide (x5_1 < (l0.length : Int)) = false := decide_eq_false c4
          clear c4
          obtain rfl := Option.some.inj H
          go_wp2
          repeat (go_quiet (fail); try go_wp2)
          go_ret
          exact ⟨by first | rfl | (simp; done) | (simp [*]; done), by repeat (first | exact Drawn0.refl _ | apply Drawn0.step)⟩
  · rw [if_neg c3] at H
    have c3b0 : ((l0.length : Int) == (l1.length : Int)) = false := beq_eq_false_iff_ne.mpr c3
    have c3b1 : ((l0.length : Int) != (l1.length : Int)) = true := bne_iff_ne.mpr c3
    have c3b2 : (l0.length == l1.length) = false := by first | simpa using c3 | (simp at c3 ⊢; omega)
    obtain rfl := Option.some.inj H
    go_enter Try.func21, Try.ntmps21
    go_wp2
    repeat (go_quiet (fail); try go_wp2)
    go_ret
    exact ⟨by first | rfl | (simp; done) | (simp [*]; done), by repeat (first | exact Drawn0.refl _ | apply Drawn0.step)⟩

end Go.Proofs.Ytbpolpagcaacoaa.P
