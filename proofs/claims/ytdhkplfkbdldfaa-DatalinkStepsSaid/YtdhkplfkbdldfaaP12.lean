-- By a program of this session (wip/tools/myprint.py over the kit's printer). Not trusted: Lean checks it.
import Derived.Test.YtdhkplfkbdldfaaP0
import Derived.Test.YtdhkplfkbdldfaaP2
import Derived.Test.YtdhkplfkbdldfaaP6
import Derived.Test.YtdhkplfkbdldfaaP7
import Derived.Test.YtdhkplfkbdldfaaP8
import Derived.Test.YtdhkplfkbdldfaaGDAligned
import Derived.Test.YtdhkplfkbdldfaaGDStep
import Derived.Test.YtdhkplfkbdldfaaGDValid
import Derived.Test.YtdhkplfkbdldfaaGRStep
namespace Go.Proofs.Ytdhkplfkbdldfaa.P
open Go.RowKit Go.Proofs.YtdhkplfkbdldfaaW.PrintWords Go.Proofs.YtdhkplfkbdldfaaW.PrintLast Go.Proofs.YtdhkplfkbdldfaaW.PrintMore
attribute [local go_sem] max2_int min2_int max_two min_two max_three min_three max_four min_four   -- for this text's walks alone
set_option linter.unusedVariables false
set_option linter.unusedSimpArgs false

/-! ### selfstablaw42_DatalinkSteps: function 6 -/
def selfstablaw42_DatalinkSteps.j0 : Nat → Bool → Int → Int → Int → Int → Int → List (S46) → List Int → Int → Int → Option (Bool)
  | 0, _, _, _, _, _, _, _, _, _, _ => none
  | k + 1, x20, x380000, x380001, x380002, x380003, x380004, x380005, x380006, x381000, x381001 => if x20 = true then ((selfstablaw42_known.f k).bind fun t381 => (some t381)) else ((datalink_Step.f x380000 x380001 x380002 x380003 x380004 x380005 x380006 x381000 x381001).bind fun bt382 => ((selfstabref42_Step.f k x380000 x380001 x380002 x380003 x380004 x380005 x380006 x381000 x381001).bind fun bt396 => ((selfstablaw42_known.f k).bind fun t410 => (if t410 = true then ((datalink_Valid.f x380000 x380001 x380002 x380003 x380004 x380005 x380006).bind fun t411 => ((selfstabref42_Valid.f k x380000 x380001 x380002 x380003 x380004 x380005 x380006).bind fun t412 => (if (t411 == t412) = true then ((datalink_Aligned.f x380000 x380001 x380002 x380003 x380004 x380005 x380006).bind fun t413 => ((selfstabref42_Aligned.f k x380000 x380001 x380002 x380003 x380004 x380005 x380006).bind fun t414 => (if (t413 == t414) = true then ((selfstabref42_Same.f k bt382.1 bt382.2.1 bt382.2.2.1 bt382.2.2.2.1 bt382.2.2.2.2.1 bt382.2.2.2.2.2.1 bt382.2.2.2.2.2.2.1 bt396.1 bt396.2.1 bt396.2.2.1 bt396.2.2.2.1 bt396.2.2.2.2.1 bt396.2.2.2.2.2.1 bt396.2.2.2.2.2.2.1).bind fun t415 => (if t415 = true then (if bt382.2.2.2.2.2.2.2.1 = bt396.2.2.2.2.2.2.2.1 then (some (bt382.2.2.2.2.2.2.2.2 == bt396.2.2.2.2.2.2.2.2)) else (none)) else (none))) else (none)))) else (none)))) else (none)))))
def selfstablaw42_DatalinkSteps.f (k : Nat) (a0_0 : Int) (a0_1 : Int) (a0_2 : Int) (a0_3 : Int) (a0_4 : Int) (l0_5 : List (S46)) (l0_6 : List Int) (a1_0 : Int) (a1_1 : Int) : Option (Bool) := if (l0_5.length : Int) > 40 then (selfstablaw42_DatalinkSteps.j0 k true a0_0 a0_1 a0_2 a0_3 a0_4 l0_5 l0_6 a1_0 a1_1) else (selfstablaw42_DatalinkSteps.j0 k (decide ((l0_6.length : Int) > 40)) a0_0 a0_1 a0_2 a0_3 a0_4 l0_5 l0_6 a1_0 a1_1)
theorem selfstablaw42_DatalinkSteps.mono_l : ∀ k, (∀ y0 y1 y2 y3 y4 y5 y6 y7 y8 y9, LeO (selfstablaw42_DatalinkSteps.j0 k y0 y1 y2 y3 y4 y5 y6 y7 y8 y9) (selfstablaw42_DatalinkSteps.j0 (k + 1) y0 y1 y2 y3 y4 y5 y6 y7 y8 y9))
  | 0 => fun _ _ _ _ _ _ _ _ _ _ r h => by simp [selfstablaw42_DatalinkSteps.j0] at h
  | k + 1 => by
    have ih0 := selfstablaw42_DatalinkSteps.mono_l k
    · intro y0 y1 y2 y3 y4 y5 y6 y7 y8 y9
      unfold selfstablaw42_DatalinkSteps.j0
      repeat' first
      | (with_reducible exact ih0 _ _ _ _ _ _ _ _ _ _)
      | (with_reducible exact selfstablaw42_known.mono _)
      | (with_reducible exact selfstabref42_Aligned.mono _ _ _ _ _ _ _ _)
      | (with_reducible exact selfstabref42_Same.mono _ _ _ _ _ _ _ _ _ _ _ _ _ _ _)
      | (with_reducible exact selfstabref42_Step.mono _ _ _ _ _ _ _ _ _ _)
      | (with_reducible exact selfstabref42_Valid.mono _ _ _ _ _ _ _ _)
      | (with_reducible exact LeO.refl _)
      | (with_reducible exact LeO.none _)
      | (with_reducible refine LeO.ite ?_ ?_)
      | (with_reducible refine LeO.bind ?_ (fun _ => ?_))
      | exact ih0 _ _ _ _ _ _ _ _ _ _
      | exact selfstablaw42_known.mono _
      | exact selfstabref42_Aligned.mono _ _ _ _ _ _ _ _
      | exact selfstabref42_Same.mono _ _ _ _ _ _ _ _ _ _ _ _ _ _ _
      | exact selfstabref42_Step.mono _ _ _ _ _ _ _ _ _ _
      | exact selfstabref42_Valid.mono _ _ _ _ _ _ _ _
      | exact LeO.none _
      | refine LeO.ite ?_ ?_
      | refine LeO.bind ?_ (fun _ => ?_)
theorem selfstablaw42_DatalinkSteps.mono : ∀ a0 a1 a2 a3 a4 a5 a6 a7 a8 k, LeO (selfstablaw42_DatalinkSteps.f k a0 a1 a2 a3 a4 a5 a6 a7 a8) (selfstablaw42_DatalinkSteps.f (k + 1) a0 a1 a2 a3 a4 a5 a6 a7 a8) := by
  intro a0 a1 a2 a3 a4 a5 a6 a7 a8 k
  have ih0 := selfstablaw42_DatalinkSteps.mono_l k
  unfold selfstablaw42_DatalinkSteps.f
  repeat' first
      | (with_reducible exact ih0 _ _ _ _ _ _ _ _ _ _)
      | (with_reducible exact selfstablaw42_known.mono _)
      | (with_reducible exact selfstabref42_Aligned.mono _ _ _ _ _ _ _ _)
      | (with_reducible exact selfstabref42_Same.mono _ _ _ _ _ _ _ _ _ _ _ _ _ _ _)
      | (with_reducible exact selfstabref42_Step.mono _ _ _ _ _ _ _ _ _ _)
      | (with_reducible exact selfstabref42_Valid.mono _ _ _ _ _ _ _ _)
      | (with_reducible exact LeO.refl _)
      | (with_reducible exact LeO.none _)
      | (with_reducible refine LeO.ite ?_ ?_)
      | (with_reducible refine LeO.bind ?_ (fun _ => ?_))
      | exact ih0 _ _ _ _ _ _ _ _ _ _
      | exact selfstablaw42_known.mono _
      | exact selfstabref42_Aligned.mono _ _ _ _ _ _ _ _
      | exact selfstabref42_Same.mono _ _ _ _ _ _ _ _ _ _ _ _ _ _ _
      | exact selfstabref42_Step.mono _ _ _ _ _ _ _ _ _ _
      | exact selfstabref42_Valid.mono _ _ _ _ _ _ _ _
      | exact LeO.none _
      | refine LeO.ite ?_ ?_
      | refine LeO.bind ?_ (fun _ => ?_)
def selfstablaw42_DatalinkSteps.T5 : Bool × List (List Nat × List Nat) := (true, [([], []), ([0, 0], [0]), ([1], [1]), ([2, 1, 1], [1, 2]), ([1], [1]), ([4, 3, 1], [1, 4]), ([3, 5, 1], [1, 3, 5]), ([1, 6], [1, 6]), ([7, 5], [7]), ([8], [8]), ([9, 8, 8], [8, 9]), ([8], [8]), ([11, 10, 8], [8, 11]), ([10, 12, 8], [8, 10, 12]), ([8, 13], [8, 13]), ([14, 12], [14]), ([15], [15]), ([15], [15]), ([16, 17, 15, 15], [15, 16, 17]), ([15, 18], [15, 18]), ([19, 18], [19]), ([20], [20]), ([20], [20]), ([21, 22, 20], [20, 21, 22]), ([20, 23], [20, 23]), ([24, 20], [24]), ([25], [25]), ([25], [25]), ([26, 27, 25], [25, 26, 27]), ([25, 28], [25, 28]), ([29, 25, 0, 1, 2, 3, 4, 5, 6, 7, 8, 9, 10, 11, 12, 13, 14, 15, 16, 17, 18, 19, 20, 21, 22, 23, 24, 25, 26, 27, 28, 29], [29])])
def selfstablaw42_DatalinkSteps.B5 : List Nat := [0, 1, 3, 7, 3, 31, 63, 127, 255, 511, 1023, 511, 4095, 8191, 16383, 32767, 65535, 65535, 262143, 524287, 1048575, 2097151, 2097151, 8388607, 16777215, 33554431, 67108863, 67108863, 268435455, 536870911, 1073741823]
theorem selfstablaw42_DatalinkSteps.tab5 : rtab .any (opsOf Try.f6 5) = selfstablaw42_DatalinkSteps.T5 := by kernel_rfl
theorem selfstablaw42_DatalinkSteps.bits5 : waitsOk selfstablaw42_DatalinkSteps.T5.2 selfstablaw42_DatalinkSteps.B5 = true := by kernel_rfl
set_option maxHeartbeats 8000000 in
set_option maxRecDepth 100000 in
theorem selfstablaw42_DatalinkSteps.calls (k : Nat) (a0_0 : Int) (a0_1 : Int) (a0_2 : Int) (a0_3 : Int) (a0_4 : Int) (A0_5 : Option Addr) (c0_5 : Nat) (l0_5 : List (S46)) (A0_6 : Option Addr) (c0_6 : Nat) (l0_6 : List Int) (a1_0 : Int) (a1_1 : Int) (r : Bool) (w : World) (hr0_5 : Kd.C k46 w A0_5 l0_5.length l0_5) (hc0_5 : l0_5.length ≤ c0_5) (hr0_6 : Kd.C (Kd.int .i64) w A0_6 l0_6.length l0_6) (hc0_6 : l0_6.length ≤ c0_6) (h : selfstablaw42_DatalinkSteps.f k a0_0 a0_1 a0_2 a0_3 a0_4 l0_5 l0_6 a1_0 a1_1 = some r) :
    Calls Try.prog 6 #[.agg #[.int .i64 a0_0, .int .i64 a0_1, .int .i64 a0_2, .int .i64 a0_3, .int .i64 a0_4, .slice A0_5 l0_5.length c0_5, .slice A0_6 l0_6.length c0_6], .agg #[.int .i64 a1_0, .int .i64 a1_1]] w fun e w' => e = .returned (.bool r) ∧ Below w.heap.size w w' := by
  have hu29 := Try.underlying29
  have hu40 := Try.underlying40
  have HR0_5 := Aside0.mk hr0_5
  have HC0_5 := Aside0.mk hc0_5
  clear hr0_5 hc0_5
  have HR0_6 := Aside0.mk hr0_6
  have HC0_6 := Aside0.mk hc0_6
  clear hr0_6 hc0_6
  have HB := Aside0.mk (Below.refl w.heap.size w)
  have H : (if (l0_5.length : Int) > 40 then (selfstablaw42_DatalinkSteps.j0 k true a0_0 a0_1 a0_2 a0_3 a0_4 l0_5 l0_6 a1_0 a1_1) else (selfstablaw42_DatalinkSteps.j0 k (decide ((l0_6.length : Int) > 40)) a0_0 a0_1 a0_2 a0_3 a0_4 l0_5 l0_6 a1_0 a1_1)) = some r := h
  clear h
  have HC3 := Aside0.mk H
  clear H
  go_enter Try.func6, Try.ntmps6
  go_upto_region 1 with (first | ((with_reducible refine gate_dst (N := 2) rfl ?_); (try (refine gate_guard (by rfl) ?_; dsimp only)); refine box_event ?hg (N := 2) ?hd (cs := #[.int .i64 a0_0, .int .i64 a0_1, .int .i64 a0_2, .int .i64 a0_3, .int .i64 a0_4, .slice A0_5 l0_5.length c0_5, .slice A0_6 l0_6.length c0_6]) (t := 29) ?hr ?_; (case hd => rfl); (case hg => rfl); (case hr => first | (go_simp; done) | (go_simp; rfl)); intro gb379 hg w4 hbox hb; have n0_ := Aside0.mk (below_step (by repeat (first | (with_reducible first | exact HB.out | apply below_alloc | apply pw_below_drewN | apply below_drew1) | exact HB.out)) hb); have n1_ := Aside0.mk (hbox); have n2_ := Aside0.mk ((by rw [hg]; exact (below_size (by repeat (first | (with_reducible first | exact HB.out | apply below_alloc | apply pw_below_drewN | apply below_drew1) | exact HB.out))) : w.heap.size ≤ gb379)); have n3_ := Aside0.mk ((by rw [hg]; exact (below_size (by repeat (first | (with_reducible first | exact HB.out | apply below_alloc | apply pw_below_drewN | apply below_drew1) | exact HB.out))) : w.heap.size ≤ gb379)); clear HB; have HB := n0_; have BK379 := n1_; have GW379 := n2_; have GE379 := n3_; clear n0_ n1_ n2_ n3_; clear hb hbox hg) | ((with_reducible refine gate_dst (N := 3) rfl ?_); (try (refine gate_guard (by rfl) ?_; dsimp only)); refine box_event ?hg (N := 3) ?hd (cs := #[.int .i64 a1_0, .int .i64 a1_1]) (t := 40) ?hr ?_; (case hd => rfl); (case hg => rfl); (case hr => first | (go_simp; done) | (go_simp; rfl)); intro gb380 hg w5 hbox hb; have n0_ := Aside0.mk (blk_below (g := gb379) (o := .cells #[.int .i64 a0_0, .int .i64 a0_1, .int .i64 a0_2, .int .i64 a0_3, .int .i64 a0_4, .slice A0_5 l0_5.length c0_5, .slice A0_6 l0_6.length c0_6] 29 (0, 0)) (by (with_reducible repeat (first | refine blk_drewN ?_ _ | refine blk_drew ?_ | refine blk_alloc ?_ _)); exact BK379.out) hb); have n1_ := Aside0.mk (below_step (by repeat (first | (with_reducible first | exact HB.out | apply below_alloc | apply pw_below_drewN | apply below_drew1 | refine below_set ?_ GE379.out) | exact HB.out)) hb); have n2_ := Aside0.mk (hbox); have n3_ := Aside0.mk ((by rw [hg]; exact (below_size (by repeat (first | (with_reducible first | exact HB.out | apply below_alloc | apply pw_below_drewN | apply below_drew1 | refine below_set ?_ GE379.out) | exact HB.out))) : w.heap.size ≤ gb380)); have n4_ := Aside0.mk ((by rw [hg]; exact (below_size (by repeat (first | (with_reducible first | exact HB.out | apply below_alloc | apply pw_below_drewN | apply below_drew1 | refine below_set ?_ GE379.out) | exact HB.out))) : w.heap.size ≤ gb380)); have n5_ := Aside0.mk ((by rw [hg]; exact Nat.ne_of_lt (blk_lt (g := gb379) (o := .cells #[.int .i64 a0_0, .int .i64 a0_1, .int .i64 a0_2, .int .i64 a0_3, .int .i64 a0_4, .slice A0_5 l0_5.length c0_5, .slice A0_6 l0_6.length c0_6] 29 (0, 0)) (by (with_reducible repeat (first | refine blk_drewN ?_ _ | refine blk_drew ?_ | refine blk_alloc ?_ _)); exact BK379.out)) : gb379 ≠ gb380)); have n6_ := Aside0.mk ((by rw [hg]; exact Nat.ne_of_gt (blk_lt (g := gb379) (o := .cells #[.int .i64 a0_0, .int .i64 a0_1, .int .i64 a0_2, .int .i64 a0_3, .int .i64 a0_4, .slice A0_5 l0_5.length c0_5, .slice A0_6 l0_6.length c0_6] 29 (0, 0)) (by (with_reducible repeat (first | refine blk_drewN ?_ _ | refine blk_drew ?_ | refine blk_alloc ?_ _)); exact BK379.out)) : gb380 ≠ gb379)); clear BK379; clear HB; have BK379 := n0_; have HB := n1_; have BK380 := n2_; have GW380 := n3_; have GE380 := n4_; have NB379_380 := n5_; have NB380_379 := n6_; clear n0_ n1_ n2_ n3_ n4_ n5_ n6_; clear hb hbox hg))
  (try simp only [Act.put, List.setIfInBounds_toArray, List.set_cons_zero, List.set_cons_succ])
  go_cut [20] (fun v20 wc => ∃ (kq : Nat) (x20_2 : Bool), v20 = .bool x20_2 ∧ Aside0 (selfstablaw42_DatalinkSteps.j0 kq x20_2 a0_0 a0_1 a0_2 a0_3 a0_4 l0_5 l0_6 a1_0 a1_1 = some r) ∧ Aside0 (kq ≤ k) ∧ Aside0 (wc.heap[gb379]? = some (.cells #[.int .i64 a0_0, .int .i64 a0_1, .int .i64 a0_2, .int .i64 a0_3, .int .i64 a0_4, (.slice A0_5 l0_5.length c0_5), (.slice A0_6 l0_6.length c0_6)] 29 (0, 0))) ∧ Aside0 (wc.heap[gb380]? = some (.cells #[.int .i64 a1_0, .int .i64 a1_1] 40 (0, 0))) ∧ Aside0 (Below w.heap.size w wc))
  case first =>
    have H := HC3.out
    clear HC3
    by_cases c6 : (l0_5.length : Int) > 40
    · rw [if_pos c6] at H
      have c6b0 : decide (40 < (l0_5.length : Int)) = true := decide_eq_true c6
      have c6b1 : decide (40 < l0_5.length) = true := decide_eq_true (by omega)
      clear c6
      (first | rw [c6b0] | (simp only [i64_w, i32_w]; rw [c6b0]) | skip)
      have H' := Aside0.mk H
      clear H
      have hnb7 := NB379_380.out
      have hnc7 := NB380_379.out
      have hcz8_0 : w5.cell? ⟨gb379, 0, none⟩ = some (.int .i64 a0_0) := (blk_cell BK379.out 0).trans rfl
      have hcz8_1 : w5.cell? ⟨gb379, 1, none⟩ = some (.int .i64 a0_1) := (blk_cell BK379.out 1).trans rfl
      have hcz8_2 : w5.cell? ⟨gb379, 2, none⟩ = some (.int .i64 a0_2) := (blk_cell BK379.out 2).trans rfl
      have hcz8_3 : w5.cell? ⟨gb379, 3, none⟩ = some (.int .i64 a0_3) := (blk_cell BK379.out 3).trans rfl
      have hcz8_4 : w5.cell? ⟨gb379, 4, none⟩ = some (.int .i64 a0_4) := (blk_cell BK379.out 4).trans rfl
      have hcz8_5 : w5.cell? ⟨gb379, 5, none⟩ = some (.slice A0_5 l0_5.length c0_5) := (blk_cell BK379.out 5).trans rfl
      have hcz8_6 : w5.cell? ⟨gb379, 6, none⟩ = some (.slice A0_6 l0_6.length c0_6) := (blk_cell BK379.out 6).trans rfl
      have hfz8_0 := blk_frozen BK379.out 0
      have hfz8_1 := blk_frozen BK379.out 1
      have hfz8_2 := blk_frozen BK379.out 2
      have hfz8_3 := blk_frozen BK379.out 3
      have hfz8_4 := blk_frozen BK379.out 4
      have hfz8_5 := blk_frozen BK379.out 5
      have hfz8_6 := blk_frozen BK379.out 6
      go_wp2
      go_meet
      case rel => exact ⟨_, (true), (by first | rfl | (simp; done) | (simp [*]; done)), H', ⟨by first | omega | exact Nat.le_refl _⟩, ⟨by (with_reducible repeat (first | refine blk_drewN ?_ _ | refine blk_drew ?_ | refine blk_alloc ?_ _)); exact BK379.out⟩, ⟨by (with_reducible repeat (first | refine blk_drewN ?_ _ | refine blk_drew ?_ | refine blk_alloc ?_ _)); exact BK380.out⟩, ⟨by repeat (first | (with_reducible first | exact HB.out | apply below_alloc | apply pw_below_drewN | apply below_drew1 | refine below_set ?_ GE379.out | refine below_set ?_ GE380.out) | exact HB.out)⟩⟩
    · rw [if_neg c6] at H
      have c6b0 : decide (40 < (l0_5.length : Int)) = false := decide_eq_false c6
      have c6b1 : decide (40 < l0_5.length) = false := decide_eq_false (by omega)
      clear c6
      (first | rw [c6b0] | (simp only [i64_w, i32_w]; rw [c6b0]) | skip)
      have H' := Aside0.mk H
      clear H
      have hnb9 := NB379_380.out
      have hnc9 := NB380_379.out
      have hcz10_0 : w5.cell? ⟨gb379, 0, none⟩ = some (.int .i64 a0_0) := (blk_cell BK379.out 0).trans rfl
      have hcz10_1 : w5.cell? ⟨gb379, 1, none⟩ = some (.int .i64 a0_1) := (blk_cell BK379.out 1).trans rfl
      have hcz10_2 : w5.cell? ⟨gb379, 2, none⟩ = some (.int .i64 a0_2) := (blk_cell BK379.out 2).trans rfl
      have hcz10_3 : w5.cell? ⟨gb379, 3, none⟩ = some (.int .i64 a0_3) := (blk_cell BK379.out 3).trans rfl
      have hcz10_4 : w5.cell? ⟨gb379, 4, none⟩ = some (.int .i64 a0_4) := (blk_cell BK379.out 4).trans rfl
      have hcz10_5 : w5.cell? ⟨gb379, 5, none⟩ = some (.slice A0_5 l0_5.length c0_5) := (blk_cell BK379.out 5).trans rfl
      have hcz10_6 : w5.cell? ⟨gb379, 6, none⟩ = some (.slice A0_6 l0_6.length c0_6) := (blk_cell BK379.out 6).trans rfl
      have hfz10_0 := blk_frozen BK379.out 0
      have hfz10_1 := blk_frozen BK379.out 1
      have hfz10_2 := blk_frozen BK379.out 2
      have hfz10_3 := blk_frozen BK379.out 3
      have hfz10_4 := blk_frozen BK379.out 4
      have hfz10_5 := blk_frozen BK379.out 5
      have hfz10_6 := blk_frozen BK379.out 6
      go_wp2
      go_meet
      case rel => exact ⟨_, (decide ((l0_6.length : Int) > 40)), (by first | rfl | (simp; done) | (simp [*]; done)), H', ⟨by first | omega | exact Nat.le_refl _⟩, ⟨by (with_reducible repeat (first | refine blk_drewN ?_ _ | refine blk_drew ?_ | refine blk_alloc ?_ _)); exact BK379.out⟩, ⟨by (with_reducible repeat (first | refine blk_drewN ?_ _ | refine blk_drew ?_ | refine blk_alloc ?_ _)); exact BK380.out⟩, ⟨by repeat (first | (with_reducible first | exact HB.out | apply below_alloc | apply pw_below_drewN | apply below_drew1 | refine below_set ?_ GE379.out | refine below_set ?_ GE380.out) | exact HB.out)⟩⟩
  case rest =>
    clear HC3
    try clear p2
    try clear c6
    try clear c6b0
    try clear c6b1
    try clear c7
    try clear c9
    try clear hcz10_0
    try clear hcz10_1
    try clear hcz10_2
    try clear hcz10_3
    try clear hcz10_4
    try clear hcz10_5
    try clear hcz10_6
    try clear hcz8_0
    try clear hcz8_1
    try clear hcz8_2
    try clear hcz8_3
    try clear hcz8_4
    try clear hcz8_5
    try clear hcz8_6
    try clear hfz10_0
    try clear hfz10_1
    try clear hfz10_2
    try clear hfz10_3
    try clear hfz10_4
    try clear hfz10_5
    try clear hfz10_6
    try clear hfz8_0
    try clear hfz8_1
    try clear hfz8_2
    try clear hfz8_3
    try clear hfz8_4
    try clear hfz8_5
    try clear hfz8_6
    obtain ⟨kq, x20_2, rfl, HA, HJ2, BK379, BK380, HB⟩ := hcut
    cases kq with
    | zero => exact absurd HA.out (by simp [selfstablaw42_DatalinkSteps.j0])
    | succ kj2 =>
      have H := HA.out
      clear HA
      simp only [selfstablaw42_DatalinkSteps.j0] at H
      by_cases c11 : x20_2 = true
      · subst c11
        have H1 : ((selfstablaw42_known.f kj2).bind fun t381 => (some t381)) = some r := by rw [if_pos rfl] at H; exact H
        clear H
        have H := H1
        clear H1
        replace H := Option.bind_eq_some_iff.mp H
        obtain ⟨t381, A120, H⟩ := H
        replace H : (some t381) = some r := H
        have A12 := Aside0.mk A120
        clear A120
        obtain rfl := Option.some.inj H
        go_wp2_with (first | ((with_reducible refine gate_callee (f := 9) rfl ?_); refine goesL_ (some 21) rfl rfl Try.func9 (by kernel_rfl) rfl #[] rfl (by (try simp only [List.map_toArray, List.map_cons, List.map_nil]); first | done | rfl | (simp only [List.length_drop, List.length_take]; rfl)) ?_; (with_reducible refine (selfstablaw42_known.calls kj2  t381 _ A12.out).mono ?_); rintro e w13 ⟨rfl, hb⟩; refine ⟨_, rfl, ?_⟩; have n0_ := Aside0.mk (blk_below (g := gb379) (o := .cells #[.int .i64 a0_0, .int .i64 a0_1, .int .i64 a0_2, .int .i64 a0_3, .int .i64 a0_4, .slice A0_5 l0_5.length c0_5, .slice A0_6 l0_6.length c0_6] 29 (0, 0)) (by (with_reducible repeat (first | refine blk_drewN ?_ _ | refine blk_drew ?_ | refine blk_alloc ?_ _)); exact BK379.out) hb); have n1_ := Aside0.mk (blk_below (g := gb380) (o := .cells #[.int .i64 a1_0, .int .i64 a1_1] 40 (0, 0)) (by (with_reducible repeat (first | refine blk_drewN ?_ _ | refine blk_drew ?_ | refine blk_alloc ?_ _)); exact BK380.out) hb); have n2_ := Aside0.mk (below_step (by repeat (first | (with_reducible first | exact HB.out | apply below_alloc | apply pw_below_drewN | apply below_drew1 | refine below_set ?_ GE379.out | refine below_set ?_ GE380.out) | exact HB.out)) hb); clear BK379; clear BK380; clear HB; have BK379 := n0_; have BK380 := n1_; have HB := n2_; clear n0_ n1_ n2_; (try clear hb); (try clear hb2); (try clear hk); (try clear hi)))
        go_ret
        exact ⟨by first | rfl | (simp [errW_none, errW_some] <;> rfl) | (simp [*, errW_none, errW_some] <;> rfl), by repeat (first | (with_reducible first | exact HB.out | apply below_alloc | apply pw_below_drewN | apply below_drew1 | refine below_set ?_ GE379.out | refine below_set ?_ GE380.out) | exact HB.out)⟩
      · replace c11 := Bool.eq_false_iff.mpr c11
        subst c11
        have H1 : ((datalink_Step.f a0_0 a0_1 a0_2 a0_3 a0_4 l0_5 l0_6 a1_0 a1_1).bind fun bt382 => ((selfstabref42_Step.f kj2 a0_0 a0_1 a0_2 a0_3 a0_4 l0_5 l0_6 a1_0 a1_1).bind fun bt396 => ((selfstablaw42_known.f kj2).bind fun t410 => (if t410 = true then ((datalink_Valid.f a0_0 a0_1 a0_2 a0_3 a0_4 l0_5 l0_6).bind fun t411 => ((selfstabref42_Valid.f kj2 a0_0 a0_1 a0_2 a0_3 a0_4 l0_5 l0_6).bind fun t412 => (if (t411 == t412) = true then ((datalink_Aligned.f a0_0 a0_1 a0_2 a0_3 a0_4 l0_5 l0_6).bind fun t413 => ((selfstabref42_Aligned.f kj2 a0_0 a0_1 a0_2 a0_3 a0_4 l0_5 l0_6).bind fun t414 => (if (t413 == t414) = true then ((selfstabref42_Same.f kj2 bt382.1 bt382.2.1 bt382.2.2.1 bt382.2.2.2.1 bt382.2.2.2.2.1 bt382.2.2.2.2.2.1 bt382.2.2.2.2.2.2.1 bt396.1 bt396.2.1 bt396.2.2.1 bt396.2.2.2.1 bt396.2.2.2.2.1 bt396.2.2.2.2.2.1 bt396.2.2.2.2.2.2.1).bind fun t415 => (if t415 = true then (if bt382.2.2.2.2.2.2.2.1 = bt396.2.2.2.2.2.2.2.1 then (some (bt382.2.2.2.2.2.2.2.2 == bt396.2.2.2.2.2.2.2.2)) else (none)) else (none))) else (none)))) else (none)))) else (none))))) = some r := by rw [if_neg (show ¬ (false = true) by decide)] at H; exact H
        clear H
        have H := H1
        clear H1
        replace H := Option.bind_eq_some_iff.mp H
        obtain ⟨⟨t382, t383, t384, t385, t386, t387, t390, t393, t394⟩, A140, H⟩ := H
        replace H : ((selfstabref42_Step.f kj2 a0_0 a0_1 a0_2 a0_3 a0_4 l0_5 l0_6 a1_0 a1_1).bind fun bt396 => ((selfstablaw42_known.f kj2).bind fun t410 => (if t410 = true then ((datalink_Valid.f a0_0 a0_1 a0_2 a0_3 a0_4 l0_5 l0_6).bind fun t411 => ((selfstabref42_Valid.f kj2 a0_0 a0_1 a0_2 a0_3 a0_4 l0_5 l0_6).bind fun t412 => (if (t411 == t412) = true then ((datalink_Aligned.f a0_0 a0_1 a0_2 a0_3 a0_4 l0_5 l0_6).bind fun t413 => ((selfstabref42_Aligned.f kj2 a0_0 a0_1 a0_2 a0_3 a0_4 l0_5 l0_6).bind fun t414 => (if (t413 == t414) = true then ((selfstabref42_Same.f kj2 t382 t383 t384 t385 t386 t387 t390 bt396.1 bt396.2.1 bt396.2.2.1 bt396.2.2.2.1 bt396.2.2.2.2.1 bt396.2.2.2.2.2.1 bt396.2.2.2.2.2.2.1).bind fun t415 => (if t415 = true then (if t393 = bt396.2.2.2.2.2.2.2.1 then (some (t394 == bt396.2.2.2.2.2.2.2.2)) else (none)) else (none))) else (none)))) else (none)))) else (none)))) = some r := H
        have A14 := Aside0.mk A140
        clear A140
        replace H := Option.bind_eq_some_iff.mp H
        obtain ⟨⟨t396, t397, t398, t399, t400, t401, t404, t407, t408⟩, A150, H⟩ := H
        replace H : ((selfstablaw42_known.f kj2).bind fun t410 => (if t410 = true then ((datalink_Valid.f a0_0 a0_1 a0_2 a0_3 a0_4 l0_5 l0_6).bind fun t411 => ((selfstabref42_Valid.f kj2 a0_0 a0_1 a0_2 a0_3 a0_4 l0_5 l0_6).bind fun t412 => (if (t411 == t412) = true then ((datalink_Aligned.f a0_0 a0_1 a0_2 a0_3 a0_4 l0_5 l0_6).bind fun t413 => ((selfstabref42_Aligned.f kj2 a0_0 a0_1 a0_2 a0_3 a0_4 l0_5 l0_6).bind fun t414 => (if (t413 == t414) = true then ((selfstabref42_Same.f kj2 t382 t383 t384 t385 t386 t387 t390 t396 t397 t398 t399 t400 t401 t404).bind fun t415 => (if t415 = true then (if t393 = t407 then (some (t394 == t408)) else (none)) else (none))) else (none)))) else (none)))) else (none))) = some r := H
        have A15 := Aside0.mk A150
        clear A150
        replace H := Option.bind_eq_some_iff.mp H
        obtain ⟨t410, A160, H⟩ := H
        replace H : (if t410 = true then ((datalink_Valid.f a0_0 a0_1 a0_2 a0_3 a0_4 l0_5 l0_6).bind fun t411 => ((selfstabref42_Valid.f kj2 a0_0 a0_1 a0_2 a0_3 a0_4 l0_5 l0_6).bind fun t412 => (if (t411 == t412) = true then ((datalink_Aligned.f a0_0 a0_1 a0_2 a0_3 a0_4 l0_5 l0_6).bind fun t413 => ((selfstabref42_Aligned.f kj2 a0_0 a0_1 a0_2 a0_3 a0_4 l0_5 l0_6).bind fun t414 => (if (t413 == t414) = true then ((selfstabref42_Same.f kj2 t382 t383 t384 t385 t386 t387 t390 t396 t397 t398 t399 t400 t401 t404).bind fun t415 => (if t415 = true then (if t393 = t407 then (some (t394 == t408)) else (none)) else (none))) else (none)))) else (none)))) else (none)) = some r := H
        have A16 := Aside0.mk A160
        clear A160
        by_cases c17 : t410 = true
        · subst c17
          have H1 : ((datalink_Valid.f a0_0 a0_1 a0_2 a0_3 a0_4 l0_5 l0_6).bind fun t411 => ((selfstabref42_Valid.f kj2 a0_0 a0_1 a0_2 a0_3 a0_4 l0_5 l0_6).bind fun t412 => (if (t411 == t412) = true then ((datalink_Aligned.f a0_0 a0_1 a0_2 a0_3 a0_4 l0_5 l0_6).bind fun t413 => ((selfstabref42_Aligned.f kj2 a0_0 a0_1 a0_2 a0_3 a0_4 l0_5 l0_6).bind fun t414 => (if (t413 == t414) = true then ((selfstabref42_Same.f kj2 t382 t383 t384 t385 t386 t387 t390 t396 t397 t398 t399 t400 t401 t404).bind fun t415 => (if t415 = true then (if t393 = t407 then (some (t394 == t408)) else (none)) else (none))) else (none)))) else (none)))) = some r := by rw [if_pos rfl] at H; exact H
          clear H
          have H := H1
          clear H1
          replace H := Option.bind_eq_some_iff.mp H
          obtain ⟨t411, A180, H⟩ := H
          replace H : ((selfstabref42_Valid.f kj2 a0_0 a0_1 a0_2 a0_3 a0_4 l0_5 l0_6).bind fun t412 => (if (t411 == t412) = true then ((datalink_Aligned.f a0_0 a0_1 a0_2 a0_3 a0_4 l0_5 l0_6).bind fun t413 => ((selfstabref42_Aligned.f kj2 a0_0 a0_1 a0_2 a0_3 a0_4 l0_5 l0_6).bind fun t414 => (if (t413 == t414) = true then ((selfstabref42_Same.f kj2 t382 t383 t384 t385 t386 t387 t390 t396 t397 t398 t399 t400 t401 t404).bind fun t415 => (if t415 = true then (if t393 = t407 then (some (t394 == t408)) else (none)) else (none))) else (none)))) else (none))) = some r := H
          have A18 := Aside0.mk A180
          clear A180
          replace H := Option.bind_eq_some_iff.mp H
          obtain ⟨t412, A190, H⟩ := H
          replace H : (if (t411 == t412) = true then ((datalink_Aligned.f a0_0 a0_1 a0_2 a0_3 a0_4 l0_5 l0_6).bind fun t413 => ((selfstabref42_Aligned.f kj2 a0_0 a0_1 a0_2 a0_3 a0_4 l0_5 l0_6).bind fun t414 => (if (t413 == t414) = true then ((selfstabref42_Same.f kj2 t382 t383 t384 t385 t386 t387 t390 t396 t397 t398 t399 t400 t401 t404).bind fun t415 => (if t415 = true then (if t393 = t407 then (some (t394 == t408)) else (none)) else (none))) else (none)))) else (none)) = some r := H
          have A19 := Aside0.mk A190
          clear A190
          by_cases c20 : (t411 == t412) = true
          · rw [if_pos c20] at H
            have c20b0 : (t411 == t412) = true := c20
            (try (have c20b1 : decide (t411 = t412) = true := by simpa using c20))
            (try (have c20b2 : (t411 == t412) = true := by simpa using c20))
            clear c20
            replace H := Option.bind_eq_some_iff.mp H
            obtain ⟨t413, A210, H⟩ := H
            replace H : ((selfstabref42_Aligned.f kj2 a0_0 a0_1 a0_2 a0_3 a0_4 l0_5 l0_6).bind fun t414 => (if (t413 == t414) = true then ((selfstabref42_Same.f kj2 t382 t383 t384 t385 t386 t387 t390 t396 t397 t398 t399 t400 t401 t404).bind fun t415 => (if t415 = true then (if t393 = t407 then (some (t394 == t408)) else (none)) else (none))) else (none))) = some r := H
            have A21 := Aside0.mk A210
            clear A210
            replace H := Option.bind_eq_some_iff.mp H
            obtain ⟨t414, A220, H⟩ := H
            replace H : (if (t413 == t414) = true then ((selfstabref42_Same.f kj2 t382 t383 t384 t385 t386 t387 t390 t396 t397 t398 t399 t400 t401 t404).bind fun t415 => (if t415 = true then (if t393 = t407 then (some (t394 == t408)) else (none)) else (none))) else (none)) = some r := H
            have A22 := Aside0.mk A220
            clear A220
            by_cases c23 : (t413 == t414) = true
            · rw [if_pos c23] at H
              have c23b0 : (t413 == t414) = true := c23
              (try (have c23b1 : decide (t413 = t414) = true := by simpa using c23))
              (try (have c23b2 : (t413 == t414) = true := by simpa using c23))
              clear c23
              replace H := Option.bind_eq_some_iff.mp H
              obtain ⟨t415, A240, H⟩ := H
              replace H : (if t415 = true then (if t393 = t407 then (some (t394 == t408)) else (none)) else (none)) = some r := H
              have A24 := Aside0.mk A240
              clear A240
              by_cases c25 : t415 = true
              · subst c25
                have H1 : (if t393 = t407 then (some (t394 == t408)) else (none)) = some r := by rw [if_pos rfl] at H; exact H
                clear H
                have H := H1
                clear H1
                by_cases c26 : t393 = t407
                · rw [if_pos c26] at H
                  have c26b0 : (t393 == t407) = true := beq_iff_eq.mpr c26
                  have c26b1 : (t393 != t407) = false := bne_eq_false_iff_eq.mpr c26
                  clear c26
                  obtain rfl := Option.some.inj H
                  have hnb27 := NB379_380.out
                  have hnc27 := NB380_379.out
                  have hcz28_0 : wc.cell? ⟨gb379, 0, none⟩ = some (.int .i64 a0_0) := (blk_cell BK379.out 0).trans rfl
                  have hcz28_1 : wc.cell? ⟨gb379, 1, none⟩ = some (.int .i64 a0_1) := (blk_cell BK379.out 1).trans rfl
                  have hcz28_2 : wc.cell? ⟨gb379, 2, none⟩ = some (.int .i64 a0_2) := (blk_cell BK379.out 2).trans rfl
                  have hcz28_3 : wc.cell? ⟨gb379, 3, none⟩ = some (.int .i64 a0_3) := (blk_cell BK379.out 3).trans rfl
                  have hcz28_4 : wc.cell? ⟨gb379, 4, none⟩ = some (.int .i64 a0_4) := (blk_cell BK379.out 4).trans rfl
                  have hcz28_5 : wc.cell? ⟨gb379, 5, none⟩ = some (.slice A0_5 l0_5.length c0_5) := (blk_cell BK379.out 5).trans rfl
                  have hcz28_6 : wc.cell? ⟨gb379, 6, none⟩ = some (.slice A0_6 l0_6.length c0_6) := (blk_cell BK379.out 6).trans rfl
                  have hfz28_0 := blk_frozen BK379.out 0
                  have hfz28_1 := blk_frozen BK379.out 1
                  have hfz28_2 := blk_frozen BK379.out 2
                  have hfz28_3 := blk_frozen BK379.out 3
                  have hfz28_4 := blk_frozen BK379.out 4
                  have hfz28_5 := blk_frozen BK379.out 5
                  have hfz28_6 := blk_frozen BK379.out 6
                  have hcz29_0 : wc.cell? ⟨gb380, 0, none⟩ = some (.int .i64 a1_0) := (blk_cell BK380.out 0).trans rfl
                  have hcz29_1 : wc.cell? ⟨gb380, 1, none⟩ = some (.int .i64 a1_1) := (blk_cell BK380.out 1).trans rfl
                  have hfz29_0 := blk_frozen BK380.out 0
                  have hfz29_1 := blk_frozen BK380.out 1
                  try go_wp2_with (first | ((with_reducible refine gate_callee (f := 18) rfl ?_); refine goesL_ (some 25) rfl rfl Try.func18 (by kernel_rfl) rfl #[.agg #[.int .i64 a0_0, .int .i64 a0_1, .int .i64 a0_2, .int .i64 a0_3, .int .i64 a0_4, .slice A0_5 l0_5.length c0_5, .slice A0_6 l0_6.length c0_6], .agg #[.int .i64 a1_0, .int .i64 a1_1]] rfl (by (try simp only [List.map_toArray, List.map_cons, List.map_nil]); first | done | rfl | (simp only [List.length_drop, List.length_take]; rfl)) ?_; (with_reducible refine (datalink_Step.calls a0_0 a0_1 a0_2 a0_3 a0_4 _ _ l0_5 _ _ l0_6 a1_0 a1_1 t382 t383 t384 t385 t386 t387 t390 t393 t394 _ ?side1 ?side2 ?side3 ?side4 A14.out).mono ?_); (case side1 => repeat (first | exact (Kd.C_below HR0_5.out HB.out) | (with_reducible refine Kd.C_alloc ?_ _) | (with_reducible refine Kd.C_drewN ?_ _) | (with_reducible refine Kd.C_drew ?_))); (case side2 => exact HC0_5.out); (case side3 => repeat (first | exact (Kd.C_below HR0_6.out HB.out) | (with_reducible refine Kd.C_alloc ?_ _) | (with_reducible refine Kd.C_drewN ?_ _) | (with_reducible refine Kd.C_drew ?_))); (case side4 => exact HC0_6.out); rintro e w30 ⟨v388, v391, rfl, ho0, ho1, hb⟩; refine ⟨_, rfl, ?_⟩; have n0_ := Aside0.mk (Kd.R_lower ho0 (below_size (by repeat (first | (with_reducible first | exact HB.out | apply below_alloc | apply pw_below_drewN | apply below_drew1 | refine below_set ?_ GE379.out | refine below_set ?_ GE380.out) | exact HB.out)))); have n1_ := Aside0.mk (Kd.R_lower ho1 (below_size (by repeat (first | (with_reducible first | exact HB.out | apply below_alloc | apply pw_below_drewN | apply below_drew1 | refine below_set ?_ GE379.out | refine below_set ?_ GE380.out) | exact HB.out)))); have n2_ := Aside0.mk (blk_below (g := gb379) (o := .cells #[.int .i64 a0_0, .int .i64 a0_1, .int .i64 a0_2, .int .i64 a0_3, .int .i64 a0_4, .slice A0_5 l0_5.length c0_5, .slice A0_6 l0_6.length c0_6] 29 (0, 0)) (by (with_reducible repeat (first | refine blk_drewN ?_ _ | refine blk_drew ?_ | refine blk_alloc ?_ _)); exact BK379.out) hb); have n3_ := Aside0.mk (blk_below (g := gb380) (o := .cells #[.int .i64 a1_0, .int .i64 a1_1] 40 (0, 0)) (by (with_reducible repeat (first | refine blk_drewN ?_ _ | refine blk_drew ?_ | refine blk_alloc ?_ _)); exact BK380.out) hb); have n4_ := Aside0.mk (below_step (by repeat (first | (with_reducible first | exact HB.out | apply below_alloc | apply pw_below_drewN | apply below_drew1 | refine below_set ?_ GE379.out | refine below_set ?_ GE380.out) | exact HB.out)) hb); clear BK379; clear BK380; clear HB; have HO389 := n0_; have HO392 := n1_; have BK379 := n2_; have BK380 := n3_; have HB := n4_; clear n0_ n1_ n2_ n3_ n4_; (try clear hb); (try clear hb2); (try clear hk); (try clear hi); (try clear ho0); (try clear ho1)) | ((with_reducible refine gate_dst (N := 5) rfl ?_); (try (refine gate_guard (by rfl) ?_; dsimp only)); refine box_event ?hg (N := 5) ?hd (cs := #[.int .i64 0, .int .i64 0, .int .i64 0, .int .i64 0, .int .i64 0, .slice none 0 0, .slice none 0 0]) (t := 29) ?hr ?_; (case hd => rfl); (case hg => rfl); (case hr => first | (go_simp; done) | (go_simp; rfl)); intro gb395 hg w31 hbox hb; have n0_ := Aside0.mk (Kd.R_below (by (with_reducible repeat (first | apply Kd.R_alloc | apply Kd.R_drewN | apply Kd.R_drew)); exact HO389.out) hb); have n1_ := Aside0.mk (Kd.R_below (by (with_reducible repeat (first | apply Kd.R_alloc | apply Kd.R_drewN | apply Kd.R_drew)); exact HO392.out) hb); have n2_ := Aside0.mk (blk_below (g := gb379) (o := .cells #[.int .i64 a0_0, .int .i64 a0_1, .int .i64 a0_2, .int .i64 a0_3, .int .i64 a0_4, .slice A0_5 l0_5.length c0_5, .slice A0_6 l0_6.length c0_6] 29 (0, 0)) (by (with_reducible repeat (first | refine blk_drewN ?_ _ | refine blk_drew ?_ | refine blk_alloc ?_ _)); exact BK379.out) hb); have n3_ := Aside0.mk (blk_below (g := gb380) (o := .cells #[.int .i64 a1_0, .int .i64 a1_1] 40 (0, 0)) (by (with_reducible repeat (first | refine blk_drewN ?_ _ | refine blk_drew ?_ | refine blk_alloc ?_ _)); exact BK380.out) hb); have n4_ := Aside0.mk (below_step (by repeat (first | (with_reducible first | exact HB.out | apply below_alloc | apply pw_below_drewN | apply below_drew1 | refine below_set ?_ GE379.out | refine below_set ?_ GE380.out) | exact HB.out)) hb); have n5_ := Aside0.mk (hbox); have n6_ := Aside0.mk ((by rw [hg]; exact (below_size (by repeat (first | (with_reducible first | exact HB.out | apply below_alloc | apply pw_below_drewN | apply below_drew1 | refine below_set ?_ GE379.out | refine below_set ?_ GE380.out) | exact HB.out))) : w.heap.size ≤ gb395)); have n7_ := Aside0.mk ((by rw [hg]; exact (below_size (by repeat (first | (with_reducible first | exact HB.out | apply below_alloc | apply pw_below_drewN | apply below_drew1 | refine below_set ?_ GE379.out | refine below_set ?_ GE380.out) | exact HB.out))) : w.heap.size ≤ gb395)); have n8_ := Aside0.mk ((by rw [hg]; exact Nat.ne_of_lt (blk_lt (g := gb379) (o := .cells #[.int .i64 a0_0, .int .i64 a0_1, .int .i64 a0_2, .int .i64 a0_3, .int .i64 a0_4, .slice A0_5 l0_5.length c0_5, .slice A0_6 l0_6.length c0_6] 29 (0, 0)) (by (with_reducible repeat (first | refine blk_drewN ?_ _ | refine blk_drew ?_ | refine blk_alloc ?_ _)); exact BK379.out)) : gb379 ≠ gb395)); have n9_ := Aside0.mk ((by rw [hg]; exact Nat.ne_of_gt (blk_lt (g := gb379) (o := .cells #[.int .i64 a0_0, .int .i64 a0_1, .int .i64 a0_2, .int .i64 a0_3, .int .i64 a0_4, .slice A0_5 l0_5.length c0_5, .slice A0_6 l0_6.length c0_6] 29 (0, 0)) (by (with_reducible repeat (first | refine blk_drewN ?_ _ | refine blk_drew ?_ | refine blk_alloc ?_ _)); exact BK379.out)) : gb395 ≠ gb379)); have n10_ := Aside0.mk ((by rw [hg]; exact Nat.ne_of_lt (blk_lt (g := gb380) (o := .cells #[.int .i64 a1_0, .int .i64 a1_1] 40 (0, 0)) (by (with_reducible repeat (first | refine blk_drewN ?_ _ | refine blk_drew ?_ | refine blk_alloc ?_ _)); exact BK380.out)) : gb380 ≠ gb395)); have n11_ := Aside0.mk ((by rw [hg]; exact Nat.ne_of_gt (blk_lt (g := gb380) (o := .cells #[.int .i64 a1_0, .int .i64 a1_1] 40 (0, 0)) (by (with_reducible repeat (first | refine blk_drewN ?_ _ | refine blk_drew ?_ | refine blk_alloc ?_ _)); exact BK380.out)) : gb395 ≠ gb380)); clear HO389; clear HO392; clear BK379; clear BK380; clear HB; have HO389 := n0_; have HO392 := n1_; have BK379 := n2_; have BK380 := n3_; have HB := n4_; have BK395 := n5_; have GW395 := n6_; have GE395 := n7_; have NB379_395 := n8_; have NB395_379 := n9_; have NB380_395 := n10_; have NB395_380 := n11_; clear n0_ n1_ n2_ n3_ n4_ n5_ n6_ n7_ n8_ n9_ n10_ n11_; clear hb hbox hg; have hnb32 := NB395_379.out; have hnc32 := NB379_395.out; have hnb33 := NB395_380.out; have hnc33 := NB380_395.out; have hcz34_0 : w31.cell? ⟨gb395, 0, none⟩ = some (.int .i64 0) := (blk_cell BK395.out 0).trans rfl; have hcz34_1 : w31.cell? ⟨gb395, 1, none⟩ = some (.int .i64 0) := (blk_cell BK395.out 1).trans rfl; have hcz34_2 : w31.cell? ⟨gb395, 2, none⟩ = some (.int .i64 0) := (blk_cell BK395.out 2).trans rfl; have hcz34_3 : w31.cell? ⟨gb395, 3, none⟩ = some (.int .i64 0) := (blk_cell BK395.out 3).trans rfl; have hcz34_4 : w31.cell? ⟨gb395, 4, none⟩ = some (.int .i64 0) := (blk_cell BK395.out 4).trans rfl; have hcz34_5 : w31.cell? ⟨gb395, 5, none⟩ = some (.slice none 0 0) := (blk_cell BK395.out 5).trans rfl; have hcz34_6 : w31.cell? ⟨gb395, 6, none⟩ = some (.slice none 0 0) := (blk_cell BK395.out 6).trans rfl; have hfz34_0 := blk_frozen BK395.out 0; have hfz34_1 := blk_frozen BK395.out 1; have hfz34_2 := blk_frozen BK395.out 2; have hfz34_3 := blk_frozen BK395.out 3; have hfz34_4 := blk_frozen BK395.out 4; have hfz34_5 := blk_frozen BK395.out 5; have hfz34_6 := blk_frozen BK395.out 6; obtain ⟨Ao35, co35, eo35⟩ := Kd.R_slice HO389.out; subst eo35; obtain ⟨Ao36, co36, eo36⟩ := Kd.R_slice HO392.out; subst eo36; have hcz37_0 : w31.cell? ⟨gb379, 0, none⟩ = some (.int .i64 a0_0) := (blk_cell BK379.out 0).trans rfl; have hcz37_1 : w31.cell? ⟨gb379, 1, none⟩ = some (.int .i64 a0_1) := (blk_cell BK379.out 1).trans rfl; have hcz37_2 : w31.cell? ⟨gb379, 2, none⟩ = some (.int .i64 a0_2) := (blk_cell BK379.out 2).trans rfl; have hcz37_3 : w31.cell? ⟨gb379, 3, none⟩ = some (.int .i64 a0_3) := (blk_cell BK379.out 3).trans rfl; have hcz37_4 : w31.cell? ⟨gb379, 4, none⟩ = some (.int .i64 a0_4) := (blk_cell BK379.out 4).trans rfl; have hcz37_5 : w31.cell? ⟨gb379, 5, none⟩ = some (.slice A0_5 l0_5.length c0_5) := (blk_cell BK379.out 5).trans rfl; have hcz37_6 : w31.cell? ⟨gb379, 6, none⟩ = some (.slice A0_6 l0_6.length c0_6) := (blk_cell BK379.out 6).trans rfl; have hfz37_0 := blk_frozen BK379.out 0; have hfz37_1 := blk_frozen BK379.out 1; have hfz37_2 := blk_frozen BK379.out 2; have hfz37_3 := blk_frozen BK379.out 3; have hfz37_4 := blk_frozen BK379.out 4; have hfz37_5 := blk_frozen BK379.out 5; have hfz37_6 := blk_frozen BK379.out 6; have hcz38_0 : w31.cell? ⟨gb380, 0, none⟩ = some (.int .i64 a1_0) := (blk_cell BK380.out 0).trans rfl; have hcz38_1 : w31.cell? ⟨gb380, 1, none⟩ = some (.int .i64 a1_1) := (blk_cell BK380.out 1).trans rfl; have hfz38_0 := blk_frozen BK380.out 0; have hfz38_1 := blk_frozen BK380.out 1) | ((with_reducible refine gate_callee (f := 19) rfl ?_); refine goesL_ (some 32) rfl rfl Try.func19 (by kernel_rfl) rfl #[.agg #[.int .i64 a0_0, .int .i64 a0_1, .int .i64 a0_2, .int .i64 a0_3, .int .i64 a0_4, .slice A0_5 l0_5.length c0_5, .slice A0_6 l0_6.length c0_6], .agg #[.int .i64 a1_0, .int .i64 a1_1]] rfl (by (try simp only [List.map_toArray, List.map_cons, List.map_nil]); first | done | rfl | (simp only [List.length_drop, List.length_take]; rfl)) ?_; (with_reducible refine (selfstabref42_Step.calls kj2 a0_0 a0_1 a0_2 a0_3 a0_4 _ _ l0_5 _ _ l0_6 a1_0 a1_1 t396 t397 t398 t399 t400 t401 t404 t407 t408 _ ?side1 ?side2 ?side3 ?side4 A15.out).mono ?_); (case side1 => exact Kd.C_below HR0_5.out (by repeat (first | (with_reducible first | exact HB.out | apply below_alloc | apply pw_below_drewN | apply below_drew1 | refine below_set ?_ GE379.out | refine below_set ?_ GE380.out | refine below_set ?_ GE395.out) | exact HB.out))); (case side2 => exact HC0_5.out); (case side3 => exact Kd.C_below HR0_6.out (by repeat (first | (with_reducible first | exact HB.out | apply below_alloc | apply pw_below_drewN | apply below_drew1 | refine below_set ?_ GE379.out | refine below_set ?_ GE380.out | refine below_set ?_ GE395.out) | exact HB.out))); (case side4 => exact HC0_6.out); rintro e w39 ⟨v402, v405, rfl, ho0, ho1, hb⟩; refine ⟨_, rfl, ?_⟩; have n0_ := Aside0.mk (Kd.R_elder' (by (with_reducible repeat (first | apply Kd.R_alloc | apply Kd.R_drewN | apply Kd.R_drew)); exact (Kd.R_mono (Kd.R_far (p := ⟨gb395, 6, none⟩) (Kd.R_far (p := ⟨gb395, 5, none⟩) (Kd.R_far (p := ⟨gb395, 4, none⟩) (Kd.R_far (p := ⟨gb395, 3, none⟩) (Kd.R_far (p := ⟨gb395, 2, none⟩) (Kd.R_far (p := ⟨gb395, 1, none⟩) (Kd.R_far (p := ⟨gb395, 0, none⟩) (Kd.R_types HO389.out BK395.out (by decide)) (fun _ hk => hk.2) (.int .i64 t382)) (fun _ hk => hk.2) (.int .i64 t383)) (fun _ hk => hk.2) (.int .i64 t384)) (fun _ hk => hk.2) (.int .i64 t385)) (fun _ hk => hk.2) (.int .i64 t386)) (fun _ hk => hk.2) (.slice Ao35 t387.length co35)) (fun _ hk => hk.2) (.slice Ao36 t390.length co36)) (fun _ h_ => h_.1))) (Kd.Q_base ho0) hb); have n1_ := Aside0.mk (Kd.R_elder' (by (with_reducible repeat (first | apply Kd.R_alloc | apply Kd.R_drewN | apply Kd.R_drew)); exact (Kd.R_mono (Kd.R_far (p := ⟨gb395, 6, none⟩) (Kd.R_far (p := ⟨gb395, 5, none⟩) (Kd.R_far (p := ⟨gb395, 4, none⟩) (Kd.R_far (p := ⟨gb395, 3, none⟩) (Kd.R_far (p := ⟨gb395, 2, none⟩) (Kd.R_far (p := ⟨gb395, 1, none⟩) (Kd.R_far (p := ⟨gb395, 0, none⟩) (Kd.R_types HO392.out BK395.out (by decide)) (fun _ hk => hk.2) (.int .i64 t382)) (fun _ hk => hk.2) (.int .i64 t383)) (fun _ hk => hk.2) (.int .i64 t384)) (fun _ hk => hk.2) (.int .i64 t385)) (fun _ hk => hk.2) (.int .i64 t386)) (fun _ hk => hk.2) (.slice Ao35 t387.length co35)) (fun _ hk => hk.2) (.slice Ao36 t390.length co36)) (fun _ h_ => h_.1))) (Kd.Q_base ho1) hb); have n2_ := Aside0.mk (Kd.Q_lower (Kd.Q_new' ho0 (Kd.R_lt (by (with_reducible repeat (first | apply Kd.R_alloc | apply Kd.R_drewN | apply Kd.R_drew)); exact (Kd.R_mono (Kd.R_far (p := ⟨gb395, 6, none⟩) (Kd.R_far (p := ⟨gb395, 5, none⟩) (Kd.R_far (p := ⟨gb395, 4, none⟩) (Kd.R_far (p := ⟨gb395, 3, none⟩) (Kd.R_far (p := ⟨gb395, 2, none⟩) (Kd.R_far (p := ⟨gb395, 1, none⟩) (Kd.R_far (p := ⟨gb395, 0, none⟩) (Kd.R_types HO389.out BK395.out (by decide)) (fun _ hk => hk.2) (.int .i64 t382)) (fun _ hk => hk.2) (.int .i64 t383)) (fun _ hk => hk.2) (.int .i64 t384)) (fun _ hk => hk.2) (.int .i64 t385)) (fun _ hk => hk.2) (.int .i64 t386)) (fun _ hk => hk.2) (.slice Ao35 t387.length co35)) (fun _ hk => hk.2) (.slice Ao36 t390.length co36)) (fun _ h_ => h_.1))))) (below_size (by repeat (first | (with_reducible first | exact HB.out | apply below_alloc | apply pw_below_drewN | apply below_drew1 | refine below_set ?_ GE379.out | refine below_set ?_ GE380.out | refine below_set ?_ GE395.out) | exact HB.out)))); have n3_ := Aside0.mk (Kd.Q_lower (Kd.Q_new' ho1 (Kd.R_lt (by (with_reducible repeat (first | apply Kd.R_alloc | apply Kd.R_drewN | apply Kd.R_drew)); exact (Kd.R_mono (Kd.R_far (p := ⟨gb395, 6, none⟩) (Kd.R_far (p := ⟨gb395, 5, none⟩) (Kd.R_far (p := ⟨gb395, 4, none⟩) (Kd.R_far (p := ⟨gb395, 3, none⟩) (Kd.R_far (p := ⟨gb395, 2, none⟩) (Kd.R_far (p := ⟨gb395, 1, none⟩) (Kd.R_far (p := ⟨gb395, 0, none⟩) (Kd.R_types HO392.out BK395.out (by decide)) (fun _ hk => hk.2) (.int .i64 t382)) (fun _ hk => hk.2) (.int .i64 t383)) (fun _ hk => hk.2) (.int .i64 t384)) (fun _ hk => hk.2) (.int .i64 t385)) (fun _ hk => hk.2) (.int .i64 t386)) (fun _ hk => hk.2) (.slice Ao35 t387.length co35)) (fun _ hk => hk.2) (.slice Ao36 t390.length co36)) (fun _ h_ => h_.1))))) (below_size (by repeat (first | (with_reducible first | exact HB.out | apply below_alloc | apply pw_below_drewN | apply below_drew1 | refine below_set ?_ GE379.out | refine below_set ?_ GE380.out | refine below_set ?_ GE395.out) | exact HB.out)))); have n4_ := Aside0.mk (blk_below (g := gb379) (o := .cells #[.int .i64 a0_0, .int .i64 a0_1, .int .i64 a0_2, .int .i64 a0_3, .int .i64 a0_4, .slice A0_5 l0_5.length c0_5, .slice A0_6 l0_6.length c0_6] 29 (0, 0)) (by (with_reducible repeat (first | refine blk_drewN ?_ _ | refine blk_drew ?_ | refine blk_alloc ?_ _)); refine blk_far ?_ NB379_395.out _; (with_reducible repeat (first | refine blk_drewN ?_ _ | refine blk_drew ?_ | refine blk_alloc ?_ _)); refine blk_far ?_ NB379_395.out _; (with_reducible repeat (first | refine blk_drewN ?_ _ | refine blk_drew ?_ | refine blk_alloc ?_ _)); refine blk_far ?_ NB379_395.out _; (with_reducible repeat (first | refine blk_drewN ?_ _ | refine blk_drew ?_ | refine blk_alloc ?_ _)); refine blk_far ?_ NB379_395.out _; (with_reducible repeat (first | refine blk_drewN ?_ _ | refine blk_drew ?_ | refine blk_alloc ?_ _)); refine blk_far ?_ NB379_395.out _; (with_reducible repeat (first | refine blk_drewN ?_ _ | refine blk_drew ?_ | refine blk_alloc ?_ _)); refine blk_far ?_ NB379_395.out _; (with_reducible repeat (first | refine blk_drewN ?_ _ | refine blk_drew ?_ | refine blk_alloc ?_ _)); refine blk_far ?_ NB379_395.out _; (with_reducible repeat (first | refine blk_drewN ?_ _ | refine blk_drew ?_ | refine blk_alloc ?_ _)); exact BK379.out) hb); have n5_ := Aside0.mk (blk_below (g := gb380) (o := .cells #[.int .i64 a1_0, .int .i64 a1_1] 40 (0, 0)) (by (with_reducible repeat (first | refine blk_drewN ?_ _ | refine blk_drew ?_ | refine blk_alloc ?_ _)); refine blk_far ?_ NB380_395.out _; (with_reducible repeat (first | refine blk_drewN ?_ _ | refine blk_drew ?_ | refine blk_alloc ?_ _)); refine blk_far ?_ NB380_395.out _; (with_reducible repeat (first | refine blk_drewN ?_ _ | refine blk_drew ?_ | refine blk_alloc ?_ _)); refine blk_far ?_ NB380_395.out _; (with_reducible repeat (first | refine blk_drewN ?_ _ | refine blk_drew ?_ | refine blk_alloc ?_ _)); refine blk_far ?_ NB380_395.out _; (with_reducible repeat (first | refine blk_drewN ?_ _ | refine blk_drew ?_ | refine blk_alloc ?_ _)); refine blk_far ?_ NB380_395.out _; (with_reducible repeat (first | refine blk_drewN ?_ _ | refine blk_drew ?_ | refine blk_alloc ?_ _)); refine blk_far ?_ NB380_395.out _; (with_reducible repeat (first | refine blk_drewN ?_ _ | refine blk_drew ?_ | refine blk_alloc ?_ _)); refine blk_far ?_ NB380_395.out _; (with_reducible repeat (first | refine blk_drewN ?_ _ | refine blk_drew ?_ | refine blk_alloc ?_ _)); exact BK380.out) hb); have n6_ := Aside0.mk (blk_below (g := gb395) (o := .cells #[.int .i64 t382, .int .i64 t383, .int .i64 t384, .int .i64 t385, .int .i64 t386, .slice Ao35 t387.length co35, .slice Ao36 t390.length co36] 29 (0, 0)) (by (with_reducible repeat (first | refine blk_drewN ?_ _ | refine blk_drew ?_ | refine blk_alloc ?_ _)); refine blk_put (cs := #[.int .i64 t382, .int .i64 t383, .int .i64 t384, .int .i64 t385, .int .i64 t386, .slice Ao35 t387.length co35, .slice none 0 0]) ?_ 6 _ rfl; (with_reducible repeat (first | refine blk_drewN ?_ _ | refine blk_drew ?_ | refine blk_alloc ?_ _)); refine blk_put (cs := #[.int .i64 t382, .int .i64 t383, .int .i64 t384, .int .i64 t385, .int .i64 t386, .slice none 0 0, .slice none 0 0]) ?_ 5 _ rfl; (with_reducible repeat (first | refine blk_drewN ?_ _ | refine blk_drew ?_ | refine blk_alloc ?_ _)); refine blk_put (cs := #[.int .i64 t382, .int .i64 t383, .int .i64 t384, .int .i64 t385, .int .i64 0, .slice none 0 0, .slice none 0 0]) ?_ 4 _ rfl; (with_reducible repeat (first | refine blk_drewN ?_ _ | refine blk_drew ?_ | refine blk_alloc ?_ _)); refine blk_put (cs := #[.int .i64 t382, .int .i64 t383, .int .i64 t384, .int .i64 0, .int .i64 0, .slice none 0 0, .slice none 0 0]) ?_ 3 _ rfl; (with_reducible repeat (first | refine blk_drewN ?_ _ | refine blk_drew ?_ | refine blk_alloc ?_ _)); refine blk_put (cs := #[.int .i64 t382, .int .i64 t383, .int .i64 0, .int .i64 0, .int .i64 0, .slice none 0 0, .slice none 0 0]) ?_ 2 _ rfl; (with_reducible repeat (first | refine blk_drewN ?_ _ | refine blk_drew ?_ | refine blk_alloc ?_ _)); refine blk_put (cs := #[.int .i64 t382, .int .i64 0, .int .i64 0, .int .i64 0, .int .i64 0, .slice none 0 0, .slice none 0 0]) ?_ 1 _ rfl; (with_reducible repeat (first | refine blk_drewN ?_ _ | refine blk_drew ?_ | refine blk_alloc ?_ _)); refine blk_put (cs := #[.int .i64 0, .int .i64 0, .int .i64 0, .int .i64 0, .int .i64 0, .slice none 0 0, .slice none 0 0]) ?_ 0 _ rfl; (with_reducible repeat (first | refine blk_drewN ?_ _ | refine blk_drew ?_ | refine blk_alloc ?_ _)); exact BK395.out) hb); have n7_ := Aside0.mk (below_step (by repeat (first | (with_reducible first | exact HB.out | apply below_alloc | apply pw_below_drewN | apply below_drew1 | refine below_set ?_ GE379.out | refine below_set ?_ GE380.out | refine below_set ?_ GE395.out) | exact HB.out)) hb); clear HO389; clear HO392; clear BK379; clear BK380; clear BK395; clear HB; have HO389 := n0_; have HO392 := n1_; have HO403 := n2_; have HO406 := n3_; have BK379 := n4_; have BK380 := n5_; have BK395 := n6_; have HB := n7_; clear n0_ n1_ n2_ n3_ n4_ n5_ n6_ n7_; (try clear hb); (try clear hb2); (try clear hk); (try clear hi); (try clear ho0); (try clear ho1)) | ((with_reducible refine gate_dst (N := 8) rfl ?_); (try (refine gate_guard (by rfl) ?_; dsimp only)); refine box_event ?hg (N := 8) ?hd (cs := #[.int .i64 0, .int .i64 0, .int .i64 0, .int .i64 0, .int .i64 0, .slice none 0 0, .slice none 0 0]) (t := 29) ?hr ?_; (case hd => rfl); (case hg => rfl); (case hr => first | (go_simp; done) | (go_simp; rfl)); intro gb409 hg w40 hbox hb; have n0_ := Aside0.mk (Kd.R_below (by (with_reducible repeat (first | apply Kd.R_alloc | apply Kd.R_drewN | apply Kd.R_drew)); exact HO389.out) hb); have n1_ := Aside0.mk (Kd.R_below (by (with_reducible repeat (first | apply Kd.R_alloc | apply Kd.R_drewN | apply Kd.R_drew)); exact HO392.out) hb); have n2_ := Aside0.mk (Kd.Q_below (by (with_reducible repeat (first | apply Kd.Q_alloc | apply Kd.Q_drewN | apply Kd.Q_drew)); exact HO403.out) hb); have n3_ := Aside0.mk (Kd.Q_below (by (with_reducible repeat (first | apply Kd.Q_alloc | apply Kd.Q_drewN | apply Kd.Q_drew)); exact HO406.out) hb); have n4_ := Aside0.mk (blk_below (g := gb379) (o := .cells #[.int .i64 a0_0, .int .i64 a0_1, .int .i64 a0_2, .int .i64 a0_3, .int .i64 a0_4, .slice A0_5 l0_5.length c0_5, .slice A0_6 l0_6.length c0_6] 29 (0, 0)) (by (with_reducible repeat (first | refine blk_drewN ?_ _ | refine blk_drew ?_ | refine blk_alloc ?_ _)); exact BK379.out) hb); have n5_ := Aside0.mk (blk_below (g := gb380) (o := .cells #[.int .i64 a1_0, .int .i64 a1_1] 40 (0, 0)) (by (with_reducible repeat (first | refine blk_drewN ?_ _ | refine blk_drew ?_ | refine blk_alloc ?_ _)); exact BK380.out) hb); have n6_ := Aside0.mk (blk_below (g := gb395) (o := .cells #[.int .i64 t382, .int .i64 t383, .int .i64 t384, .int .i64 t385, .int .i64 t386, .slice Ao35 t387.length co35, .slice Ao36 t390.length co36] 29 (0, 0)) (by (with_reducible repeat (first | refine blk_drewN ?_ _ | refine blk_drew ?_ | refine blk_alloc ?_ _)); exact BK395.out) hb); have n7_ := Aside0.mk (below_step (by repeat (first | (with_reducible first | exact HB.out | apply below_alloc | apply pw_below_drewN | apply below_drew1 | refine below_set ?_ GE379.out | refine below_set ?_ GE380.out | refine below_set ?_ GE395.out) | exact HB.out)) hb); have n8_ := Aside0.mk (hbox); have n9_ := Aside0.mk ((by rw [hg]; exact (below_size (by repeat (first | (with_reducible first | exact HB.out | apply below_alloc | apply pw_below_drewN | apply below_drew1 | refine below_set ?_ GE379.out | refine below_set ?_ GE380.out | refine below_set ?_ GE395.out) | exact HB.out))) : w.heap.size ≤ gb409)); have n10_ := Aside0.mk ((by rw [hg]; exact (below_size (by repeat (first | (with_reducible first | exact HB.out | apply below_alloc | apply pw_below_drewN | apply below_drew1 | refine below_set ?_ GE379.out | refine below_set ?_ GE380.out | refine below_set ?_ GE395.out) | exact HB.out))) : w.heap.size ≤ gb409)); have n11_ := Aside0.mk ((by rw [hg]; exact Nat.ne_of_lt (blk_lt (g := gb379) (o := .cells #[.int .i64 a0_0, .int .i64 a0_1, .int .i64 a0_2, .int .i64 a0_3, .int .i64 a0_4, .slice A0_5 l0_5.length c0_5, .slice A0_6 l0_6.length c0_6] 29 (0, 0)) (by (with_reducible repeat (first | refine blk_drewN ?_ _ | refine blk_drew ?_ | refine blk_alloc ?_ _)); exact BK379.out)) : gb379 ≠ gb409)); have n12_ := Aside0.mk ((by rw [hg]; exact Nat.ne_of_gt (blk_lt (g := gb379) (o := .cells #[.int .i64 a0_0, .int .i64 a0_1, .int .i64 a0_2, .int .i64 a0_3, .int .i64 a0_4, .slice A0_5 l0_5.length c0_5, .slice A0_6 l0_6.length c0_6] 29 (0, 0)) (by (with_reducible repeat (first | refine blk_drewN ?_ _ | refine blk_drew ?_ | refine blk_alloc ?_ _)); exact BK379.out)) : gb409 ≠ gb379)); have n13_ := Aside0.mk ((by rw [hg]; exact Nat.ne_of_lt (blk_lt (g := gb380) (o := .cells #[.int .i64 a1_0, .int .i64 a1_1] 40 (0, 0)) (by (with_reducible repeat (first | refine blk_drewN ?_ _ | refine blk_drew ?_ | refine blk_alloc ?_ _)); exact BK380.out)) : gb380 ≠ gb409)); have n14_ := Aside0.mk ((by rw [hg]; exact Nat.ne_of_gt (blk_lt (g := gb380) (o := .cells #[.int .i64 a1_0, .int .i64 a1_1] 40 (0, 0)) (by (with_reducible repeat (first | refine blk_drewN ?_ _ | refine blk_drew ?_ | refine blk_alloc ?_ _)); exact BK380.out)) : gb409 ≠ gb380)); have n15_ := Aside0.mk ((by rw [hg]; exact Nat.ne_of_lt (blk_lt (g := gb395) (o := .cells #[.int .i64 t382, .int .i64 t383, .int .i64 t384, .int .i64 t385, .int .i64 t386, .slice Ao35 t387.length co35, .slice Ao36 t390.length co36] 29 (0, 0)) (by (with_reducible repeat (first | refine blk_drewN ?_ _ | refine blk_drew ?_ | refine blk_alloc ?_ _)); exact BK395.out)) : gb395 ≠ gb409)); have n16_ := Aside0.mk ((by rw [hg]; exact Nat.ne_of_gt (blk_lt (g := gb395) (o := .cells #[.int .i64 t382, .int .i64 t383, .int .i64 t384, .int .i64 t385, .int .i64 t386, .slice Ao35 t387.length co35, .slice Ao36 t390.length co36] 29 (0, 0)) (by (with_reducible repeat (first | refine blk_drewN ?_ _ | refine blk_drew ?_ | refine blk_alloc ?_ _)); exact BK395.out)) : gb409 ≠ gb395)); clear HO389; clear HO392; clear HO403; clear HO406; clear BK379; clear BK380; clear BK395; clear HB; have HO389 := n0_; have HO392 := n1_; have HO403 := n2_; have HO406 := n3_; have BK379 := n4_; have BK380 := n5_; have BK395 := n6_; have HB := n7_; have BK409 := n8_; have GW409 := n9_; have GE409 := n10_; have NB379_409 := n11_; have NB409_379 := n12_; have NB380_409 := n13_; have NB409_380 := n14_; have NB395_409 := n15_; have NB409_395 := n16_; clear n0_ n1_ n2_ n3_ n4_ n5_ n6_ n7_ n8_ n9_ n10_ n11_ n12_ n13_ n14_ n15_ n16_; clear hb hbox hg; have hnb41 := NB409_379.out; have hnc41 := NB379_409.out; have hnb42 := NB409_380.out; have hnc42 := NB380_409.out; have hnb43 := NB409_395.out; have hnc43 := NB395_409.out; have hcz44_0 : w40.cell? ⟨gb409, 0, none⟩ = some (.int .i64 0) := (blk_cell BK409.out 0).trans rfl; have hcz44_1 : w40.cell? ⟨gb409, 1, none⟩ = some (.int .i64 0) := (blk_cell BK409.out 1).trans rfl; have hcz44_2 : w40.cell? ⟨gb409, 2, none⟩ = some (.int .i64 0) := (blk_cell BK409.out 2).trans rfl; have hcz44_3 : w40.cell? ⟨gb409, 3, none⟩ = some (.int .i64 0) := (blk_cell BK409.out 3).trans rfl; have hcz44_4 : w40.cell? ⟨gb409, 4, none⟩ = some (.int .i64 0) := (blk_cell BK409.out 4).trans rfl; have hcz44_5 : w40.cell? ⟨gb409, 5, none⟩ = some (.slice none 0 0) := (blk_cell BK409.out 5).trans rfl; have hcz44_6 : w40.cell? ⟨gb409, 6, none⟩ = some (.slice none 0 0) := (blk_cell BK409.out 6).trans rfl; have hfz44_0 := blk_frozen BK409.out 0; have hfz44_1 := blk_frozen BK409.out 1; have hfz44_2 := blk_frozen BK409.out 2; have hfz44_3 := blk_frozen BK409.out 3; have hfz44_4 := blk_frozen BK409.out 4; have hfz44_5 := blk_frozen BK409.out 5; have hfz44_6 := blk_frozen BK409.out 6; obtain ⟨Ao45, co45, eo45, _⟩ := Kd.Q_slice HO403.out; subst eo45; obtain ⟨Ao46, co46, eo46, _⟩ := Kd.Q_slice HO406.out; subst eo46))
                  have n0_ : Aside0 (Kd.R k46 46 (((((((w40.setCell ⟨gb409, 0, none⟩ (.int .i64 t396)).setCell ⟨gb409, 1, none⟩ (.int .i64 t397)).setCell ⟨gb409, 2, none⟩ (.int .i64 t398)).setCell ⟨gb409, 3, none⟩ (.int .i64 t399)).setCell ⟨gb409, 4, none⟩ (.int .i64 t400)).setCell ⟨gb409, 5, none⟩ (.slice Ao45 t401.length co45)).setCell ⟨gb409, 6, none⟩ (.slice Ao46 t404.length co46)) w.heap.size (fun k_ => some k_ ≠ (.slice Ao45 t401.length co45 : Value).ownBlock) (.slice Ao35 t387.length co35) t387) := ⟨by (with_reducible repeat (first | apply Kd.R_alloc | apply Kd.R_drewN | apply Kd.R_drew)); exact Kd.R_mono (Kd.R_far (p := ⟨gb409, 6, none⟩) (Kd.R_far (p := ⟨gb409, 5, none⟩) (Kd.R_far (p := ⟨gb409, 4, none⟩) (Kd.R_far (p := ⟨gb409, 3, none⟩) (Kd.R_far (p := ⟨gb409, 2, none⟩) (Kd.R_far (p := ⟨gb409, 1, none⟩) (Kd.R_far (p := ⟨gb409, 0, none⟩) (Kd.R_types HO389.out BK409.out (by decide)) (fun _ hk => hk.2) (.int .i64 t396)) (fun _ hk => hk.2) (.int .i64 t397)) (fun _ hk => hk.2) (.int .i64 t398)) (fun _ hk => hk.2) (.int .i64 t399)) (fun _ hk => hk.2) (.int .i64 t400)) (fun _ hk => hk.2) (.slice Ao45 t401.length co45)) (fun _ hk => hk.2) (.slice Ao46 t404.length co46)) (fun _ hk => hk.1.2)⟩
                  have n1_ : Aside0 (Kd.R (Kd.int .i64) 3 (((((((w40.setCell ⟨gb409, 0, none⟩ (.int .i64 t396)).setCell ⟨gb409, 1, none⟩ (.int .i64 t397)).setCell ⟨gb409, 2, none⟩ (.int .i64 t398)).setCell ⟨gb409, 3, none⟩ (.int .i64 t399)).setCell ⟨gb409, 4, none⟩ (.int .i64 t400)).setCell ⟨gb409, 5, none⟩ (.slice Ao45 t401.length co45)).setCell ⟨gb409, 6, none⟩ (.slice Ao46 t404.length co46)) w.heap.size (fun k_ => some k_ ≠ (.slice Ao46 t404.length co46 : Value).ownBlock) (.slice Ao36 t390.length co36) t390) := ⟨by (with_reducible repeat (first | apply Kd.R_alloc | apply Kd.R_drewN | apply Kd.R_drew)); exact Kd.R_mono (Kd.R_far (p := ⟨gb409, 6, none⟩) (Kd.R_far (p := ⟨gb409, 5, none⟩) (Kd.R_far (p := ⟨gb409, 4, none⟩) (Kd.R_far (p := ⟨gb409, 3, none⟩) (Kd.R_far (p := ⟨gb409, 2, none⟩) (Kd.R_far (p := ⟨gb409, 1, none⟩) (Kd.R_far (p := ⟨gb409, 0, none⟩) (Kd.R_types HO392.out BK409.out (by decide)) (fun _ hk => hk.2) (.int .i64 t396)) (fun _ hk => hk.2) (.int .i64 t397)) (fun _ hk => hk.2) (.int .i64 t398)) (fun _ hk => hk.2) (.int .i64 t399)) (fun _ hk => hk.2) (.int .i64 t400)) (fun _ hk => hk.2) (.slice Ao45 t401.length co45)) (fun _ hk => hk.2) (.slice Ao46 t404.length co46)) (fun _ hk => hk.1.2)⟩
                  have n2_ : Aside0 (Kd.Q k46 46 (((((((w40.setCell ⟨gb409, 0, none⟩ (.int .i64 t396)).setCell ⟨gb409, 1, none⟩ (.int .i64 t397)).setCell ⟨gb409, 2, none⟩ (.int .i64 t398)).setCell ⟨gb409, 3, none⟩ (.int .i64 t399)).setCell ⟨gb409, 4, none⟩ (.int .i64 t400)).setCell ⟨gb409, 5, none⟩ (.slice Ao45 t401.length co45)).setCell ⟨gb409, 6, none⟩ (.slice Ao46 t404.length co46)) w.heap.size (fun k_ => some k_ ≠ (.slice Ao35 t387.length co35 : Value).ownBlock) (.slice Ao45 t401.length co45) t401) := ⟨by (with_reducible repeat (first | apply Kd.Q_alloc | apply Kd.Q_drewN | apply Kd.Q_drew)); exact Kd.Q_mono (Kd.Q_far (p := ⟨gb409, 6, none⟩) (Kd.Q_far (p := ⟨gb409, 5, none⟩) (Kd.Q_far (p := ⟨gb409, 4, none⟩) (Kd.Q_far (p := ⟨gb409, 3, none⟩) (Kd.Q_far (p := ⟨gb409, 2, none⟩) (Kd.Q_far (p := ⟨gb409, 1, none⟩) (Kd.Q_far (p := ⟨gb409, 0, none⟩) (Kd.Q_types HO403.out BK409.out (by decide)) (fun _ hk => hk.2) (.int .i64 t396)) (fun _ hk => hk.2) (.int .i64 t397)) (fun _ hk => hk.2) (.int .i64 t398)) (fun _ hk => hk.2) (.int .i64 t399)) (fun _ hk => hk.2) (.int .i64 t400)) (fun _ hk => hk.2) (.slice Ao45 t401.length co45)) (fun _ hk => hk.2) (.slice Ao46 t404.length co46)) (fun _ hk => hk.1.2)⟩
                  have n3_ : Aside0 (Kd.Q (Kd.int .i64) 3 (((((((w40.setCell ⟨gb409, 0, none⟩ (.int .i64 t396)).setCell ⟨gb409, 1, none⟩ (.int .i64 t397)).setCell ⟨gb409, 2, none⟩ (.int .i64 t398)).setCell ⟨gb409, 3, none⟩ (.int .i64 t399)).setCell ⟨gb409, 4, none⟩ (.int .i64 t400)).setCell ⟨gb409, 5, none⟩ (.slice Ao45 t401.length co45)).setCell ⟨gb409, 6, none⟩ (.slice Ao46 t404.length co46)) w.heap.size (fun k_ => some k_ ≠ (.slice Ao36 t390.length co36 : Value).ownBlock) (.slice Ao46 t404.length co46) t404) := ⟨by (with_reducible repeat (first | apply Kd.Q_alloc | apply Kd.Q_drewN | apply Kd.Q_drew)); exact Kd.Q_mono (Kd.Q_far (p := ⟨gb409, 6, none⟩) (Kd.Q_far (p := ⟨gb409, 5, none⟩) (Kd.Q_far (p := ⟨gb409, 4, none⟩) (Kd.Q_far (p := ⟨gb409, 3, none⟩) (Kd.Q_far (p := ⟨gb409, 2, none⟩) (Kd.Q_far (p := ⟨gb409, 1, none⟩) (Kd.Q_far (p := ⟨gb409, 0, none⟩) (Kd.Q_types HO406.out BK409.out (by decide)) (fun _ hk => hk.2) (.int .i64 t396)) (fun _ hk => hk.2) (.int .i64 t397)) (fun _ hk => hk.2) (.int .i64 t398)) (fun _ hk => hk.2) (.int .i64 t399)) (fun _ hk => hk.2) (.int .i64 t400)) (fun _ hk => hk.2) (.slice Ao45 t401.length co45)) (fun _ hk => hk.2) (.slice Ao46 t404.length co46)) (fun _ hk => hk.1.2)⟩
                  have n4_ : Aside0 ((((((((w40.setCell ⟨gb409, 0, none⟩ (.int .i64 t396)).setCell ⟨gb409, 1, none⟩ (.int .i64 t397)).setCell ⟨gb409, 2, none⟩ (.int .i64 t398)).setCell ⟨gb409, 3, none⟩ (.int .i64 t399)).setCell ⟨gb409, 4, none⟩ (.int .i64 t400)).setCell ⟨gb409, 5, none⟩ (.slice Ao45 t401.length co45)).setCell ⟨gb409, 6, none⟩ (.slice Ao46 t404.length co46)).heap[gb379]? = some (.cells #[.int .i64 a0_0, .int .i64 a0_1, .int .i64 a0_2, .int .i64 a0_3, .int .i64 a0_4, .slice A0_5 l0_5.length c0_5, .slice A0_6 l0_6.length c0_6] 29 (0, 0))) := ⟨by (with_reducible repeat (first | refine blk_drewN ?_ _ | refine blk_drew ?_ | refine blk_alloc ?_ _)); refine blk_far ?_ NB379_409.out _; (with_reducible repeat (first | refine blk_drewN ?_ _ | refine blk_drew ?_ | refine blk_alloc ?_ _)); refine blk_far ?_ NB379_409.out _; (with_reducible repeat (first | refine blk_drewN ?_ _ | refine blk_drew ?_ | refine blk_alloc ?_ _)); refine blk_far ?_ NB379_409.out _; (with_reducible repeat (first | refine blk_drewN ?_ _ | refine blk_drew ?_ | refine blk_alloc ?_ _)); refine blk_far ?_ NB379_409.out _; (with_reducible repeat (first | refine blk_drewN ?_ _ | refine blk_drew ?_ | refine blk_alloc ?_ _)); refine blk_far ?_ NB379_409.out _; (with_reducible repeat (first | refine blk_drewN ?_ _ | refine blk_drew ?_ | refine blk_alloc ?_ _)); refine blk_far ?_ NB379_409.out _; (with_reducible repeat (first | refine blk_drewN ?_ _ | refine blk_drew ?_ | refine blk_alloc ?_ _)); refine blk_far ?_ NB379_409.out _; (with_reducible repeat (first | refine blk_drewN ?_ _ | refine blk_drew ?_ | refine blk_alloc ?_ _)); exact BK379.out⟩
                  have n5_ : Aside0 ((((((((w40.setCell ⟨gb409, 0, none⟩ (.int .i64 t396)).setCell ⟨gb409, 1, none⟩ (.int .i64 t397)).setCell ⟨gb409, 2, none⟩ (.int .i64 t398)).setCell ⟨gb409, 3, none⟩ (.int .i64 t399)).setCell ⟨gb409, 4, none⟩ (.int .i64 t400)).setCell ⟨gb409, 5, none⟩ (.slice Ao45 t401.length co45)).setCell ⟨gb409, 6, none⟩ (.slice Ao46 t404.length co46)).heap[gb380]? = some (.cells #[.int .i64 a1_0, .int .i64 a1_1] 40 (0, 0))) := ⟨by (with_reducible repeat (first | refine blk_drewN ?_ _ | refine blk_drew ?_ | refine blk_alloc ?_ _)); refine blk_far ?_ NB380_409.out _; (with_reducible repeat (first | refine blk_drewN ?_ _ | refine blk_drew ?_ | refine blk_alloc ?_ _)); refine blk_far ?_ NB380_409.out _; (with_reducible repeat (first | refine blk_drewN ?_ _ | refine blk_drew ?_ | refine blk_alloc ?_ _)); refine blk_far ?_ NB380_409.out _; (with_reducible repeat (first | refine blk_drewN ?_ _ | refine blk_drew ?_ | refine blk_alloc ?_ _)); refine blk_far ?_ NB380_409.out _; (with_reducible repeat (first | refine blk_drewN ?_ _ | refine blk_drew ?_ | refine blk_alloc ?_ _)); refine blk_far ?_ NB380_409.out _; (with_reducible repeat (first | refine blk_drewN ?_ _ | refine blk_drew ?_ | refine blk_alloc ?_ _)); refine blk_far ?_ NB380_409.out _; (with_reducible repeat (first | refine blk_drewN ?_ _ | refine blk_drew ?_ | refine blk_alloc ?_ _)); refine blk_far ?_ NB380_409.out _; (with_reducible repeat (first | refine blk_drewN ?_ _ | refine blk_drew ?_ | refine blk_alloc ?_ _)); exact BK380.out⟩
                  have n6_ : Aside0 ((((((((w40.setCell ⟨gb409, 0, none⟩ (.int .i64 t396)).setCell ⟨gb409, 1, none⟩ (.int .i64 t397)).setCell ⟨gb409, 2, none⟩ (.int .i64 t398)).setCell ⟨gb409, 3, none⟩ (.int .i64 t399)).setCell ⟨gb409, 4, none⟩ (.int .i64 t400)).setCell ⟨gb409, 5, none⟩ (.slice Ao45 t401.length co45)).setCell ⟨gb409, 6, none⟩ (.slice Ao46 t404.length co46)).heap[gb395]? = some (.cells #[.int .i64 t382, .int .i64 t383, .int .i64 t384, .int .i64 t385, .int .i64 t386, .slice Ao35 t387.length co35, .slice Ao36 t390.length co36] 29 (0, 0))) := ⟨by (with_reducible repeat (first | refine blk_drewN ?_ _ | refine blk_drew ?_ | refine blk_alloc ?_ _)); refine blk_far ?_ NB395_409.out _; (with_reducible repeat (first | refine blk_drewN ?_ _ | refine blk_drew ?_ | refine blk_alloc ?_ _)); refine blk_far ?_ NB395_409.out _; (with_reducible repeat (first | refine blk_drewN ?_ _ | refine blk_drew ?_ | refine blk_alloc ?_ _)); refine blk_far ?_ NB395_409.out _; (with_reducible repeat (first | refine blk_drewN ?_ _ | refine blk_drew ?_ | refine blk_alloc ?_ _)); refine blk_far ?_ NB395_409.out _; (with_reducible repeat (first | refine blk_drewN ?_ _ | refine blk_drew ?_ | refine blk_alloc ?_ _)); refine blk_far ?_ NB395_409.out _; (with_reducible repeat (first | refine blk_drewN ?_ _ | refine blk_drew ?_ | refine blk_alloc ?_ _)); refine blk_far ?_ NB395_409.out _; (with_reducible repeat (first | refine blk_drewN ?_ _ | refine blk_drew ?_ | refine blk_alloc ?_ _)); refine blk_far ?_ NB395_409.out _; (with_reducible repeat (first | refine blk_drewN ?_ _ | refine blk_drew ?_ | refine blk_alloc ?_ _)); exact BK395.out⟩
                  have n7_ : Aside0 ((((((((w40.setCell ⟨gb409, 0, none⟩ (.int .i64 t396)).setCell ⟨gb409, 1, none⟩ (.int .i64 t397)).setCell ⟨gb409, 2, none⟩ (.int .i64 t398)).setCell ⟨gb409, 3, none⟩ (.int .i64 t399)).setCell ⟨gb409, 4, none⟩ (.int .i64 t400)).setCell ⟨gb409, 5, none⟩ (.slice Ao45 t401.length co45)).setCell ⟨gb409, 6, none⟩ (.slice Ao46 t404.length co46)).heap[gb409]? = some (.cells #[.int .i64 t396, .int .i64 t397, .int .i64 t398, .int .i64 t399, .int .i64 t400, .slice Ao45 t401.length co45, .slice Ao46 t404.length co46] 29 (0, 0))) := ⟨by (with_reducible repeat (first | refine blk_drewN ?_ _ | refine blk_drew ?_ | refine blk_alloc ?_ _)); refine blk_put (cs := #[.int .i64 t396, .int .i64 t397, .int .i64 t398, .int .i64 t399, .int .i64 t400, .slice Ao45 t401.length co45, .slice none 0 0]) ?_ 6 _ rfl; (with_reducible repeat (first | refine blk_drewN ?_ _ | refine blk_drew ?_ | refine blk_alloc ?_ _)); refine blk_put (cs := #[.int .i64 t396, .int .i64 t397, .int .i64 t398, .int .i64 t399, .int .i64 t400, .slice none 0 0, .slice none 0 0]) ?_ 5 _ rfl; (with_reducible repeat (first | refine blk_drewN ?_ _ | refine blk_drew ?_ | refine blk_alloc ?_ _)); refine blk_put (cs := #[.int .i64 t396, .int .i64 t397, .int .i64 t398, .int .i64 t399, .int .i64 0, .slice none 0 0, .slice none 0 0]) ?_ 4 _ rfl; (with_reducible repeat (first | refine blk_drewN ?_ _ | refine blk_drew ?_ | refine blk_alloc ?_ _)); refine blk_put (cs := #[.int .i64 t396, .int .i64 t397, .int .i64 t398, .int .i64 0, .int .i64 0, .slice none 0 0, .slice none 0 0]) ?_ 3 _ rfl; (with_reducible repeat (first | refine blk_drewN ?_ _ | refine blk_drew ?_ | refine blk_alloc ?_ _)); refine blk_put (cs := #[.int .i64 t396, .int .i64 t397, .int .i64 0, .int .i64 0, .int .i64 0, .slice none 0 0, .slice none 0 0]) ?_ 2 _ rfl; (with_reducible repeat (first | refine blk_drewN ?_ _ | refine blk_drew ?_ | refine blk_alloc ?_ _)); refine blk_put (cs := #[.int .i64 t396, .int .i64 0, .int .i64 0, .int .i64 0, .int .i64 0, .slice none 0 0, .slice none 0 0]) ?_ 1 _ rfl; (with_reducible repeat (first | refine blk_drewN ?_ _ | refine blk_drew ?_ | refine blk_alloc ?_ _)); refine blk_put (cs := #[.int .i64 0, .int .i64 0, .int .i64 0, .int .i64 0, .int .i64 0, .slice none 0 0, .slice none 0 0]) ?_ 0 _ rfl; (with_reducible repeat (first | refine blk_drewN ?_ _ | refine blk_drew ?_ | refine blk_alloc ?_ _)); exact BK409.out⟩
                  have n8_ : Aside0 (Below w.heap.size w (((((((w40.setCell ⟨gb409, 0, none⟩ (.int .i64 t396)).setCell ⟨gb409, 1, none⟩ (.int .i64 t397)).setCell ⟨gb409, 2, none⟩ (.int .i64 t398)).setCell ⟨gb409, 3, none⟩ (.int .i64 t399)).setCell ⟨gb409, 4, none⟩ (.int .i64 t400)).setCell ⟨gb409, 5, none⟩ (.slice Ao45 t401.length co45)).setCell ⟨gb409, 6, none⟩ (.slice Ao46 t404.length co46))) := ⟨by repeat (first | (with_reducible first | exact HB.out | apply below_alloc | apply pw_below_drewN | apply below_drew1 | refine below_set ?_ GE379.out | refine below_set ?_ GE380.out | refine below_set ?_ GE395.out | refine below_set ?_ GE409.out) | exact HB.out)⟩
                  (try clear HO389)
                  (try clear HO392)
                  (try clear HO403)
                  (try clear HO406)
                  (try clear BK379)
                  (try clear BK380)
                  (try clear BK395)
                  (try clear BK409)
                  (try clear HB)
                  generalize (((((((w40.setCell ⟨gb409, 0, none⟩ (.int .i64 t396)).setCell ⟨gb409, 1, none⟩ (.int .i64 t397)).setCell ⟨gb409, 2, none⟩ (.int .i64 t398)).setCell ⟨gb409, 3, none⟩ (.int .i64 t399)).setCell ⟨gb409, 4, none⟩ (.int .i64 t400)).setCell ⟨gb409, 5, none⟩ (.slice Ao45 t401.length co45)).setCell ⟨gb409, 6, none⟩ (.slice Ao46 t404.length co46)) = w47 at n0_ n1_ n2_ n3_ n4_ n5_ n6_ n7_ n8_ ⊢
                  have HO389 := n0_
                  have HO392 := n1_
                  have HO403 := n2_
                  have HO406 := n3_
                  have BK379 := n4_
                  have BK380 := n5_
                  have BK395 := n6_
                  have BK409 := n7_
                  have HB := n8_
                  clear n0_ n1_ n2_ n3_ n4_ n5_ n6_ n7_ n8_
                  have n0_ := Aside0.mk (Kd.R_drew HO389.out)
                  have n1_ := Aside0.mk (Kd.R_drew HO392.out)
                  have n2_ := Aside0.mk (Kd.Q_drew HO403.out)
                  have n3_ := Aside0.mk (Kd.Q_drew HO406.out)
                  have n4_ := Aside0.mk (blk_drew BK379.out)
                  have n5_ := Aside0.mk (blk_drew BK380.out)
                  have n6_ := Aside0.mk (blk_drew BK395.out)
                  have n7_ := Aside0.mk (blk_drew BK409.out)
                  have n8_ := Aside0.mk (below_drew1 HB.out)
                  clear HO389
                  clear HO392
                  clear HO403
                  clear HO406
                  clear BK379
                  clear BK380
                  clear BK395
                  clear BK409
                  clear HB
                  have HO389 := n0_
                  have HO392 := n1_
                  have HO403 := n2_
                  have HO406 := n3_
                  have BK379 := n4_
                  have BK380 := n5_
                  have BK395 := n6_
                  have BK409 := n7_
                  have HB := n8_
                  clear n0_ n1_ n2_ n3_ n4_ n5_ n6_ n7_ n8_
                  refine start_ (n := 31) (S := fun w' => w'.cell? ⟨gb379, 0, none⟩ = some (.int .i64 a0_0) ∧ w'.cell? ⟨gb379, 1, none⟩ = some (.int .i64 a0_1) ∧ w'.cell? ⟨gb379, 2, none⟩ = some (.int .i64 a0_2) ∧ w'.cell? ⟨gb379, 3, none⟩ = some (.int .i64 a0_3) ∧ w'.cell? ⟨gb379, 4, none⟩ = some (.int .i64 a0_4) ∧ w'.cell? ⟨gb379, 5, none⟩ = some (.slice A0_5 l0_5.length c0_5) ∧ w'.cell? ⟨gb379, 6, none⟩ = some (.slice A0_6 l0_6.length c0_6) ∧ w'.cell? ⟨gb395, 0, none⟩ = some (.int .i64 t382) ∧ w'.cell? ⟨gb395, 1, none⟩ = some (.int .i64 t383) ∧ w'.cell? ⟨gb395, 2, none⟩ = some (.int .i64 t384) ∧ w'.cell? ⟨gb395, 3, none⟩ = some (.int .i64 t385) ∧ w'.cell? ⟨gb395, 4, none⟩ = some (.int .i64 t386) ∧ w'.cell? ⟨gb395, 5, none⟩ = some (.slice Ao35 t387.length co35) ∧ w'.cell? ⟨gb395, 6, none⟩ = some (.slice Ao36 t390.length co36) ∧ w'.cell? ⟨gb409, 0, none⟩ = some (.int .i64 t396) ∧ w'.cell? ⟨gb409, 1, none⟩ = some (.int .i64 t397) ∧ w'.cell? ⟨gb409, 2, none⟩ = some (.int .i64 t398) ∧ w'.cell? ⟨gb409, 3, none⟩ = some (.int .i64 t399) ∧ w'.cell? ⟨gb409, 4, none⟩ = some (.int .i64 t400) ∧ w'.cell? ⟨gb409, 5, none⟩ = some (.slice Ao45 t401.length co45) ∧ w'.cell? ⟨gb409, 6, none⟩ = some (.slice Ao46 t404.length co46)) (ds := []) #[false, false, false, false, false, false, false, false, false, false, false, false, false, false, false, false, false, false, false, false, false, false, false, false, false, false, false, false, false, false, false] (by kernel_rfl) rfl rfl ⟨(blk_cell BK379.out 0).trans rfl, (blk_cell BK379.out 1).trans rfl, (blk_cell BK379.out 2).trans rfl, (blk_cell BK379.out 3).trans rfl, (blk_cell BK379.out 4).trans rfl, (blk_cell BK379.out 5).trans rfl, (blk_cell BK379.out 6).trans rfl, (blk_cell BK395.out 0).trans rfl, (blk_cell BK395.out 1).trans rfl, (blk_cell BK395.out 2).trans rfl, (blk_cell BK395.out 3).trans rfl, (blk_cell BK395.out 4).trans rfl, (blk_cell BK395.out 5).trans rfl, (blk_cell BK395.out 6).trans rfl, (blk_cell BK409.out 0).trans rfl, (blk_cell BK409.out 1).trans rfl, (blk_cell BK409.out 2).trans rfl, (blk_cell BK409.out 3).trans rfl, (blk_cell BK409.out 4).trans rfl, (blk_cell BK409.out 5).trans rfl, (blk_cell BK409.out 6).trans rfl⟩ (fun hHeld => ?_); refine with_tabW selfstablaw42_DatalinkSteps.tab5 selfstablaw42_DatalinkSteps.bits5 (fun HT_ HW_ => ?_)
                  generalize w47.drew = w48 at HO389 HO392 HO403 HO406 BK379 BK380 BK395 BK409 HB hHeld ⊢
                  refine one_ (i := 0) (N := some 36) #[true, false, false, false, false, false, false, false, false, false, false, false, false, false, false, false, false, false, false, false, false, false, false, false, false, false, false, false, false, false, false] rfl rfl (one_of HT_.out (by kernel_rfl)) (by decide) (fun K hK => ?_)
                  refine goes_ Try.func9 (by kernel_rfl) rfl #[] (by rfl) rfl rfl (by (try simp only [List.map_toArray, List.map_cons, List.map_nil]); first | done | rfl | (simp only [List.length_drop, List.length_take]; rfl)) ?_
                  with_reducible refine (selfstablaw42_known.calls kj2  true _ A16.out).mono ?_
                  rintro e w49 ⟨rfl, hb⟩
                  refine ⟨_, rfl, ?_⟩
                  have n0_ := Aside0.mk (Kd.R_below (by (with_reducible repeat (first | apply Kd.R_alloc | apply Kd.R_drewN | apply Kd.R_drew)); exact HO389.out) hb)
                  have n1_ := Aside0.mk (Kd.R_below (by (with_reducible repeat (first | apply Kd.R_alloc | apply Kd.R_drewN | apply Kd.R_drew)); exact HO392.out) hb)
                  have n2_ := Aside0.mk (Kd.Q_below (by (with_reducible repeat (first | apply Kd.Q_alloc | apply Kd.Q_drewN | apply Kd.Q_drew)); exact HO403.out) hb)
                  have n3_ := Aside0.mk (Kd.Q_below (by (with_reducible repeat (first | apply Kd.Q_alloc | apply Kd.Q_drewN | apply Kd.Q_drew)); exact HO406.out) hb)
                  have n4_ := Aside0.mk (blk_below (g := gb379) (o := .cells #[.int .i64 a0_0, .int .i64 a0_1, .int .i64 a0_2, .int .i64 a0_3, .int .i64 a0_4, .slice A0_5 l0_5.length c0_5, .slice A0_6 l0_6.length c0_6] 29 (0, 0)) (by (with_reducible repeat (first | refine blk_drewN ?_ _ | refine blk_drew ?_ | refine blk_alloc ?_ _)); exact BK379.out) hb)
                  have n5_ := Aside0.mk (blk_below (g := gb380) (o := .cells #[.int .i64 a1_0, .int .i64 a1_1] 40 (0, 0)) (by (with_reducible repeat (first | refine blk_drewN ?_ _ | refine blk_drew ?_ | refine blk_alloc ?_ _)); exact BK380.out) hb)
                  have n6_ := Aside0.mk (blk_below (g := gb395) (o := .cells #[.int .i64 t382, .int .i64 t383, .int .i64 t384, .int .i64 t385, .int .i64 t386, .slice Ao35 t387.length co35, .slice Ao36 t390.length co36] 29 (0, 0)) (by (with_reducible repeat (first | refine blk_drewN ?_ _ | refine blk_drew ?_ | refine blk_alloc ?_ _)); exact BK395.out) hb)
                  have n7_ := Aside0.mk (blk_below (g := gb409) (o := .cells #[.int .i64 t396, .int .i64 t397, .int .i64 t398, .int .i64 t399, .int .i64 t400, .slice Ao45 t401.length co45, .slice Ao46 t404.length co46] 29 (0, 0)) (by (with_reducible repeat (first | refine blk_drewN ?_ _ | refine blk_drew ?_ | refine blk_alloc ?_ _)); exact BK409.out) hb)
                  have n8_ := Aside0.mk (below_step (by repeat (first | (with_reducible first | exact HB.out | apply below_alloc | apply pw_below_drewN | apply below_drew1 | refine below_set ?_ GE379.out | refine below_set ?_ GE380.out | refine below_set ?_ GE395.out | refine below_set ?_ GE409.out) | exact HB.out)) hb)
                  clear HO389
                  clear HO392
                  clear HO403
                  clear HO406
                  clear BK379
                  clear BK380
                  clear BK395
                  clear BK409
                  clear HB
                  have HO389 := n0_
                  have HO392 := n1_
                  have HO403 := n2_
                  have HO406 := n3_
                  have BK379 := n4_
                  have BK380 := n5_
                  have BK395 := n6_
                  have BK409 := n7_
                  have HB := n8_
                  clear n0_ n1_ n2_ n3_ n4_ n5_ n6_ n7_ n8_
                  (try clear hb)
                  (try clear hb2)
                  (try clear hk)
                  (try clear hi)
                  refine hK.out _ _ ⟨(blk_cell BK379.out 0).trans rfl, (blk_cell BK379.out 1).trans rfl, (blk_cell BK379.out 2).trans rfl, (blk_cell BK379.out 3).trans rfl, (blk_cell BK379.out 4).trans rfl, (blk_cell BK379.out 5).trans rfl, (blk_cell BK379.out 6).trans rfl, (blk_cell BK395.out 0).trans rfl, (blk_cell BK395.out 1).trans rfl, (blk_cell BK395.out 2).trans rfl, (blk_cell BK395.out 3).trans rfl, (blk_cell BK395.out 4).trans rfl, (blk_cell BK395.out 5).trans rfl, (blk_cell BK395.out 6).trans rfl, (blk_cell BK409.out 0).trans rfl, (blk_cell BK409.out 1).trans rfl, (blk_cell BK409.out 2).trans rfl, (blk_cell BK409.out 3).trans rfl, (blk_cell BK409.out 4).trans rfl, (blk_cell BK409.out 5).trans rfl, (blk_cell BK409.out 6).trans rfl⟩ (fun hHeld => ?_)
                  clear hK K
                  refine norm_ (a' := ?_) ?_ ?_
                  rotate_left
                  · show Act.put _ (some 36) _ = _
                    simp only [Act.put, List.setIfInBounds_toArray, List.set_cons_zero, List.set_cons_succ, i64_w, i32_w]
                    rfl
                  refine pure_ (i := 1) (N := some 37) (v := ?_) (a' := ?_) #[true, true, false, false, false, false, false, false, false, false, false, false, false, false, false, false, false, false, false, false, false, false, false, false, false, false, false, false, false, false, false] rfl rfl (any_of HT_.out (by kernel_rfl)) (fun _ _ _ h => h) (Or.inl ⟨by rfl, ?_⟩) ?_ ?_
                  rotate_left
                  · intro w'
                    go_simp
                    with_reducible rfl
                  rotate_left
                  · simp only [Act.put, List.setIfInBounds_toArray, List.set_cons_zero, List.set_cons_succ, i64_w, i32_w]
                    rfl
                  refine take_ (i := 2) (N := some 38) (v := ?_) (a' := ?_) #[true, true, true, false, false, false, false, false, false, false, false, false, false, false, false, false, false, false, false, false, false, false, false, false, false, false, false, false, false, false, false] rfl rfl (take_ofW HT_.out HW_.out (by kernel_rfl)) (fun _ _ _ h => h) (Or.inl ⟨by rfl, ?_⟩) hHeld ?_ ?_
                  rotate_left
                  · rintro w' ⟨s0, s1, s2, s3, s4, s5, s6, s7, s8, s9, s10, s11, s12, s13, s14, s15, s16, s17, s18, s19, s20⟩
                    go_simp
                    with_reducible rfl
                  rotate_left
                  · simp only [Act.put, List.setIfInBounds_toArray, List.set_cons_zero, List.set_cons_succ, i64_w, i32_w]
                    rfl
                  refine take_ (i := 4) (N := some 40) (v := ?_) (a' := ?_) #[true, true, true, false, true, false, false, false, false, false, false, false, false, false, false, false, false, false, false, false, false, false, false, false, false, false, false, false, false, false, false] rfl rfl (take_ofW HT_.out HW_.out (by kernel_rfl)) (fun _ _ _ h => h) (Or.inl ⟨by rfl, ?_⟩) hHeld ?_ ?_
                  rotate_left
                  · rintro w' ⟨s0, s1, s2, s3, s4, s5, s6, s7, s8, s9, s10, s11, s12, s13, s14, s15, s16, s17, s18, s19, s20⟩
                    go_simp
                    with_reducible rfl
                  rotate_left
                  · simp only [Act.put, List.setIfInBounds_toArray, List.set_cons_zero, List.set_cons_succ, i64_w, i32_w]
                    rfl
                  refine one_ (i := 3) (N := some 39) #[true, true, true, true, true, false, false, false, false, false, false, false, false, false, false, false, false, false, false, false, false, false, false, false, false, false, false, false, false, false, false] rfl rfl (one_of HT_.out (by kernel_rfl)) (by decide) (fun K hK => ?_)
                  refine goes_ Try.func14 (by kernel_rfl) rfl #[.agg #[.int .i64 a0_0, .int .i64 a0_1, .int .i64 a0_2, .int .i64 a0_3, .int .i64 a0_4, .slice A0_5 l0_5.length c0_5, .slice A0_6 l0_6.length c0_6]] (by rfl) rfl rfl (by (try simp only [List.map_toArray, List.map_cons, List.map_nil]); first | done | rfl | (simp only [List.length_drop, List.length_take]; rfl)) ?_
                  with_reducible refine (datalink_Valid.calls a0_0 a0_1 a0_2 a0_3 a0_4 _ _ l0_5 _ _ l0_6 t411 _ ?side1 ?side2 ?side3 ?side4 A18.out).mono ?_
                  (case side1 => repeat (first | exact (Kd.C_below HR0_5.out HB.out) | (with_reducible refine Kd.C_alloc ?_ _) | (with_reducible refine Kd.C_drewN ?_ _) | (with_reducible refine Kd.C_drew ?_)))
                  (case side2 => exact HC0_5.out)
                  (case side3 => repeat (first | exact (Kd.C_below HR0_6.out HB.out) | (with_reducible refine Kd.C_alloc ?_ _) | (with_reducible refine Kd.C_drewN ?_ _) | (with_reducible refine Kd.C_drew ?_)))
                  (case side4 => exact HC0_6.out)
                  rintro e w50 ⟨rfl, hb⟩
                  refine ⟨_, rfl, ?_⟩
                  have n0_ := Aside0.mk (Kd.R_below (by (with_reducible repeat (first | apply Kd.R_alloc | apply Kd.R_drewN | apply Kd.R_drew)); exact HO389.out) hb)
                  have n1_ := Aside0.mk (Kd.R_below (by (with_reducible repeat (first | apply Kd.R_alloc | apply Kd.R_drewN | apply Kd.R_drew)); exact HO392.out) hb)
                  have n2_ := Aside0.mk (Kd.Q_below (by (with_reducible repeat (first | apply Kd.Q_alloc | apply Kd.Q_drewN | apply Kd.Q_drew)); exact HO403.out) hb)
                  have n3_ := Aside0.mk (Kd.Q_below (by (with_reducible repeat (first | apply Kd.Q_alloc | apply Kd.Q_drewN | apply Kd.Q_drew)); exact HO406.out) hb)
                  have n4_ := Aside0.mk (blk_below (g := gb379) (o := .cells #[.int .i64 a0_0, .int .i64 a0_1, .int .i64 a0_2, .int .i64 a0_3, .int .i64 a0_4, .slice A0_5 l0_5.length c0_5, .slice A0_6 l0_6.length c0_6] 29 (0, 0)) (by (with_reducible repeat (first | refine blk_drewN ?_ _ | refine blk_drew ?_ | refine blk_alloc ?_ _)); exact BK379.out) hb)
                  have n5_ := Aside0.mk (blk_below (g := gb380) (o := .cells #[.int .i64 a1_0, .int .i64 a1_1] 40 (0, 0)) (by (with_reducible repeat (first | refine blk_drewN ?_ _ | refine blk_drew ?_ | refine blk_alloc ?_ _)); exact BK380.out) hb)
                  have n6_ := Aside0.mk (blk_below (g := gb395) (o := .cells #[.int .i64 t382, .int .i64 t383, .int .i64 t384, .int .i64 t385, .int .i64 t386, .slice Ao35 t387.length co35, .slice Ao36 t390.length co36] 29 (0, 0)) (by (with_reducible repeat (first | refine blk_drewN ?_ _ | refine blk_drew ?_ | refine blk_alloc ?_ _)); exact BK395.out) hb)
                  have n7_ := Aside0.mk (blk_below (g := gb409) (o := .cells #[.int .i64 t396, .int .i64 t397, .int .i64 t398, .int .i64 t399, .int .i64 t400, .slice Ao45 t401.length co45, .slice Ao46 t404.length co46] 29 (0, 0)) (by (with_reducible repeat (first | refine blk_drewN ?_ _ | refine blk_drew ?_ | refine blk_alloc ?_ _)); exact BK409.out) hb)
                  have n8_ := Aside0.mk (below_step (by repeat (first | (with_reducible first | exact HB.out | apply below_alloc | apply pw_below_drewN | apply below_drew1 | refine below_set ?_ GE379.out | refine below_set ?_ GE380.out | refine below_set ?_ GE395.out | refine below_set ?_ GE409.out) | exact HB.out)) hb)
                  clear HO389
                  clear HO392
                  clear HO403
                  clear HO406
                  clear BK379
                  clear BK380
                  clear BK395
                  clear BK409
                  clear HB
                  have HO389 := n0_
                  have HO392 := n1_
                  have HO403 := n2_
                  have HO406 := n3_
                  have BK379 := n4_
                  have BK380 := n5_
                  have BK395 := n6_
                  have BK409 := n7_
                  have HB := n8_
                  clear n0_ n1_ n2_ n3_ n4_ n5_ n6_ n7_ n8_
                  (try clear hb)
                  (try clear hb2)
                  (try clear hk)
                  (try clear hi)
                  refine hK.out _ _ ⟨(blk_cell BK379.out 0).trans rfl, (blk_cell BK379.out 1).trans rfl, (blk_cell BK379.out 2).trans rfl, (blk_cell BK379.out 3).trans rfl, (blk_cell BK379.out 4).trans rfl, (blk_cell BK379.out 5).trans rfl, (blk_cell BK379.out 6).trans rfl, (blk_cell BK395.out 0).trans rfl, (blk_cell BK395.out 1).trans rfl, (blk_cell BK395.out 2).trans rfl, (blk_cell BK395.out 3).trans rfl, (blk_cell BK395.out 4).trans rfl, (blk_cell BK395.out 5).trans rfl, (blk_cell BK395.out 6).trans rfl, (blk_cell BK409.out 0).trans rfl, (blk_cell BK409.out 1).trans rfl, (blk_cell BK409.out 2).trans rfl, (blk_cell BK409.out 3).trans rfl, (blk_cell BK409.out 4).trans rfl, (blk_cell BK409.out 5).trans rfl, (blk_cell BK409.out 6).trans rfl⟩ (fun hHeld => ?_)
                  clear hK K
                  refine norm_ (a' := ?_) ?_ ?_
                  rotate_left
                  · show Act.put _ (some 39) _ = _
                    simp only [Act.put, List.setIfInBounds_toArray, List.set_cons_zero, List.set_cons_succ, i64_w, i32_w]
                    rfl
                  refine one_ (i := 5) (N := some 41) #[true, true, true, true, true, true, false, false, false, false, false, false, false, false, false, false, false, false, false, false, false, false, false, false, false, false, false, false, false, false, false] rfl rfl (one_of HT_.out (by kernel_rfl)) (by decide) (fun K hK => ?_)
                  refine goes_ Try.func20 (by kernel_rfl) rfl #[.agg #[.int .i64 a0_0, .int .i64 a0_1, .int .i64 a0_2, .int .i64 a0_3, .int .i64 a0_4, .slice A0_5 l0_5.length c0_5, .slice A0_6 l0_6.length c0_6]] (by rfl) rfl rfl (by (try simp only [List.map_toArray, List.map_cons, List.map_nil]); first | done | rfl | (simp only [List.length_drop, List.length_take]; rfl)) ?_
                  with_reducible refine (selfstabref42_Valid.calls kj2 a0_0 a0_1 a0_2 a0_3 a0_4 _ _ l0_5 _ _ l0_6 t412 _ ?side1 ?side2 ?side3 ?side4 A19.out).mono ?_
                  (case side1 => repeat (first | exact (Kd.C_below HR0_5.out HB.out) | (with_reducible refine Kd.C_alloc ?_ _) | (with_reducible refine Kd.C_drewN ?_ _) | (with_reducible refine Kd.C_drew ?_)))
                  (case side2 => exact HC0_5.out)
                  (case side3 => repeat (first | exact (Kd.C_below HR0_6.out HB.out) | (with_reducible refine Kd.C_alloc ?_ _) | (with_reducible refine Kd.C_drewN ?_ _) | (with_reducible refine Kd.C_drew ?_)))
                  (case side4 => exact HC0_6.out)
                  rintro e w51 ⟨rfl, hb⟩
                  refine ⟨_, rfl, ?_⟩
                  have n0_ := Aside0.mk (Kd.R_below (by (with_reducible repeat (first | apply Kd.R_alloc | apply Kd.R_drewN | apply Kd.R_drew)); exact HO389.out) hb)
                  have n1_ := Aside0.mk (Kd.R_below (by (with_reducible repeat (first | apply Kd.R_alloc | apply Kd.R_drewN | apply Kd.R_drew)); exact HO392.out) hb)
                  have n2_ := Aside0.mk (Kd.Q_below (by (with_reducible repeat (first | apply Kd.Q_alloc | apply Kd.Q_drewN | apply Kd.Q_drew)); exact HO403.out) hb)
                  have n3_ := Aside0.mk (Kd.Q_below (by (with_reducible repeat (first | apply Kd.Q_alloc | apply Kd.Q_drewN | apply Kd.Q_drew)); exact HO406.out) hb)
                  have n4_ := Aside0.mk (blk_below (g := gb379) (o := .cells #[.int .i64 a0_0, .int .i64 a0_1, .int .i64 a0_2, .int .i64 a0_3, .int .i64 a0_4, .slice A0_5 l0_5.length c0_5, .slice A0_6 l0_6.length c0_6] 29 (0, 0)) (by (with_reducible repeat (first | refine blk_drewN ?_ _ | refine blk_drew ?_ | refine blk_alloc ?_ _)); exact BK379.out) hb)
                  have n5_ := Aside0.mk (blk_below (g := gb380) (o := .cells #[.int .i64 a1_0, .int .i64 a1_1] 40 (0, 0)) (by (with_reducible repeat (first | refine blk_drewN ?_ _ | refine blk_drew ?_ | refine blk_alloc ?_ _)); exact BK380.out) hb)
                  have n6_ := Aside0.mk (blk_below (g := gb395) (o := .cells #[.int .i64 t382, .int .i64 t383, .int .i64 t384, .int .i64 t385, .int .i64 t386, .slice Ao35 t387.length co35, .slice Ao36 t390.length co36] 29 (0, 0)) (by (with_reducible repeat (first | refine blk_drewN ?_ _ | refine blk_drew ?_ | refine blk_alloc ?_ _)); exact BK395.out) hb)
                  have n7_ := Aside0.mk (blk_below (g := gb409) (o := .cells #[.int .i64 t396, .int .i64 t397, .int .i64 t398, .int .i64 t399, .int .i64 t400, .slice Ao45 t401.length co45, .slice Ao46 t404.length co46] 29 (0, 0)) (by (with_reducible repeat (first | refine blk_drewN ?_ _ | refine blk_drew ?_ | refine blk_alloc ?_ _)); exact BK409.out) hb)
                  have n8_ := Aside0.mk (below_step (by repeat (first | (with_reducible first | exact HB.out | apply below_alloc | apply pw_below_drewN | apply below_drew1 | refine below_set ?_ GE379.out | refine below_set ?_ GE380.out | refine below_set ?_ GE395.out | refine below_set ?_ GE409.out) | exact HB.out)) hb)
                  clear HO389
                  clear HO392
                  clear HO403
                  clear HO406
                  clear BK379
                  clear BK380
                  clear BK395
                  clear BK409
                  clear HB
                  have HO389 := n0_
                  have HO392 := n1_
                  have HO403 := n2_
                  have HO406 := n3_
                  have BK379 := n4_
                  have BK380 := n5_
                  have BK395 := n6_
                  have BK409 := n7_
                  have HB := n8_
                  clear n0_ n1_ n2_ n3_ n4_ n5_ n6_ n7_ n8_
                  (try clear hb)
                  (try clear hb2)
                  (try clear hk)
                  (try clear hi)
                  refine hK.out _ _ ⟨(blk_cell BK379.out 0).trans rfl, (blk_cell BK379.out 1).trans rfl, (blk_cell BK379.out 2).trans rfl, (blk_cell BK379.out 3).trans rfl, (blk_cell BK379.out 4).trans rfl, (blk_cell BK379.out 5).trans rfl, (blk_cell BK379.out 6).trans rfl, (blk_cell BK395.out 0).trans rfl, (blk_cell BK395.out 1).trans rfl, (blk_cell BK395.out 2).trans rfl, (blk_cell BK395.out 3).trans rfl, (blk_cell BK395.out 4).trans rfl, (blk_cell BK395.out 5).trans rfl, (blk_cell BK395.out 6).trans rfl, (blk_cell BK409.out 0).trans rfl, (blk_cell BK409.out 1).trans rfl, (blk_cell BK409.out 2).trans rfl, (blk_cell BK409.out 3).trans rfl, (blk_cell BK409.out 4).trans rfl, (blk_cell BK409.out 5).trans rfl, (blk_cell BK409.out 6).trans rfl⟩ (fun hHeld => ?_)
                  clear hK K
                  refine norm_ (a' := ?_) ?_ ?_
                  rotate_left
                  · show Act.put _ (some 41) _ = _
                    simp only [Act.put, List.setIfInBounds_toArray, List.set_cons_zero, List.set_cons_succ, i64_w, i32_w]
                    rfl
                  refine pure_ (i := 6) (N := some 42) (v := ?_) (a' := ?_) #[true, true, true, true, true, true, true, false, false, false, false, false, false, false, false, false, false, false, false, false, false, false, false, false, false, false, false, false, false, false, false] rfl rfl (any_of HT_.out (by kernel_rfl)) (fun _ _ _ h => h) (Or.inl ⟨by rfl, ?_⟩) ?_ ?_
                  rotate_left
                  · intro w'
                    go_simp
                    with_reducible rfl
                  rotate_left
                  · simp only [Act.put, List.setIfInBounds_toArray, List.set_cons_zero, List.set_cons_succ, i64_w, i32_w]
                    rfl
                  refine pure_ (i := 7) (N := some 43) (v := ?_) (a' := ?_) #[true, true, true, true, true, true, true, true, false, false, false, false, false, false, false, false, false, false, false, false, false, false, false, false, false, false, false, false, false, false, false] rfl rfl (any_of HT_.out (by kernel_rfl)) (fun _ _ _ h => h) (Or.inl ⟨by rfl, ?_⟩) ?_ ?_
                  rotate_left
                  · intro w'
                    go_simp
                    with_reducible rfl
                  rotate_left
                  · simp only [Act.put, List.setIfInBounds_toArray, List.set_cons_zero, List.set_cons_succ, i64_w, i32_w]
                    rfl
                  refine pure_ (i := 8) (N := some 44) (v := ?_) (a' := ?_) #[true, true, true, true, true, true, true, true, true, false, false, false, false, false, false, false, false, false, false, false, false, false, false, false, false, false, false, false, false, false, false] rfl rfl (any_of HT_.out (by kernel_rfl)) (fun _ _ _ h => h) (Or.inl ⟨by rfl, ?_⟩) ?_ ?_
                  rotate_left
                  · intro w'
                    go_simp
                    with_reducible rfl
                  rotate_left
                  · simp only [Act.put, List.setIfInBounds_toArray, List.set_cons_zero, List.set_cons_succ, i64_w, i32_w]
                    rfl
                  refine take_ (i := 9) (N := some 45) (v := ?_) (a' := ?_) #[true, true, true, true, true, true, true, true, true, true, false, false, false, false, false, false, false, false, false, false, false, false, false, false, false, false, false, false, false, false, false] rfl rfl (take_ofW HT_.out HW_.out (by kernel_rfl)) (fun _ _ _ h => h) (Or.inl ⟨by rfl, ?_⟩) hHeld ?_ ?_
                  rotate_left
                  · rintro w' ⟨s0, s1, s2, s3, s4, s5, s6, s7, s8, s9, s10, s11, s12, s13, s14, s15, s16, s17, s18, s19, s20⟩
                    go_simp
                    with_reducible rfl
                  rotate_left
                  · simp only [Act.put, List.setIfInBounds_toArray, List.set_cons_zero, List.set_cons_succ, i64_w, i32_w]
                    rfl
                  refine take_ (i := 11) (N := some 47) (v := ?_) (a' := ?_) #[true, true, true, true, true, true, true, true, true, true, false, true, false, false, false, false, false, false, false, false, false, false, false, false, false, false, false, false, false, false, false] rfl rfl (take_ofW HT_.out HW_.out (by kernel_rfl)) (fun _ _ _ h => h) (Or.inl ⟨by rfl, ?_⟩) hHeld ?_ ?_
                  rotate_left
                  · rintro w' ⟨s0, s1, s2, s3, s4, s5, s6, s7, s8, s9, s10, s11, s12, s13, s14, s15, s16, s17, s18, s19, s20⟩
                    go_simp
                    with_reducible rfl
                  rotate_left
                  · simp only [Act.put, List.setIfInBounds_toArray, List.set_cons_zero, List.set_cons_succ, i64_w, i32_w]
                    rfl
                  refine one_ (i := 10) (N := some 46) #[true, true, true, true, true, true, true, true, true, true, true, true, false, false, false, false, false, false, false, false, false, false, false, false, false, false, false, false, false, false, false] rfl rfl (one_of HT_.out (by kernel_rfl)) (by decide) (fun K hK => ?_)
                  refine goes_ Try.func21 (by kernel_rfl) rfl #[.agg #[.int .i64 a0_0, .int .i64 a0_1, .int .i64 a0_2, .int .i64 a0_3, .int .i64 a0_4, .slice A0_5 l0_5.length c0_5, .slice A0_6 l0_6.length c0_6]] (by rfl) rfl rfl (by (try simp only [List.map_toArray, List.map_cons, List.map_nil]); first | done | rfl | (simp only [List.length_drop, List.length_take]; rfl)) ?_
                  with_reducible refine (datalink_Aligned.calls a0_0 a0_1 a0_2 a0_3 a0_4 _ _ l0_5 _ _ l0_6 t413 _ ?side1 ?side2 ?side3 ?side4 A21.out).mono ?_
                  (case side1 => repeat (first | exact (Kd.C_below HR0_5.out HB.out) | (with_reducible refine Kd.C_alloc ?_ _) | (with_reducible refine Kd.C_drewN ?_ _) | (with_reducible refine Kd.C_drew ?_)))
                  (case side2 => exact HC0_5.out)
                  (case side3 => repeat (first | exact (Kd.C_below HR0_6.out HB.out) | (with_reducible refine Kd.C_alloc ?_ _) | (with_reducible refine Kd.C_drewN ?_ _) | (with_reducible refine Kd.C_drew ?_)))
                  (case side4 => exact HC0_6.out)
                  rintro e w52 ⟨rfl, hb⟩
                  refine ⟨_, rfl, ?_⟩
                  have n0_ := Aside0.mk (Kd.R_below (by (with_reducible repeat (first | apply Kd.R_alloc | apply Kd.R_drewN | apply Kd.R_drew)); exact HO389.out) hb)
                  have n1_ := Aside0.mk (Kd.R_below (by (with_reducible repeat (first | apply Kd.R_alloc | apply Kd.R_drewN | apply Kd.R_drew)); exact HO392.out) hb)
                  have n2_ := Aside0.mk (Kd.Q_below (by (with_reducible repeat (first | apply Kd.Q_alloc | apply Kd.Q_drewN | apply Kd.Q_drew)); exact HO403.out) hb)
                  have n3_ := Aside0.mk (Kd.Q_below (by (with_reducible repeat (first | apply Kd.Q_alloc | apply Kd.Q_drewN | apply Kd.Q_drew)); exact HO406.out) hb)
                  have n4_ := Aside0.mk (blk_below (g := gb379) (o := .cells #[.int .i64 a0_0, .int .i64 a0_1, .int .i64 a0_2, .int .i64 a0_3, .int .i64 a0_4, .slice A0_5 l0_5.length c0_5, .slice A0_6 l0_6.length c0_6] 29 (0, 0)) (by (with_reducible repeat (first | refine blk_drewN ?_ _ | refine blk_drew ?_ | refine blk_alloc ?_ _)); exact BK379.out) hb)
                  have n5_ := Aside0.mk (blk_below (g := gb380) (o := .cells #[.int .i64 a1_0, .int .i64 a1_1] 40 (0, 0)) (by (with_reducible repeat (first | refine blk_drewN ?_ _ | refine blk_drew ?_ | refine blk_alloc ?_ _)); exact BK380.out) hb)
                  have n6_ := Aside0.mk (blk_below (g := gb395) (o := .cells #[.int .i64 t382, .int .i64 t383, .int .i64 t384, .int .i64 t385, .int .i64 t386, .slice Ao35 t387.length co35, .slice Ao36 t390.length co36] 29 (0, 0)) (by (with_reducible repeat (first | refine blk_drewN ?_ _ | refine blk_drew ?_ | refine blk_alloc ?_ _)); exact BK395.out) hb)
                  have n7_ := Aside0.mk (blk_below (g := gb409) (o := .cells #[.int .i64 t396, .int .i64 t397, .int .i64 t398, .int .i64 t399, .int .i64 t400, .slice Ao45 t401.length co45, .slice Ao46 t404.length co46] 29 (0, 0)) (by (with_reducible repeat (first | refine blk_drewN ?_ _ | refine blk_drew ?_ | refine blk_alloc ?_ _)); exact BK409.out) hb)
                  have n8_ := Aside0.mk (below_step (by repeat (first | (with_reducible first | exact HB.out | apply below_alloc | apply pw_below_drewN | apply below_drew1 | refine below_set ?_ GE379.out | refine below_set ?_ GE380.out | refine below_set ?_ GE395.out | refine below_set ?_ GE409.out) | exact HB.out)) hb)
                  clear HO389
                  clear HO392
                  clear HO403
                  clear HO406
                  clear BK379
                  clear BK380
                  clear BK395
                  clear BK409
                  clear HB
                  have HO389 := n0_
                  have HO392 := n1_
                  have HO403 := n2_
                  have HO406 := n3_
                  have BK379 := n4_
                  have BK380 := n5_
                  have BK395 := n6_
                  have BK409 := n7_
                  have HB := n8_
                  clear n0_ n1_ n2_ n3_ n4_ n5_ n6_ n7_ n8_
                  (try clear hb)
                  (try clear hb2)
                  (try clear hk)
                  (try clear hi)
                  refine hK.out _ _ ⟨(blk_cell BK379.out 0).trans rfl, (blk_cell BK379.out 1).trans rfl, (blk_cell BK379.out 2).trans rfl, (blk_cell BK379.out 3).trans rfl, (blk_cell BK379.out 4).trans rfl, (blk_cell BK379.out 5).trans rfl, (blk_cell BK379.out 6).trans rfl, (blk_cell BK395.out 0).trans rfl, (blk_cell BK395.out 1).trans rfl, (blk_cell BK395.out 2).trans rfl, (blk_cell BK395.out 3).trans rfl, (blk_cell BK395.out 4).trans rfl, (blk_cell BK395.out 5).trans rfl, (blk_cell BK395.out 6).trans rfl, (blk_cell BK409.out 0).trans rfl, (blk_cell BK409.out 1).trans rfl, (blk_cell BK409.out 2).trans rfl, (blk_cell BK409.out 3).trans rfl, (blk_cell BK409.out 4).trans rfl, (blk_cell BK409.out 5).trans rfl, (blk_cell BK409.out 6).trans rfl⟩ (fun hHeld => ?_)
                  clear hK K
                  refine norm_ (a' := ?_) ?_ ?_
                  rotate_left
                  · show Act.put _ (some 46) _ = _
                    simp only [Act.put, List.setIfInBounds_toArray, List.set_cons_zero, List.set_cons_succ, i64_w, i32_w]
                    rfl
                  refine one_ (i := 12) (N := some 48) #[true, true, true, true, true, true, true, true, true, true, true, true, true, false, false, false, false, false, false, false, false, false, false, false, false, false, false, false, false, false, false] rfl rfl (one_of HT_.out (by kernel_rfl)) (by decide) (fun K hK => ?_)
                  refine goes_ Try.func22 (by kernel_rfl) rfl #[.agg #[.int .i64 a0_0, .int .i64 a0_1, .int .i64 a0_2, .int .i64 a0_3, .int .i64 a0_4, .slice A0_5 l0_5.length c0_5, .slice A0_6 l0_6.length c0_6]] (by rfl) rfl rfl (by (try simp only [List.map_toArray, List.map_cons, List.map_nil]); first | done | rfl | (simp only [List.length_drop, List.length_take]; rfl)) ?_
                  with_reducible refine (selfstabref42_Aligned.calls kj2 a0_0 a0_1 a0_2 a0_3 a0_4 _ _ l0_5 _ _ l0_6 t414 _ ?side1 ?side2 ?side3 ?side4 A22.out).mono ?_
                  (case side1 => repeat (first | exact (Kd.C_below HR0_5.out HB.out) | (with_reducible refine Kd.C_alloc ?_ _) | (with_reducible refine Kd.C_drewN ?_ _) | (with_reducible refine Kd.C_drew ?_)))
                  (case side2 => exact HC0_5.out)
                  (case side3 => repeat (first | exact (Kd.C_below HR0_6.out HB.out) | (with_reducible refine Kd.C_alloc ?_ _) | (with_reducible refine Kd.C_drewN ?_ _) | (with_reducible refine Kd.C_drew ?_)))
                  (case side4 => exact HC0_6.out)
                  rintro e w53 ⟨rfl, hb⟩
                  refine ⟨_, rfl, ?_⟩
                  have n0_ := Aside0.mk (Kd.R_below (by (with_reducible repeat (first | apply Kd.R_alloc | apply Kd.R_drewN | apply Kd.R_drew)); exact HO389.out) hb)
                  have n1_ := Aside0.mk (Kd.R_below (by (with_reducible repeat (first | apply Kd.R_alloc | apply Kd.R_drewN | apply Kd.R_drew)); exact HO392.out) hb)
                  have n2_ := Aside0.mk (Kd.Q_below (by (with_reducible repeat (first | apply Kd.Q_alloc | apply Kd.Q_drewN | apply Kd.Q_drew)); exact HO403.out) hb)
                  have n3_ := Aside0.mk (Kd.Q_below (by (with_reducible repeat (first | apply Kd.Q_alloc | apply Kd.Q_drewN | apply Kd.Q_drew)); exact HO406.out) hb)
                  have n4_ := Aside0.mk (blk_below (g := gb379) (o := .cells #[.int .i64 a0_0, .int .i64 a0_1, .int .i64 a0_2, .int .i64 a0_3, .int .i64 a0_4, .slice A0_5 l0_5.length c0_5, .slice A0_6 l0_6.length c0_6] 29 (0, 0)) (by (with_reducible repeat (first | refine blk_drewN ?_ _ | refine blk_drew ?_ | refine blk_alloc ?_ _)); exact BK379.out) hb)
                  have n5_ := Aside0.mk (blk_below (g := gb380) (o := .cells #[.int .i64 a1_0, .int .i64 a1_1] 40 (0, 0)) (by (with_reducible repeat (first | refine blk_drewN ?_ _ | refine blk_drew ?_ | refine blk_alloc ?_ _)); exact BK380.out) hb)
                  have n6_ := Aside0.mk (blk_below (g := gb395) (o := .cells #[.int .i64 t382, .int .i64 t383, .int .i64 t384, .int .i64 t385, .int .i64 t386, .slice Ao35 t387.length co35, .slice Ao36 t390.length co36] 29 (0, 0)) (by (with_reducible repeat (first | refine blk_drewN ?_ _ | refine blk_drew ?_ | refine blk_alloc ?_ _)); exact BK395.out) hb)
                  have n7_ := Aside0.mk (blk_below (g := gb409) (o := .cells #[.int .i64 t396, .int .i64 t397, .int .i64 t398, .int .i64 t399, .int .i64 t400, .slice Ao45 t401.length co45, .slice Ao46 t404.length co46] 29 (0, 0)) (by (with_reducible repeat (first | refine blk_drewN ?_ _ | refine blk_drew ?_ | refine blk_alloc ?_ _)); exact BK409.out) hb)
                  have n8_ := Aside0.mk (below_step (by repeat (first | (with_reducible first | exact HB.out | apply below_alloc | apply pw_below_drewN | apply below_drew1 | refine below_set ?_ GE379.out | refine below_set ?_ GE380.out | refine below_set ?_ GE395.out | refine below_set ?_ GE409.out) | exact HB.out)) hb)
                  clear HO389
                  clear HO392
                  clear HO403
                  clear HO406
                  clear BK379
                  clear BK380
                  clear BK395
                  clear BK409
                  clear HB
                  have HO389 := n0_
                  have HO392 := n1_
                  have HO403 := n2_
                  have HO406 := n3_
                  have BK379 := n4_
                  have BK380 := n5_
                  have BK395 := n6_
                  have BK409 := n7_
                  have HB := n8_
                  clear n0_ n1_ n2_ n3_ n4_ n5_ n6_ n7_ n8_
                  (try clear hb)
                  (try clear hb2)
                  (try clear hk)
                  (try clear hi)
                  refine hK.out _ _ ⟨(blk_cell BK379.out 0).trans rfl, (blk_cell BK379.out 1).trans rfl, (blk_cell BK379.out 2).trans rfl, (blk_cell BK379.out 3).trans rfl, (blk_cell BK379.out 4).trans rfl, (blk_cell BK379.out 5).trans rfl, (blk_cell BK379.out 6).trans rfl, (blk_cell BK395.out 0).trans rfl, (blk_cell BK395.out 1).trans rfl, (blk_cell BK395.out 2).trans rfl, (blk_cell BK395.out 3).trans rfl, (blk_cell BK395.out 4).trans rfl, (blk_cell BK395.out 5).trans rfl, (blk_cell BK395.out 6).trans rfl, (blk_cell BK409.out 0).trans rfl, (blk_cell BK409.out 1).trans rfl, (blk_cell BK409.out 2).trans rfl, (blk_cell BK409.out 3).trans rfl, (blk_cell BK409.out 4).trans rfl, (blk_cell BK409.out 5).trans rfl, (blk_cell BK409.out 6).trans rfl⟩ (fun hHeld => ?_)
                  clear hK K
                  refine norm_ (a' := ?_) ?_ ?_
                  rotate_left
                  · show Act.put _ (some 48) _ = _
                    simp only [Act.put, List.setIfInBounds_toArray, List.set_cons_zero, List.set_cons_succ, i64_w, i32_w]
                    rfl
                  refine pure_ (i := 13) (N := some 49) (v := ?_) (a' := ?_) #[true, true, true, true, true, true, true, true, true, true, true, true, true, true, false, false, false, false, false, false, false, false, false, false, false, false, false, false, false, false, false] rfl rfl (any_of HT_.out (by kernel_rfl)) (fun _ _ _ h => h) (Or.inl ⟨by rfl, ?_⟩) ?_ ?_
                  rotate_left
                  · intro w'
                    go_simp
                    with_reducible rfl
                  rotate_left
                  · simp only [Act.put, List.setIfInBounds_toArray, List.set_cons_zero, List.set_cons_succ, i64_w, i32_w]
                    rfl
                  refine pure_ (i := 14) (N := some 50) (v := ?_) (a' := ?_) #[true, true, true, true, true, true, true, true, true, true, true, true, true, true, true, false, false, false, false, false, false, false, false, false, false, false, false, false, false, false, false] rfl rfl (any_of HT_.out (by kernel_rfl)) (fun _ _ _ h => h) (Or.inl ⟨by rfl, ?_⟩) ?_ ?_
                  rotate_left
                  · intro w'
                    go_simp
                    with_reducible rfl
                  rotate_left
                  · simp only [Act.put, List.setIfInBounds_toArray, List.set_cons_zero, List.set_cons_succ, i64_w, i32_w]
                    rfl
                  refine pure_ (i := 15) (N := some 51) (v := ?_) (a' := ?_) #[true, true, true, true, true, true, true, true, true, true, true, true, true, true, true, true, false, false, false, false, false, false, false, false, false, false, false, false, false, false, false] rfl rfl (any_of HT_.out (by kernel_rfl)) (fun _ _ _ h => h) (Or.inl ⟨by rfl, ?_⟩) ?_ ?_
                  rotate_left
                  · intro w'
                    go_simp
                    with_reducible rfl
                  rotate_left
                  · simp only [Act.put, List.setIfInBounds_toArray, List.set_cons_zero, List.set_cons_succ, i64_w, i32_w]
                    rfl
                  refine take_ (i := 16) (N := some 52) (v := ?_) (a' := ?_) #[true, true, true, true, true, true, true, true, true, true, true, true, true, true, true, true, true, false, false, false, false, false, false, false, false, false, false, false, false, false, false] rfl rfl (take_ofW HT_.out HW_.out (by kernel_rfl)) (fun _ _ _ h => h) (Or.inl ⟨by rfl, ?_⟩) hHeld ?_ ?_
                  rotate_left
                  · rintro w' ⟨s0, s1, s2, s3, s4, s5, s6, s7, s8, s9, s10, s11, s12, s13, s14, s15, s16, s17, s18, s19, s20⟩
                    go_simp
                    with_reducible rfl
                  rotate_left
                  · simp only [Act.put, List.setIfInBounds_toArray, List.set_cons_zero, List.set_cons_succ, i64_w, i32_w]
                    rfl
                  refine take_ (i := 17) (N := some 53) (v := ?_) (a' := ?_) #[true, true, true, true, true, true, true, true, true, true, true, true, true, true, true, true, true, true, false, false, false, false, false, false, false, false, false, false, false, false, false] rfl rfl (take_ofW HT_.out HW_.out (by kernel_rfl)) (fun _ _ _ h => h) (Or.inl ⟨by rfl, ?_⟩) hHeld ?_ ?_
                  rotate_left
                  · rintro w' ⟨s0, s1, s2, s3, s4, s5, s6, s7, s8, s9, s10, s11, s12, s13, s14, s15, s16, s17, s18, s19, s20⟩
                    go_simp
                    with_reducible rfl
                  rotate_left
                  · simp only [Act.put, List.setIfInBounds_toArray, List.set_cons_zero, List.set_cons_succ, i64_w, i32_w]
                    rfl
                  refine one_ (i := 18) (N := some 54) #[true, true, true, true, true, true, true, true, true, true, true, true, true, true, true, true, true, true, true, false, false, false, false, false, false, false, false, false, false, false, false] rfl rfl (one_of HT_.out (by kernel_rfl)) (by decide) (fun K hK => ?_)
                  refine goes_ Try.func15 (by kernel_rfl) rfl #[.agg #[.int .i64 t382, .int .i64 t383, .int .i64 t384, .int .i64 t385, .int .i64 t386, .slice Ao35 t387.length co35, .slice Ao36 t390.length co36], .agg #[.int .i64 t396, .int .i64 t397, .int .i64 t398, .int .i64 t399, .int .i64 t400, .slice Ao45 t401.length co45, .slice Ao46 t404.length co46]] (by rfl) rfl rfl (by (try simp only [List.map_toArray, List.map_cons, List.map_nil]); first | done | rfl | (simp only [List.length_drop, List.length_take]; rfl)) ?_
                  with_reducible refine (selfstabref42_Same.calls kj2 t382 t383 t384 t385 t386 _ _ t387 _ _ t390 t396 t397 t398 t399 t400 _ _ t401 _ _ t404 true _ ?side1 ?side2 ?side3 ?side4 ?side5 ?side6 ?side7 ?side8 A24.out).mono ?_
                  (case side1 => repeat (first | exact (Kd.R_reads' HO389.out).2.2 | (with_reducible refine Kd.C_alloc ?_ _) | (with_reducible refine Kd.C_drewN ?_ _) | (with_reducible refine Kd.C_drew ?_)))
                  (case side2 => exact (Kd.R_reads' HO389.out).2.1)
                  (case side3 => repeat (first | exact (Kd.R_reads' HO392.out).2.2 | (with_reducible refine Kd.C_alloc ?_ _) | (with_reducible refine Kd.C_drewN ?_ _) | (with_reducible refine Kd.C_drew ?_)))
                  (case side4 => exact (Kd.R_reads' HO392.out).2.1)
                  (case side5 => repeat (first | exact (Kd.Q_reads' HO403.out).2.2 | (with_reducible refine Kd.C_alloc ?_ _) | (with_reducible refine Kd.C_drewN ?_ _) | (with_reducible refine Kd.C_drew ?_)))
                  (case side6 => exact (Kd.Q_reads' HO403.out).2.1)
                  (case side7 => repeat (first | exact (Kd.Q_reads' HO406.out).2.2 | (with_reducible refine Kd.C_alloc ?_ _) | (with_reducible refine Kd.C_drewN ?_ _) | (with_reducible refine Kd.C_drew ?_)))
                  (case side8 => exact (Kd.Q_reads' HO406.out).2.1)
                  rintro e w54 ⟨rfl, hb⟩
                  refine ⟨_, rfl, ?_⟩
                  have n0_ := Aside0.mk (Kd.R_below (by (with_reducible repeat (first | apply Kd.R_alloc | apply Kd.R_drewN | apply Kd.R_drew)); exact HO389.out) hb)
                  have n1_ := Aside0.mk (Kd.R_below (by (with_reducible repeat (first | apply Kd.R_alloc | apply Kd.R_drewN | apply Kd.R_drew)); exact HO392.out) hb)
                  have n2_ := Aside0.mk (Kd.Q_below (by (with_reducible repeat (first | apply Kd.Q_alloc | apply Kd.Q_drewN | apply Kd.Q_drew)); exact HO403.out) hb)
                  have n3_ := Aside0.mk (Kd.Q_below (by (with_reducible repeat (first | apply Kd.Q_alloc | apply Kd.Q_drewN | apply Kd.Q_drew)); exact HO406.out) hb)
                  have n4_ := Aside0.mk (blk_below (g := gb379) (o := .cells #[.int .i64 a0_0, .int .i64 a0_1, .int .i64 a0_2, .int .i64 a0_3, .int .i64 a0_4, .slice A0_5 l0_5.length c0_5, .slice A0_6 l0_6.length c0_6] 29 (0, 0)) (by (with_reducible repeat (first | refine blk_drewN ?_ _ | refine blk_drew ?_ | refine blk_alloc ?_ _)); exact BK379.out) hb)
                  have n5_ := Aside0.mk (blk_below (g := gb380) (o := .cells #[.int .i64 a1_0, .int .i64 a1_1] 40 (0, 0)) (by (with_reducible repeat (first | refine blk_drewN ?_ _ | refine blk_drew ?_ | refine blk_alloc ?_ _)); exact BK380.out) hb)
                  have n6_ := Aside0.mk (blk_below (g := gb395) (o := .cells #[.int .i64 t382, .int .i64 t383, .int .i64 t384, .int .i64 t385, .int .i64 t386, .slice Ao35 t387.length co35, .slice Ao36 t390.length co36] 29 (0, 0)) (by (with_reducible repeat (first | refine blk_drewN ?_ _ | refine blk_drew ?_ | refine blk_alloc ?_ _)); exact BK395.out) hb)
                  have n7_ := Aside0.mk (blk_below (g := gb409) (o := .cells #[.int .i64 t396, .int .i64 t397, .int .i64 t398, .int .i64 t399, .int .i64 t400, .slice Ao45 t401.length co45, .slice Ao46 t404.length co46] 29 (0, 0)) (by (with_reducible repeat (first | refine blk_drewN ?_ _ | refine blk_drew ?_ | refine blk_alloc ?_ _)); exact BK409.out) hb)
                  have n8_ := Aside0.mk (below_step (by repeat (first | (with_reducible first | exact HB.out | apply below_alloc | apply pw_below_drewN | apply below_drew1 | refine below_set ?_ GE379.out | refine below_set ?_ GE380.out | refine below_set ?_ GE395.out | refine below_set ?_ GE409.out) | exact HB.out)) hb)
                  clear HO389
                  clear HO392
                  clear HO403
                  clear HO406
                  clear BK379
                  clear BK380
                  clear BK395
                  clear BK409
                  clear HB
                  have HO389 := n0_
                  have HO392 := n1_
                  have HO403 := n2_
                  have HO406 := n3_
                  have BK379 := n4_
                  have BK380 := n5_
                  have BK395 := n6_
                  have BK409 := n7_
                  have HB := n8_
                  clear n0_ n1_ n2_ n3_ n4_ n5_ n6_ n7_ n8_
                  (try clear hb)
                  (try clear hb2)
                  (try clear hk)
                  (try clear hi)
                  refine hK.out _ _ ⟨(blk_cell BK379.out 0).trans rfl, (blk_cell BK379.out 1).trans rfl, (blk_cell BK379.out 2).trans rfl, (blk_cell BK379.out 3).trans rfl, (blk_cell BK379.out 4).trans rfl, (blk_cell BK379.out 5).trans rfl, (blk_cell BK379.out 6).trans rfl, (blk_cell BK395.out 0).trans rfl, (blk_cell BK395.out 1).trans rfl, (blk_cell BK395.out 2).trans rfl, (blk_cell BK395.out 3).trans rfl, (blk_cell BK395.out 4).trans rfl, (blk_cell BK395.out 5).trans rfl, (blk_cell BK395.out 6).trans rfl, (blk_cell BK409.out 0).trans rfl, (blk_cell BK409.out 1).trans rfl, (blk_cell BK409.out 2).trans rfl, (blk_cell BK409.out 3).trans rfl, (blk_cell BK409.out 4).trans rfl, (blk_cell BK409.out 5).trans rfl, (blk_cell BK409.out 6).trans rfl⟩ (fun hHeld => ?_)
                  clear hK K
                  refine norm_ (a' := ?_) ?_ ?_
                  rotate_left
                  · show Act.put _ (some 54) _ = _
                    simp only [Act.put, List.setIfInBounds_toArray, List.set_cons_zero, List.set_cons_succ, i64_w, i32_w]
                    rfl
                  refine pure_ (i := 19) (N := some 55) (v := ?_) (a' := ?_) #[true, true, true, true, true, true, true, true, true, true, true, true, true, true, true, true, true, true, true, true, false, false, false, false, false, false, false, false, false, false, false] rfl rfl (any_of HT_.out (by kernel_rfl)) (fun _ _ _ h => h) (Or.inl ⟨by rfl, ?_⟩) ?_ ?_
                  rotate_left
                  · intro w'
                    go_simp
                    with_reducible rfl
                  rotate_left
                  · simp only [Act.put, List.setIfInBounds_toArray, List.set_cons_zero, List.set_cons_succ, i64_w, i32_w]
                    rfl
                  refine pure_ (i := 20) (N := some 56) (v := ?_) (a' := ?_) #[true, true, true, true, true, true, true, true, true, true, true, true, true, true, true, true, true, true, true, true, true, false, false, false, false, false, false, false, false, false, false] rfl rfl (any_of HT_.out (by kernel_rfl)) (fun _ _ _ h => h) (Or.inl ⟨by rfl, ?_⟩) ?_ ?_
                  rotate_left
                  · intro w'
                    go_simp
                    with_reducible rfl
                  rotate_left
                  · simp only [Act.put, List.setIfInBounds_toArray, List.set_cons_zero, List.set_cons_succ, i64_w, i32_w]
                    rfl
                  refine pure_ (i := 21) (N := some 57) (v := ?_) (a' := ?_) #[true, true, true, true, true, true, true, true, true, true, true, true, true, true, true, true, true, true, true, true, true, true, false, false, false, false, false, false, false, false, false] rfl rfl (any_of HT_.out (by kernel_rfl)) (fun _ _ _ h => h) (Or.inl ⟨by rfl, ?_⟩) ?_ ?_
                  rotate_left
                  · intro w'
                    go_simp
                    with_reducible rfl
                  rotate_left
                  · simp only [Act.put, List.setIfInBounds_toArray, List.set_cons_zero, List.set_cons_succ, i64_w, i32_w]
                    rfl
                  refine pure_ (i := 22) (N := some 58) (v := ?_) (a' := ?_) #[true, true, true, true, true, true, true, true, true, true, true, true, true, true, true, true, true, true, true, true, true, true, true, false, false, false, false, false, false, false, false] rfl rfl (any_of HT_.out (by kernel_rfl)) (fun _ _ _ h => h) (Or.inl ⟨by rfl, ?_⟩) ?_ ?_
                  rotate_left
                  · intro w'
                    go_simp
                    with_reducible rfl
                  rotate_left
                  · simp only [Act.put, List.setIfInBounds_toArray, List.set_cons_zero, List.set_cons_succ, i64_w, i32_w]
                    rfl
                  refine pure_ (i := 23) (N := some 59) (v := ?_) (a' := ?_) #[true, true, true, true, true, true, true, true, true, true, true, true, true, true, true, true, true, true, true, true, true, true, true, true, false, false, false, false, false, false, false] rfl rfl (any_of HT_.out (by kernel_rfl)) (fun _ _ _ h => h) (Or.inl ⟨by rfl, ?_⟩) ?_ ?_
                  rotate_left
                  · intro w'
                    go_simp
                    with_reducible rfl
                  rotate_left
                  · simp only [Act.put, List.setIfInBounds_toArray, List.set_cons_zero, List.set_cons_succ, i64_w, i32_w]
                    rfl
                  refine pure_ (i := 24) (N := some 60) (v := ?_) (a' := ?_) #[true, true, true, true, true, true, true, true, true, true, true, true, true, true, true, true, true, true, true, true, true, true, true, true, true, false, false, false, false, false, false] rfl rfl (any_of HT_.out (by kernel_rfl)) (fun _ _ _ h => h) (Or.inl ⟨by rfl, ?_⟩) ?_ ?_
                  rotate_left
                  · intro w'
                    go_simp
                    with_reducible rfl
                  rotate_left
                  · simp only [Act.put, List.setIfInBounds_toArray, List.set_cons_zero, List.set_cons_succ, i64_w, i32_w]
                    rfl
                  refine pure_ (i := 25) (N := some 61) (v := ?_) (a' := ?_) #[true, true, true, true, true, true, true, true, true, true, true, true, true, true, true, true, true, true, true, true, true, true, true, true, true, true, false, false, false, false, false] rfl rfl (any_of HT_.out (by kernel_rfl)) (fun _ _ _ h => h) (Or.inl ⟨by rfl, ?_⟩) ?_ ?_
                  rotate_left
                  · intro w'
                    go_simp
                    with_reducible rfl
                  rotate_left
                  · simp only [Act.put, List.setIfInBounds_toArray, List.set_cons_zero, List.set_cons_succ, i64_w, i32_w]
                    rfl
                  refine pure_ (i := 26) (N := some 62) (v := ?_) (a' := ?_) #[true, true, true, true, true, true, true, true, true, true, true, true, true, true, true, true, true, true, true, true, true, true, true, true, true, true, true, false, false, false, false] rfl rfl (any_of HT_.out (by kernel_rfl)) (fun _ _ _ h => h) (Or.inl ⟨by rfl, ?_⟩) ?_ ?_
                  rotate_left
                  · intro w'
                    go_simp
                    with_reducible rfl
                  rotate_left
                  · simp only [Act.put, List.setIfInBounds_toArray, List.set_cons_zero, List.set_cons_succ, i64_w, i32_w]
                    rfl
                  refine pure_ (i := 27) (N := some 63) (v := ?_) (a' := ?_) #[true, true, true, true, true, true, true, true, true, true, true, true, true, true, true, true, true, true, true, true, true, true, true, true, true, true, true, true, false, false, false] rfl rfl (any_of HT_.out (by kernel_rfl)) (fun _ _ _ h => h) (Or.inl ⟨by rfl, ?_⟩) ?_ ?_
                  rotate_left
                  · intro w'
                    go_simp
                    with_reducible rfl
                  rotate_left
                  · simp only [Act.put, List.setIfInBounds_toArray, List.set_cons_zero, List.set_cons_succ, i64_w, i32_w]
                    rfl
                  refine pure_ (i := 28) (N := some 64) (v := ?_) (a' := ?_) #[true, true, true, true, true, true, true, true, true, true, true, true, true, true, true, true, true, true, true, true, true, true, true, true, true, true, true, true, true, false, false] rfl rfl (any_of HT_.out (by kernel_rfl)) (fun _ _ _ h => h) (Or.inl ⟨by rfl, ?_⟩) ?_ ?_
                  rotate_left
                  · intro w'
                    go_simp
                    with_reducible rfl
                  rotate_left
                  · simp only [Act.put, List.setIfInBounds_toArray, List.set_cons_zero, List.set_cons_succ, i64_w, i32_w]
                    rfl
                  refine pure_ (i := 29) (N := some 65) (v := ?_) (a' := ?_) #[true, true, true, true, true, true, true, true, true, true, true, true, true, true, true, true, true, true, true, true, true, true, true, true, true, true, true, true, true, true, false] rfl rfl (any_of HT_.out (by kernel_rfl)) (fun _ _ _ h => h) (Or.inl ⟨by rfl, ?_⟩) ?_ ?_
                  rotate_left
                  · intro w'
                    go_simp
                    with_reducible rfl
                  rotate_left
                  · simp only [Act.put, List.setIfInBounds_toArray, List.set_cons_zero, List.set_cons_succ, i64_w, i32_w]
                    rfl
                  refine pure_ (i := 30) (N := some 4) (v := ?_) (a' := ?_) #[true, true, true, true, true, true, true, true, true, true, true, true, true, true, true, true, true, true, true, true, true, true, true, true, true, true, true, true, true, true, true] rfl rfl (any_of HT_.out (by kernel_rfl)) (fun _ _ _ h => h) (Or.inl ⟨by rfl, ?_⟩) ?_ ?_
                  rotate_left
                  · intro w'
                    go_simp
                    with_reducible rfl
                  rotate_left
                  · simp only [Act.put, List.setIfInBounds_toArray, List.set_cons_zero, List.set_cons_succ, i64_w, i32_w]
                    rfl
                  refine done_ (done_of HT_.out (by kernel_rfl)) ?_
                  try go_wp2
                  go_ret
                  exact ⟨by first | rfl | (simp [errW_none, errW_some] <;> rfl) | (simp [*, errW_none, errW_some] <;> rfl), by repeat (first | (with_reducible first | exact HB.out | apply below_alloc | apply pw_below_drewN | apply below_drew1 | refine below_set ?_ GE379.out | refine below_set ?_ GE380.out | refine below_set ?_ GE395.out | refine below_set ?_ GE409.out) | exact HB.out)⟩
                · rw [if_neg c26] at H
                  have c26b0 : (t393 == t407) = false := beq_eq_false_iff_ne.mpr c26
                  have c26b1 : (t393 != t407) = true := bne_iff_ne.mpr c26
                  exact absurd H (by simp)
              · replace c25 := Bool.eq_false_iff.mpr c25
                subst c25
                have H1 : (none) = some r := by rw [if_neg (show ¬ (false = true) by decide)] at H; exact H
                clear H
                have H := H1
                clear H1
                exact absurd H (by simp)
            · rw [if_neg c23] at H
              have c23b0 : (t413 == t414) = false := by simpa using c23
              (try (have c23b1 : decide (t413 = t414) = false := by simpa using c23))
              (try (have c23b2 : (t413 == t414) = false := by simpa using c23))
              (try (have c23b3 : ¬ (t413 = t414) := by simpa using c23))
              clear c23
              exact absurd H (by simp)
          · rw [if_neg c20] at H
            have c20b0 : (t411 == t412) = false := by simpa using c20
            (try (have c20b1 : decide (t411 = t412) = false := by simpa using c20))
            (try (have c20b2 : (t411 == t412) = false := by simpa using c20))
            (try (have c20b3 : ¬ (t411 = t412) := by simpa using c20))
            clear c20
            exact absurd H (by simp)
        · replace c17 := Bool.eq_false_iff.mpr c17
          subst c17
          have H1 : (none) = some r := by rw [if_neg (show ¬ (false = true) by decide)] at H; exact H
          clear H
          have H := H1
          clear H1
          exact absurd H (by simp)

end Go.Proofs.Ytdhkplfkbdldfaa.P
