-- By a program of this session (wip/tools/myprint.py over the kit's printer). Not trusted: Lean checks it.
import Derived.Test.YtdhkplfkbdldfaaP0
import Derived.Test.YtdhkplfkbdldfaaP2
import Derived.Test.YtdhkplfkbdldfaaP4
import Derived.Test.YtdhkplfkbdldfaaP5
import Derived.Test.YtdhkplfkbdldfaaGDAligned
import Derived.Test.YtdhkplfkbdldfaaGDStep
import Derived.Test.YtdhkplfkbdldfaaGDValid
namespace Go.Proofs.Ytdhkplfkbdldfaa.P
open Go.RowKit Go.Proofs.YtdhkplfkbdldfaaW.PrintWords Go.Proofs.YtdhkplfkbdldfaaW.PrintLast Go.Proofs.YtdhkplfkbdldfaaW.PrintMore
attribute [local go_sem] max2_int min2_int max_two min_two max_three min_three max_four min_four   -- for this text's walks alone
set_option linter.unusedVariables false
set_option linter.unusedSimpArgs false

/-! ### selfstablaw42_DatalinkAligns: function 8 -/
def selfstablaw42_DatalinkAligns.l0 : Nat → Int → List (S40) → Int → Int → Int → Int → Int → Int → List (S46) → List Int → Option (Bool)
  | 0, _, _, _, _, _, _, _, _, _, _ => none
  | k + 1, x6, x7, x8, x464000, x464001, x464002, x464003, x464004, x464005, x464006 => if x8 < (x7.length : Int) then (if 0 ≤ x8 then ((datalink_Step.f x464000 x464001 x464002 x464003 x464004 x464005 x464006 ((rd_T40 x7 x8).f0) ((rd_T40 x7 x8).f1)).bind fun bt470 => (if (wrap64 (bt470.2.2.2.1 - x6)) ≥ bt470.2.1 then ((datalink_Aligned.f bt470.1 bt470.2.1 bt470.2.2.1 bt470.2.2.2.1 bt470.2.2.2.2.1 bt470.2.2.2.2.2.1 bt470.2.2.2.2.2.2.1).bind fun t483 => (if t483 = true then (selfstablaw42_DatalinkAligns.l0 k x6 x7 (wrap64 (x8 + 1)) bt470.1 bt470.2.1 bt470.2.2.1 bt470.2.2.2.1 bt470.2.2.2.2.1 bt470.2.2.2.2.2.1 bt470.2.2.2.2.2.2.1) else (none))) else (selfstablaw42_DatalinkAligns.l0 k x6 x7 (wrap64 (x8 + 1)) bt470.1 bt470.2.1 bt470.2.2.1 bt470.2.2.2.1 bt470.2.2.2.2.1 bt470.2.2.2.2.2.1 bt470.2.2.2.2.2.2.1))) else (none)) else ((selfstablaw42_known.f k).bind fun t467 => (if t467 = true then ((datalink_Valid.f x464000 x464001 x464002 x464003 x464004 x464005 x464006).bind fun t468 => (some t468)) else (none)))
def selfstablaw42_DatalinkAligns.f (k : Nat) (a0_0 : Int) (a0_1 : Int) (a0_2 : Int) (a0_3 : Int) (a0_4 : Int) (l0_5 : List Int) (l0_6 : List Int) (l0_7 : List Int) (l1 : List (S40)) : Option (Bool) := (selfstablaw42_Raw_Link.f k a0_0 a0_1 a0_2 a0_3 a0_4 l0_5 l0_6 l0_7).bind fun bt452 => ((selfstablaw42_events.f k l1 250).bind fun t464 => (selfstablaw42_DatalinkAligns.l0 k bt452.2.2.2.1 t464 0 bt452.1 bt452.2.1 bt452.2.2.1 bt452.2.2.2.1 bt452.2.2.2.2.1 bt452.2.2.2.2.2.1 bt452.2.2.2.2.2.2))
theorem selfstablaw42_DatalinkAligns.mono_l : ∀ k, (∀ y0 y1 y2 y3 y4 y5 y6 y7 y8 y9, LeO (selfstablaw42_DatalinkAligns.l0 k y0 y1 y2 y3 y4 y5 y6 y7 y8 y9) (selfstablaw42_DatalinkAligns.l0 (k + 1) y0 y1 y2 y3 y4 y5 y6 y7 y8 y9))
  | 0 => fun _ _ _ _ _ _ _ _ _ _ r h => by simp [selfstablaw42_DatalinkAligns.l0] at h
  | k + 1 => by
    have ih0 := selfstablaw42_DatalinkAligns.mono_l k
    · intro y0 y1 y2 y3 y4 y5 y6 y7 y8 y9
      unfold selfstablaw42_DatalinkAligns.l0
      repeat' first
      | (with_reducible exact ih0 _ _ _ _ _ _ _ _ _ _)
      | (with_reducible exact selfstablaw42_Raw_Link.mono _ _ _ _ _ _ _ _ _)
      | (with_reducible exact selfstablaw42_events.mono _ _ _)
      | (with_reducible exact selfstablaw42_known.mono _)
      | (with_reducible exact LeO.refl _)
      | (with_reducible exact LeO.none _)
      | (with_reducible refine LeO.ite ?_ ?_)
      | (with_reducible refine LeO.bind ?_ (fun _ => ?_))
      | exact ih0 _ _ _ _ _ _ _ _ _ _
      | exact selfstablaw42_Raw_Link.mono _ _ _ _ _ _ _ _ _
      | exact selfstablaw42_events.mono _ _ _
      | exact selfstablaw42_known.mono _
      | exact LeO.none _
      | refine LeO.ite ?_ ?_
      | refine LeO.bind ?_ (fun _ => ?_)
theorem selfstablaw42_DatalinkAligns.mono : ∀ a0 a1 a2 a3 a4 a5 a6 a7 a8 k, LeO (selfstablaw42_DatalinkAligns.f k a0 a1 a2 a3 a4 a5 a6 a7 a8) (selfstablaw42_DatalinkAligns.f (k + 1) a0 a1 a2 a3 a4 a5 a6 a7 a8) := by
  intro a0 a1 a2 a3 a4 a5 a6 a7 a8 k
  have ih0 := selfstablaw42_DatalinkAligns.mono_l k
  unfold selfstablaw42_DatalinkAligns.f
  repeat' first
      | (with_reducible exact ih0 _ _ _ _ _ _ _ _ _ _)
      | (with_reducible exact selfstablaw42_Raw_Link.mono _ _ _ _ _ _ _ _ _)
      | (with_reducible exact selfstablaw42_events.mono _ _ _)
      | (with_reducible exact selfstablaw42_known.mono _)
      | (with_reducible exact LeO.refl _)
      | (with_reducible exact LeO.none _)
      | (with_reducible refine LeO.ite ?_ ?_)
      | (with_reducible refine LeO.bind ?_ (fun _ => ?_))
      | exact ih0 _ _ _ _ _ _ _ _ _ _
      | exact selfstablaw42_Raw_Link.mono _ _ _ _ _ _ _ _ _
      | exact selfstablaw42_events.mono _ _ _
      | exact selfstablaw42_known.mono _
      | exact LeO.none _
      | refine LeO.ite ?_ ?_
      | refine LeO.bind ?_ (fun _ => ?_)
def selfstablaw42_DatalinkAligns.T7 : Bool × List (List Nat × List Nat) := (true, [([], []), ([], []), ([], []), ([1, 2], [1, 2]), ([3], [3]), ([0, 4], [0, 4]), ([5], [5]), ([6], [6]), ([6], [6]), ([6], [6]), ([7, 5, 0, 1, 2, 3, 4, 5, 6, 7], [7])])
def selfstablaw42_DatalinkAligns.B7 : List Nat := [0, 0, 0, 6, 14, 31, 63, 127, 127, 127, 255]
theorem selfstablaw42_DatalinkAligns.tab7 : rtab .any (opsOf Try.f8 7) = selfstablaw42_DatalinkAligns.T7 := by kernel_rfl
theorem selfstablaw42_DatalinkAligns.bits7 : waitsOk selfstablaw42_DatalinkAligns.T7.2 selfstablaw42_DatalinkAligns.B7 = true := by kernel_rfl
set_option maxHeartbeats 8000000 in
set_option maxRecDepth 100000 in
theorem selfstablaw42_DatalinkAligns.calls (k : Nat) (a0_0 : Int) (a0_1 : Int) (a0_2 : Int) (a0_3 : Int) (a0_4 : Int) (A0_5 : Option Addr) (c0_5 : Nat) (l0_5 : List Int) (A0_6 : Option Addr) (c0_6 : Nat) (l0_6 : List Int) (A0_7 : Option Addr) (c0_7 : Nat) (l0_7 : List Int) (A1 : Option Addr) (c1 : Nat) (l1 : List (S40)) (r : Bool) (w : World) (hr0_5 : Kd.C (Kd.int .i64) w A0_5 l0_5.length l0_5) (hc0_5 : l0_5.length ≤ c0_5) (hr0_6 : Kd.C (Kd.int .i64) w A0_6 l0_6.length l0_6) (hc0_6 : l0_6.length ≤ c0_6) (hr0_7 : Kd.C (Kd.int .i64) w A0_7 l0_7.length l0_7) (hc0_7 : l0_7.length ≤ c0_7) (hr1 : Kd.C k40 w A1 l1.length l1) (hc1 : l1.length ≤ c1) (h : selfstablaw42_DatalinkAligns.f k a0_0 a0_1 a0_2 a0_3 a0_4 l0_5 l0_6 l0_7 l1 = some r) :
    Calls Try.prog 8 #[.agg #[.int .i64 a0_0, .int .i64 a0_1, .int .i64 a0_2, .int .i64 a0_3, .int .i64 a0_4, .slice A0_5 l0_5.length c0_5, .slice A0_6 l0_6.length c0_6, .slice A0_7 l0_7.length c0_7], .slice A1 l1.length c1] w fun e w' => e = .returned (.bool r) ∧ Below w.heap.size w w' := by
  have hu24 := Try.underlying24
  have hu29 := Try.underlying29
  have hu40 := Try.underlying40
  have HR0_5 := Aside0.mk hr0_5
  have HC0_5 := Aside0.mk hc0_5
  clear hr0_5 hc0_5
  have HR0_6 := Aside0.mk hr0_6
  have HC0_6 := Aside0.mk hc0_6
  clear hr0_6 hc0_6
  have HR0_7 := Aside0.mk hr0_7
  have HC0_7 := Aside0.mk hc0_7
  clear hr0_7 hc0_7
  have HR1 := Aside0.mk hr1
  have HC1 := Aside0.mk hc1
  clear hr1 hc1
  have HB := Aside0.mk (Below.refl w.heap.size w)
  have H : ((selfstablaw42_Raw_Link.f k a0_0 a0_1 a0_2 a0_3 a0_4 l0_5 l0_6 l0_7).bind fun bt452 => ((selfstablaw42_events.f k l1 250).bind fun t464 => (selfstablaw42_DatalinkAligns.l0 k bt452.2.2.2.1 t464 0 bt452.1 bt452.2.1 bt452.2.2.1 bt452.2.2.2.1 bt452.2.2.2.2.1 bt452.2.2.2.2.2.1 bt452.2.2.2.2.2.2))) = some r := h
  clear h
  replace H := Option.bind_eq_some_iff.mp H
  obtain ⟨⟨t452, t453, t454, t455, t456, t457, t460⟩, A30, H⟩ := H
  replace H : ((selfstablaw42_events.f k l1 250).bind fun t464 => (selfstablaw42_DatalinkAligns.l0 k t455 t464 0 t452 t453 t454 t455 t456 t457 t460)) = some r := H
  have A3 := Aside0.mk A30
  clear A30
  replace H := Option.bind_eq_some_iff.mp H
  obtain ⟨t464, A40, H⟩ := H
  replace H : (selfstablaw42_DatalinkAligns.l0 k t455 t464 0 t452 t453 t454 t455 t456 t457 t460) = some r := H
  have A4 := Aside0.mk A40
  clear A40
  have H' := Aside0.mk H
  clear H
  go_enter Try.func8, Try.ntmps8
  go_wp2_with (first | ((with_reducible refine gate_dst (N := 2) rfl ?_); refine box_event ?hg (N := 2) ?hd (cs := #[.int .i64 a0_0, .int .i64 a0_1, .int .i64 a0_2, .int .i64 a0_3, .int .i64 a0_4, .slice A0_5 l0_5.length c0_5, .slice A0_6 l0_6.length c0_6, .slice A0_7 l0_7.length c0_7]) (t := 24) ?hr ?_; (case hd => rfl); (case hg => rfl); (case hr => first | (go_simp; done) | (go_simp; rfl)); intro gb451 hg w5 hbox hb; have n0_ := Aside0.mk (below_step (by repeat (first | (with_reducible first | exact HB.out | apply below_alloc | apply pw_below_drewN | apply below_drew1) | exact HB.out)) hb); have n1_ := Aside0.mk (hbox); have n2_ := Aside0.mk ((by rw [hg]; exact (below_size (by repeat (first | (with_reducible first | exact HB.out | apply below_alloc | apply pw_below_drewN | apply below_drew1) | exact HB.out))) : w.heap.size ≤ gb451)); have n3_ := Aside0.mk ((by rw [hg]; exact (below_size (by repeat (first | (with_reducible first | exact HB.out | apply below_alloc | apply pw_below_drewN | apply below_drew1) | exact HB.out))) : w.heap.size ≤ gb451)); clear HB; have HB := n0_; have BK451 := n1_; have GW451 := n2_; have GE451 := n3_; clear n0_ n1_ n2_ n3_; clear hb hbox hg; have hcz6_0 : w5.cell? ⟨gb451, 0, none⟩ = some (.int .i64 a0_0) := (blk_cell BK451.out 0).trans rfl; have hcz6_1 : w5.cell? ⟨gb451, 1, none⟩ = some (.int .i64 a0_1) := (blk_cell BK451.out 1).trans rfl; have hcz6_2 : w5.cell? ⟨gb451, 2, none⟩ = some (.int .i64 a0_2) := (blk_cell BK451.out 2).trans rfl; have hcz6_3 : w5.cell? ⟨gb451, 3, none⟩ = some (.int .i64 a0_3) := (blk_cell BK451.out 3).trans rfl; have hcz6_4 : w5.cell? ⟨gb451, 4, none⟩ = some (.int .i64 a0_4) := (blk_cell BK451.out 4).trans rfl; have hcz6_5 : w5.cell? ⟨gb451, 5, none⟩ = some (.slice A0_5 l0_5.length c0_5) := (blk_cell BK451.out 5).trans rfl; have hcz6_6 : w5.cell? ⟨gb451, 6, none⟩ = some (.slice A0_6 l0_6.length c0_6) := (blk_cell BK451.out 6).trans rfl; have hcz6_7 : w5.cell? ⟨gb451, 7, none⟩ = some (.slice A0_7 l0_7.length c0_7) := (blk_cell BK451.out 7).trans rfl; have hfz6_0 := blk_frozen BK451.out 0; have hfz6_1 := blk_frozen BK451.out 1; have hfz6_2 := blk_frozen BK451.out 2; have hfz6_3 := blk_frozen BK451.out 3; have hfz6_4 := blk_frozen BK451.out 4; have hfz6_5 := blk_frozen BK451.out 5; have hfz6_6 := blk_frozen BK451.out 6; have hfz6_7 := blk_frozen BK451.out 7) | ((with_reducible refine gate_callee (f := 10) rfl ?_); refine goesL_ (some 10) rfl rfl Try.func10 (by kernel_rfl) rfl #[.agg #[.int .i64 a0_0, .int .i64 a0_1, .int .i64 a0_2, .int .i64 a0_3, .int .i64 a0_4, .slice A0_5 l0_5.length c0_5, .slice A0_6 l0_6.length c0_6, .slice A0_7 l0_7.length c0_7]] rfl (by (try simp only [List.map_toArray, List.map_cons, List.map_nil]); first | done | rfl | (simp only [List.length_drop, List.length_take]; rfl)) ?_; (with_reducible refine (selfstablaw42_Raw_Link.calls k a0_0 a0_1 a0_2 a0_3 a0_4 _ _ l0_5 _ _ l0_6 _ _ l0_7 t452 t453 t454 t455 t456 t457 t460 _ ?side1 ?side2 ?side3 ?side4 ?side5 ?side6 A3.out).mono ?_); (case side1 => repeat (first | exact (Kd.C_below HR0_5.out HB.out) | (with_reducible refine Kd.C_alloc ?_ _) | (with_reducible refine Kd.C_drewN ?_ _) | (with_reducible refine Kd.C_drew ?_))); (case side2 => exact HC0_5.out); (case side3 => repeat (first | exact (Kd.C_below HR0_6.out HB.out) | (with_reducible refine Kd.C_alloc ?_ _) | (with_reducible refine Kd.C_drewN ?_ _) | (with_reducible refine Kd.C_drew ?_))); (case side4 => exact HC0_6.out); (case side5 => repeat (first | exact (Kd.C_below HR0_7.out HB.out) | (with_reducible refine Kd.C_alloc ?_ _) | (with_reducible refine Kd.C_drewN ?_ _) | (with_reducible refine Kd.C_drew ?_))); (case side6 => exact HC0_7.out); rintro e w7 ⟨v458, v461, rfl, ho0, ho1, hb⟩; refine ⟨_, rfl, ?_⟩; have n0_ := Aside0.mk (Kd.R_lower ho0 (below_size (by repeat (first | (with_reducible first | exact HB.out | apply below_alloc | apply pw_below_drewN | apply below_drew1 | refine below_set ?_ GE451.out) | exact HB.out)))); have n1_ := Aside0.mk (Kd.R_lower ho1 (below_size (by repeat (first | (with_reducible first | exact HB.out | apply below_alloc | apply pw_below_drewN | apply below_drew1 | refine below_set ?_ GE451.out) | exact HB.out)))); have n2_ := Aside0.mk (blk_below (g := gb451) (o := .cells #[.int .i64 a0_0, .int .i64 a0_1, .int .i64 a0_2, .int .i64 a0_3, .int .i64 a0_4, .slice A0_5 l0_5.length c0_5, .slice A0_6 l0_6.length c0_6, .slice A0_7 l0_7.length c0_7] 24 (0, 0)) (by (with_reducible repeat (first | refine blk_drewN ?_ _ | refine blk_drew ?_ | refine blk_alloc ?_ _)); exact BK451.out) hb); have n3_ := Aside0.mk (below_step (by repeat (first | (with_reducible first | exact HB.out | apply below_alloc | apply pw_below_drewN | apply below_drew1 | refine below_set ?_ GE451.out) | exact HB.out)) hb); clear BK451; clear HB; have HO459 := n0_; have HO462 := n1_; have BK451 := n2_; have HB := n3_; clear n0_ n1_ n2_ n3_; (try clear hb); (try clear hb2); (try clear hk); (try clear hi); (try clear ho0); (try clear ho1)) | ((with_reducible refine gate_dst (N := 5) rfl ?_); refine box_event ?hg (N := 5) ?hd (cs := #[.int .i64 0, .int .i64 0, .int .i64 0, .int .i64 0, .int .i64 0, .slice none 0 0, .slice none 0 0]) (t := 29) ?hr ?_; (case hd => rfl); (case hg => rfl); (case hr => first | (go_simp; done) | (go_simp; rfl)); intro gb463 hg w8 hbox hb; have n0_ := Aside0.mk (Kd.R_below (by (with_reducible repeat (first | apply Kd.R_alloc | apply Kd.R_drewN | apply Kd.R_drew)); exact HO459.out) hb); have n1_ := Aside0.mk (Kd.R_below (by (with_reducible repeat (first | apply Kd.R_alloc | apply Kd.R_drewN | apply Kd.R_drew)); exact HO462.out) hb); have n2_ := Aside0.mk (blk_below (g := gb451) (o := .cells #[.int .i64 a0_0, .int .i64 a0_1, .int .i64 a0_2, .int .i64 a0_3, .int .i64 a0_4, .slice A0_5 l0_5.length c0_5, .slice A0_6 l0_6.length c0_6, .slice A0_7 l0_7.length c0_7] 24 (0, 0)) (by (with_reducible repeat (first | refine blk_drewN ?_ _ | refine blk_drew ?_ | refine blk_alloc ?_ _)); exact BK451.out) hb); have n3_ := Aside0.mk (below_step (by repeat (first | (with_reducible first | exact HB.out | apply below_alloc | apply pw_below_drewN | apply below_drew1 | refine below_set ?_ GE451.out) | exact HB.out)) hb); have n4_ := Aside0.mk (hbox); have n5_ := Aside0.mk ((by rw [hg]; exact (below_size (by repeat (first | (with_reducible first | exact HB.out | apply below_alloc | apply pw_below_drewN | apply below_drew1 | refine below_set ?_ GE451.out) | exact HB.out))) : w.heap.size ≤ gb463)); have n6_ := Aside0.mk ((by rw [hg]; exact (below_size (by repeat (first | (with_reducible first | exact HB.out | apply below_alloc | apply pw_below_drewN | apply below_drew1 | refine below_set ?_ GE451.out) | exact HB.out))) : w.heap.size ≤ gb463)); have n7_ := Aside0.mk ((by rw [hg]; exact Nat.ne_of_lt (blk_lt (g := gb451) (o := .cells #[.int .i64 a0_0, .int .i64 a0_1, .int .i64 a0_2, .int .i64 a0_3, .int .i64 a0_4, .slice A0_5 l0_5.length c0_5, .slice A0_6 l0_6.length c0_6, .slice A0_7 l0_7.length c0_7] 24 (0, 0)) (by (with_reducible repeat (first | refine blk_drewN ?_ _ | refine blk_drew ?_ | refine blk_alloc ?_ _)); exact BK451.out)) : gb451 ≠ gb463)); have n8_ := Aside0.mk ((by rw [hg]; exact Nat.ne_of_gt (blk_lt (g := gb451) (o := .cells #[.int .i64 a0_0, .int .i64 a0_1, .int .i64 a0_2, .int .i64 a0_3, .int .i64 a0_4, .slice A0_5 l0_5.length c0_5, .slice A0_6 l0_6.length c0_6, .slice A0_7 l0_7.length c0_7] 24 (0, 0)) (by (with_reducible repeat (first | refine blk_drewN ?_ _ | refine blk_drew ?_ | refine blk_alloc ?_ _)); exact BK451.out)) : gb463 ≠ gb451)); clear HO459; clear HO462; clear BK451; clear HB; have HO459 := n0_; have HO462 := n1_; have BK451 := n2_; have HB := n3_; have BK463 := n4_; have GW463 := n5_; have GE463 := n6_; have NB451_463 := n7_; have NB463_451 := n8_; clear n0_ n1_ n2_ n3_ n4_ n5_ n6_ n7_ n8_; clear hb hbox hg; have hnb9 := NB463_451.out; have hnc9 := NB451_463.out; have hcz10_0 : w8.cell? ⟨gb463, 0, none⟩ = some (.int .i64 0) := (blk_cell BK463.out 0).trans rfl; have hcz10_1 : w8.cell? ⟨gb463, 1, none⟩ = some (.int .i64 0) := (blk_cell BK463.out 1).trans rfl; have hcz10_2 : w8.cell? ⟨gb463, 2, none⟩ = some (.int .i64 0) := (blk_cell BK463.out 2).trans rfl; have hcz10_3 : w8.cell? ⟨gb463, 3, none⟩ = some (.int .i64 0) := (blk_cell BK463.out 3).trans rfl; have hcz10_4 : w8.cell? ⟨gb463, 4, none⟩ = some (.int .i64 0) := (blk_cell BK463.out 4).trans rfl; have hcz10_5 : w8.cell? ⟨gb463, 5, none⟩ = some (.slice none 0 0) := (blk_cell BK463.out 5).trans rfl; have hcz10_6 : w8.cell? ⟨gb463, 6, none⟩ = some (.slice none 0 0) := (blk_cell BK463.out 6).trans rfl; have hfz10_0 := blk_frozen BK463.out 0; have hfz10_1 := blk_frozen BK463.out 1; have hfz10_2 := blk_frozen BK463.out 2; have hfz10_3 := blk_frozen BK463.out 3; have hfz10_4 := blk_frozen BK463.out 4; have hfz10_5 := blk_frozen BK463.out 5; have hfz10_6 := blk_frozen BK463.out 6; obtain ⟨Ao11, co11, eo11⟩ := Kd.R_slice HO459.out; subst eo11; obtain ⟨Ao12, co12, eo12⟩ := Kd.R_slice HO462.out; subst eo12) | ((with_reducible refine gate_callee (f := 13) rfl ?_); refine goesL_ (some 14) rfl rfl Try.func13 (by kernel_rfl) rfl #[.slice A1 l1.length c1, .int .i64 250] rfl (by (try simp only [List.map_toArray, List.map_cons, List.map_nil]); first | done | rfl | (simp only [List.length_drop, List.length_take]; rfl)) ?_; (with_reducible refine (selfstablaw42_events.calls k _ _ l1 250 t464 _ ?side1 ?side2 A4.out).mono ?_); (case side1 => exact Kd.C_below HR1.out (by repeat (first | (with_reducible first | exact HB.out | apply below_alloc | apply pw_below_drewN | apply below_drew1 | refine below_set ?_ GE451.out | refine below_set ?_ GE463.out) | exact HB.out))); (case side2 => exact HC1.out); rintro e w13 ⟨v465, rfl, ho0, hb⟩; refine ⟨_, rfl, ?_⟩; have n0_ := Aside0.mk (Kd.R_below (by (with_reducible repeat (first | apply Kd.R_alloc | apply Kd.R_drewN | apply Kd.R_drew)); exact (Kd.R_mono (Kd.R_far (p := ⟨gb463, 6, none⟩) (Kd.R_far (p := ⟨gb463, 5, none⟩) (Kd.R_far (p := ⟨gb463, 4, none⟩) (Kd.R_far (p := ⟨gb463, 3, none⟩) (Kd.R_far (p := ⟨gb463, 2, none⟩) (Kd.R_far (p := ⟨gb463, 1, none⟩) (Kd.R_far (p := ⟨gb463, 0, none⟩) (Kd.R_types HO459.out BK463.out (by decide)) (fun _ hk => hk.2) (.int .i64 t452)) (fun _ hk => hk.2) (.int .i64 t453)) (fun _ hk => hk.2) (.int .i64 t454)) (fun _ hk => hk.2) (.int .i64 t455)) (fun _ hk => hk.2) (.int .i64 t456)) (fun _ hk => hk.2) (.slice Ao11 t457.length co11)) (fun _ hk => hk.2) (.slice Ao12 t460.length co12)) (fun _ h_ => h_.1))) hb); have n1_ := Aside0.mk (Kd.R_below (by (with_reducible repeat (first | apply Kd.R_alloc | apply Kd.R_drewN | apply Kd.R_drew)); exact (Kd.R_mono (Kd.R_far (p := ⟨gb463, 6, none⟩) (Kd.R_far (p := ⟨gb463, 5, none⟩) (Kd.R_far (p := ⟨gb463, 4, none⟩) (Kd.R_far (p := ⟨gb463, 3, none⟩) (Kd.R_far (p := ⟨gb463, 2, none⟩) (Kd.R_far (p := ⟨gb463, 1, none⟩) (Kd.R_far (p := ⟨gb463, 0, none⟩) (Kd.R_types HO462.out BK463.out (by decide)) (fun _ hk => hk.2) (.int .i64 t452)) (fun _ hk => hk.2) (.int .i64 t453)) (fun _ hk => hk.2) (.int .i64 t454)) (fun _ hk => hk.2) (.int .i64 t455)) (fun _ hk => hk.2) (.int .i64 t456)) (fun _ hk => hk.2) (.slice Ao11 t457.length co11)) (fun _ hk => hk.2) (.slice Ao12 t460.length co12)) (fun _ h_ => h_.1))) hb); have n2_ := Aside0.mk (Kd.R_lower ho0 (below_size (by repeat (first | (with_reducible first | exact HB.out | apply below_alloc | apply pw_below_drewN | apply below_drew1 | refine below_set ?_ GE451.out | refine below_set ?_ GE463.out) | exact HB.out)))); have n3_ := Aside0.mk (blk_below (g := gb451) (o := .cells #[.int .i64 a0_0, .int .i64 a0_1, .int .i64 a0_2, .int .i64 a0_3, .int .i64 a0_4, .slice A0_5 l0_5.length c0_5, .slice A0_6 l0_6.length c0_6, .slice A0_7 l0_7.length c0_7] 24 (0, 0)) (by (with_reducible repeat (first | refine blk_drewN ?_ _ | refine blk_drew ?_ | refine blk_alloc ?_ _)); refine blk_far ?_ NB451_463.out _; (with_reducible repeat (first | refine blk_drewN ?_ _ | refine blk_drew ?_ | refine blk_alloc ?_ _)); refine blk_far ?_ NB451_463.out _; (with_reducible repeat (first | refine blk_drewN ?_ _ | refine blk_drew ?_ | refine blk_alloc ?_ _)); refine blk_far ?_ NB451_463.out _; (with_reducible repeat (first | refine blk_drewN ?_ _ | refine blk_drew ?_ | refine blk_alloc ?_ _)); refine blk_far ?_ NB451_463.out _; (with_reducible repeat (first | refine blk_drewN ?_ _ | refine blk_drew ?_ | refine blk_alloc ?_ _)); refine blk_far ?_ NB451_463.out _; (with_reducible repeat (first | refine blk_drewN ?_ _ | refine blk_drew ?_ | refine blk_alloc ?_ _)); refine blk_far ?_ NB451_463.out _; (with_reducible repeat (first | refine blk_drewN ?_ _ | refine blk_drew ?_ | refine blk_alloc ?_ _)); refine blk_far ?_ NB451_463.out _; (with_reducible repeat (first | refine blk_drewN ?_ _ | refine blk_drew ?_ | refine blk_alloc ?_ _)); exact BK451.out) hb); have n4_ := Aside0.mk (blk_below (g := gb463) (o := .cells #[.int .i64 t452, .int .i64 t453, .int .i64 t454, .int .i64 t455, .int .i64 t456, .slice Ao11 t457.length co11, .slice Ao12 t460.length co12] 29 (0, 0)) (by (with_reducible repeat (first | refine blk_drewN ?_ _ | refine blk_drew ?_ | refine blk_alloc ?_ _)); refine blk_put (cs := #[.int .i64 t452, .int .i64 t453, .int .i64 t454, .int .i64 t455, .int .i64 t456, .slice Ao11 t457.length co11, .slice none 0 0]) ?_ 6 _ rfl; (with_reducible repeat (first | refine blk_drewN ?_ _ | refine blk_drew ?_ | refine blk_alloc ?_ _)); refine blk_put (cs := #[.int .i64 t452, .int .i64 t453, .int .i64 t454, .int .i64 t455, .int .i64 t456, .slice none 0 0, .slice none 0 0]) ?_ 5 _ rfl; (with_reducible repeat (first | refine blk_drewN ?_ _ | refine blk_drew ?_ | refine blk_alloc ?_ _)); refine blk_put (cs := #[.int .i64 t452, .int .i64 t453, .int .i64 t454, .int .i64 t455, .int .i64 0, .slice none 0 0, .slice none 0 0]) ?_ 4 _ rfl; (with_reducible repeat (first | refine blk_drewN ?_ _ | refine blk_drew ?_ | refine blk_alloc ?_ _)); refine blk_put (cs := #[.int .i64 t452, .int .i64 t453, .int .i64 t454, .int .i64 0, .int .i64 0, .slice none 0 0, .slice none 0 0]) ?_ 3 _ rfl; (with_reducible repeat (first | refine blk_drewN ?_ _ | refine blk_drew ?_ | refine blk_alloc ?_ _)); refine blk_put (cs := #[.int .i64 t452, .int .i64 t453, .int .i64 0, .int .i64 0, .int .i64 0, .slice none 0 0, .slice none 0 0]) ?_ 2 _ rfl; (with_reducible repeat (first | refine blk_drewN ?_ _ | refine blk_drew ?_ | refine blk_alloc ?_ _)); refine blk_put (cs := #[.int .i64 t452, .int .i64 0, .int .i64 0, .int .i64 0, .int .i64 0, .slice none 0 0, .slice none 0 0]) ?_ 1 _ rfl; (with_reducible repeat (first | refine blk_drewN ?_ _ | refine blk_drew ?_ | refine blk_alloc ?_ _)); refine blk_put (cs := #[.int .i64 0, .int .i64 0, .int .i64 0, .int .i64 0, .int .i64 0, .slice none 0 0, .slice none 0 0]) ?_ 0 _ rfl; (with_reducible repeat (first | refine blk_drewN ?_ _ | refine blk_drew ?_ | refine blk_alloc ?_ _)); exact BK463.out) hb); have n5_ := Aside0.mk (below_step (by repeat (first | (with_reducible first | exact HB.out | apply below_alloc | apply pw_below_drewN | apply below_drew1 | refine below_set ?_ GE451.out | refine below_set ?_ GE463.out) | exact HB.out)) hb); clear HO459; clear HO462; clear BK451; clear BK463; clear HB; have HO459 := n0_; have HO462 := n1_; have HO466 := n2_; have BK451 := n3_; have BK463 := n4_; have HB := n5_; clear n0_ n1_ n2_ n3_ n4_ n5_; (try clear hb); (try clear hb2); (try clear hk); (try clear hi); (try clear ho0)))
  go_loopg [8] k (fun kq v8 w' => ∃ (x8_1 : Int) (x464000_1 : Int) (x464001_1 : Int) (x464002_1 : Int) (x464003_1 : Int) (x464004_1 : Int) (x464005_1 : List (S46)) (x464006_1 : List Int) (u464005 : Value) (u464006 : Value), v8 = .int .i64 x8_1 ∧ Aside0 (selfstablaw42_DatalinkAligns.l0 kq t455 t464 x8_1 x464000_1 x464001_1 x464002_1 x464003_1 x464004_1 x464005_1 x464006_1 = some r) ∧ Aside0 (kq ≤ k) ∧ Aside0 (Kd.R k40 40 w' w.heap.size (fun _ => True) v465 t464) ∧ Aside0 (Kd.R k46 46 w' w.heap.size (fun _ => True) u464005 x464005_1) ∧ Aside0 (Kd.R (Kd.int .i64) 3 w' w.heap.size (fun _ => True) u464006 x464006_1) ∧ Aside0 (w'.heap[gb451]? = some (.cells #[.int .i64 a0_0, .int .i64 a0_1, .int .i64 a0_2, .int .i64 a0_3, .int .i64 a0_4, (.slice A0_5 l0_5.length c0_5), (.slice A0_6 l0_6.length c0_6), (.slice A0_7 l0_7.length c0_7)] 24 (0, 0))) ∧ Aside0 (w'.heap[gb463]? = some (.cells #[.int .i64 x464000_1, .int .i64 x464001_1, .int .i64 x464002_1, .int .i64 x464003_1, .int .i64 x464004_1, u464005, u464006] 29 (0, 0))) ∧ Aside0 (Below w.heap.size w w'))
  case atStart => exact ⟨(0), (t452), (t453), (t454), (t455), (t456), (t457), (t460), (.slice Ao11 t457.length co11), (.slice Ao12 t460.length co12), (by first | rfl | (simp; done) | (simp [*]; done)), H', ⟨Nat.le_refl _⟩, ⟨by (with_reducible repeat (first | apply Kd.R_alloc | apply Kd.R_drewN | apply Kd.R_drew)); exact HO466.out⟩, ⟨by (with_reducible repeat (first | apply Kd.R_alloc | apply Kd.R_drewN | apply Kd.R_drew)); exact HO459.out⟩, ⟨by (with_reducible repeat (first | apply Kd.R_alloc | apply Kd.R_drewN | apply Kd.R_drew)); exact HO462.out⟩, ⟨by (with_reducible repeat (first | refine blk_drewN ?_ _ | refine blk_drew ?_ | refine blk_alloc ?_ _)); exact BK451.out⟩, ⟨by (with_reducible repeat (first | refine blk_drewN ?_ _ | refine blk_drew ?_ | refine blk_alloc ?_ _)); exact BK463.out⟩, ⟨by repeat (first | (with_reducible first | exact HB.out | apply below_alloc | apply pw_below_drewN | apply below_drew1 | refine below_set ?_ GE451.out | refine below_set ?_ GE463.out) | exact HB.out)⟩⟩
  case round =>
    clear H'
    try clear c1
    try clear p2
    try clear c8
    try clear c9
    try clear c10
    try clear c13
    try clear hcz10_0
    try clear hcz10_1
    try clear hcz10_2
    try clear hcz10_3
    try clear hcz10_4
    try clear hcz10_5
    try clear hcz10_6
    try clear hcz6_0
    try clear hcz6_1
    try clear hcz6_2
    try clear hcz6_3
    try clear hcz6_4
    try clear hcz6_5
    try clear hcz6_6
    try clear hcz6_7
    try clear hfz10_0
    try clear hfz10_1
    try clear hfz10_2
    try clear hfz10_3
    try clear hfz10_4
    try clear hfz10_5
    try clear hfz10_6
    try clear hfz6_0
    try clear hfz6_1
    try clear hfz6_2
    try clear hfz6_3
    try clear hfz6_4
    try clear hfz6_5
    try clear hfz6_6
    try clear hfz6_7
    obtain ⟨x8_1, x464000_1, x464001_1, x464002_1, x464003_1, x464004_1, x464005_1, x464006_1, u464005, u464006, rfl, HA, HK1, HO_7, HO_464005, HO_464006, BK451, BK463, HB⟩ := hrel
    cases gk with
    | zero => exact absurd HA.out (by simp [selfstablaw42_DatalinkAligns.l0])
    | succ k1 =>
      have H := HA.out
      clear HA
      simp only [selfstablaw42_DatalinkAligns.l0] at H
      by_cases c14 : x8_1 < (t464.length : Int)
      · rw [if_pos c14] at H
        have c14b0 : decide (x8_1 < (t464.length : Int)) = true := decide_eq_true c14
        clear c14
        by_cases c15 : 0 ≤ x8_1
        · rw [if_pos c15] at H
          have c15b0 : decide (0 ≤ x8_1) = true := decide_eq_true c15
          clear c15
          replace H := Option.bind_eq_some_iff.mp H
          obtain ⟨⟨t470, t471, t472, t473, t474, t475, t478, t481, t482⟩, A160, H⟩ := H
          replace H : (if (wrap64 (t473 - t455)) ≥ t471 then ((datalink_Aligned.f t470 t471 t472 t473 t474 t475 t478).bind fun t483 => (if t483 = true then (selfstablaw42_DatalinkAligns.l0 k1 t455 t464 (wrap64 (x8_1 + 1)) t470 t471 t472 t473 t474 t475 t478) else (none))) else (selfstablaw42_DatalinkAligns.l0 k1 t455 t464 (wrap64 (x8_1 + 1)) t470 t471 t472 t473 t474 t475 t478)) = some r := H
          have A16 := Aside0.mk A160
          clear A160
          by_cases c17 : (wrap64 (t473 - t455)) ≥ t471
          · rw [if_pos c17] at H
            have c17b0 : decide (t471 ≤ (wrap64 (t473 - t455))) = true := decide_eq_true c17
            clear c17
            replace H := Option.bind_eq_some_iff.mp H
            obtain ⟨t483, A180, H⟩ := H
            replace H : (if t483 = true then (selfstablaw42_DatalinkAligns.l0 k1 t455 t464 (wrap64 (x8_1 + 1)) t470 t471 t472 t473 t474 t475 t478) else (none)) = some r := H
            have A18 := Aside0.mk A180
            clear A180
            by_cases c19 : t483 = true
            · subst c19
              have H1 : (selfstablaw42_DatalinkAligns.l0 k1 t455 t464 (wrap64 (x8_1 + 1)) t470 t471 t472 t473 t474 t475 t478) = some r := by rw [if_pos rfl] at H; exact H
              clear H
              have H := H1
              clear H1
              have H' := Aside0.mk H
              clear H
              obtain ⟨Ao20, co20, eo20⟩ := Kd.R_slice HO_7.out
              subst eo20
              try go_wp2
              have n0_ := Aside0.mk (Kd.R_drew HO_7.out)
              have n1_ := Aside0.mk (Kd.R_drew HO_464005.out)
              have n2_ := Aside0.mk (Kd.R_drew HO_464006.out)
              have n3_ := Aside0.mk (blk_drew BK451.out)
              have n4_ := Aside0.mk (blk_drew BK463.out)
              have n5_ := Aside0.mk (below_drew1 HB.out)
              clear HO_7
              clear HO_464005
              clear HO_464006
              clear BK451
              clear BK463
              clear HB
              have HO_7 := n0_
              have HO_464005 := n1_
              have HO_464006 := n2_
              have BK451 := n3_
              have BK463 := n4_
              have HB := n5_
              clear n0_ n1_ n2_ n3_ n4_ n5_
              have p469 : 0 ≤ (x8_1 : Int) := of_decide_eq_true (by first | (with_reducible assumption) | assumption)
              have q469 : x8_1 < (t464.length : Int) := of_decide_eq_true (by first | (with_reducible assumption) | assumption)
              (try (obtain ⟨Az469, cz469, ez469⟩ := Kd.R_slice HO_7.out; subst ez469))
              obtain ⟨ad469, e469, hx469_0, hx469_1⟩ := at_T40 (Kd.R_reads' HO_7.out).2.2 x8_1 p469 q469
              cases e469
              replace p469 := eq_true p469
              replace q469 := eq_true q469
              obtain ⟨Ao22, co22, eo22⟩ := Kd.R_slice HO_464005.out
              (first | subst eo22 | (injection eo22 with f1_ f2_ f3_; have f4_ := f1_.symm; have f5_ := f3_.symm; clear f1_ f2_ f3_; subst f4_; subst f5_))
              obtain ⟨Ao23, co23, eo23⟩ := Kd.R_slice HO_464006.out
              (first | subst eo23 | (injection eo23 with f1_ f2_ f3_; have f4_ := f1_.symm; have f5_ := f3_.symm; clear f1_ f2_ f3_; subst f4_; subst f5_))
              refine start_ (n := 11) (S := fun w' => w'.cell? ⟨gb463, 0, none⟩ = some (.int .i64 x464000_1) ∧ w'.cell? ⟨gb463, 1, none⟩ = some (.int .i64 x464001_1) ∧ w'.cell? ⟨gb463, 2, none⟩ = some (.int .i64 x464002_1) ∧ w'.cell? ⟨gb463, 3, none⟩ = some (.int .i64 x464003_1) ∧ w'.cell? ⟨gb463, 4, none⟩ = some (.int .i64 x464004_1) ∧ w'.cell? ⟨gb463, 5, none⟩ = some (.slice Ao22 x464005_1.length co22) ∧ w'.cell? ⟨gb463, 6, none⟩ = some (.slice Ao23 x464006_1.length co23) ∧ w'.cell? (ad469.add ((x8_1).toNat * 2)) = some (.int .i64 ((rd_T40 t464 x8_1).f0)) ∧ w'.cell? ⟨(ad469.add ((x8_1).toNat * 2)).block, (ad469.add ((x8_1).toNat * 2)).off + 1, none⟩ = some (.int .i64 ((rd_T40 t464 x8_1).f1))) (ds := [10]) #[false, false, false, false, false, false, false, false, false, false, false] (by kernel_rfl) rfl rfl ⟨(blk_cell BK463.out 0).trans rfl, (blk_cell BK463.out 1).trans rfl, (blk_cell BK463.out 2).trans rfl, (blk_cell BK463.out 3).trans rfl, (blk_cell BK463.out 4).trans rfl, (blk_cell BK463.out 5).trans rfl, (blk_cell BK463.out 6).trans rfl, hx469_0, hx469_1⟩ (fun hHeld => ?_); refine with_tabW selfstablaw42_DatalinkAligns.tab7 selfstablaw42_DatalinkAligns.bits7 (fun HT_ HW_ => ?_)
              generalize wr.drew = w21 at HO_7 HO_464005 HO_464006 BK451 BK463 HB hx469_0 hx469_1 hHeld ⊢
              refine pure_ (i := 1) (N := some 23) (v := ?_) (a' := ?_) #[false, true, false, false, false, false, false, false, false, false, false] rfl rfl (any_of HT_.out (by kernel_rfl)) (fun _ _ _ h => h) (Or.inl ⟨by rfl, ?_⟩) ?_ ?_
              rotate_left
              · intro w'
                go_simp
                with_reducible rfl
              rotate_left
              · simp only [Act.put, List.setIfInBounds_toArray, List.set_cons_zero, List.set_cons_succ, i64_w, i32_w]
                rfl
              refine pure_ (i := 2) (N := some 24) (v := ?_) (a' := ?_) #[false, true, true, false, false, false, false, false, false, false, false] rfl rfl (any_of HT_.out (by kernel_rfl)) (fun _ _ _ h => h) (Or.inl ⟨by rfl, ?_⟩) ?_ ?_
              rotate_left
              · intro w'
                go_simp
                with_reducible rfl
              rotate_left
              · simp only [Act.put, List.setIfInBounds_toArray, List.set_cons_zero, List.set_cons_succ, i64_w, i32_w]
                rfl
              refine pure_ (i := 3) (N := some 25) (v := ?_) (a' := ?_) #[false, true, true, true, false, false, false, false, false, false, false] rfl rfl (any_of HT_.out (by kernel_rfl)) (fun _ _ _ h => h) (Or.inl ⟨by rfl, ?_⟩) ?_ ?_
              rotate_left
              · intro w'
                go_simp
                with_reducible rfl
              rotate_left
              · simp only [Act.put, List.setIfInBounds_toArray, List.set_cons_zero, List.set_cons_succ, i64_w, i32_w]
                rfl
              refine take_ (i := 0) (N := some 22) (v := ?_) (a' := ?_) #[true, true, true, true, false, false, false, false, false, false, false] rfl rfl (take_ofW HT_.out HW_.out (by kernel_rfl)) (fun _ _ _ h => h) (Or.inl ⟨by rfl, ?_⟩) hHeld ?_ ?_
              rotate_left
              · rintro w' ⟨s0, s1, s2, s3, s4, s5, s6, s7, s8⟩
                go_simp
                with_reducible rfl
              rotate_left
              · simp only [Act.put, List.setIfInBounds_toArray, List.set_cons_zero, List.set_cons_succ, i64_w, i32_w]
                rfl
              refine take_ (i := 4) (N := some 26) (v := ?_) (a' := ?_) #[true, true, true, true, true, false, false, false, false, false, false] rfl rfl (take_ofW HT_.out HW_.out (by kernel_rfl)) (fun _ _ _ h => h) (Or.inl ⟨by rfl, ?_⟩) hHeld ?_ ?_
              rotate_left
              · rintro w' ⟨s0, s1, s2, s3, s4, s5, s6, s7, s8⟩
                go_simp
                with_reducible rfl
              rotate_left
              · simp only [Act.put, List.setIfInBounds_toArray, List.set_cons_zero, List.set_cons_succ, i64_w, i32_w]
                rfl
              refine one_ (i := 5) (N := some 27) #[true, true, true, true, true, true, false, false, false, false, false] rfl rfl (one_of HT_.out (by kernel_rfl)) (by decide) (fun K hK => ?_)
              refine goes_ Try.func18 (by kernel_rfl) rfl #[.agg #[.int .i64 x464000_1, .int .i64 x464001_1, .int .i64 x464002_1, .int .i64 x464003_1, .int .i64 x464004_1, .slice Ao22 x464005_1.length co22, .slice Ao23 x464006_1.length co23], .agg #[.int .i64 ((rd_T40 t464 x8_1).f0), .int .i64 ((rd_T40 t464 x8_1).f1)]] (by rfl) rfl rfl (by (try simp only [List.map_toArray, List.map_cons, List.map_nil]); first | done | rfl | (simp only [List.length_drop, List.length_take]; rfl)) ?_
              with_reducible refine (datalink_Step.calls x464000_1 x464001_1 x464002_1 x464003_1 x464004_1 _ _ x464005_1 _ _ x464006_1 ((rd_T40 t464 x8_1).f0) ((rd_T40 t464 x8_1).f1) t470 t471 t472 t473 t474 t475 t478 t481 t482 _ ?side1 ?side2 ?side3 ?side4 A16.out).mono ?_
              (case side1 => repeat (first | exact (Kd.R_reads' HO_464005.out).2.2 | (with_reducible refine Kd.C_alloc ?_ _) | (with_reducible refine Kd.C_drewN ?_ _) | (with_reducible refine Kd.C_drew ?_)))
              (case side2 => exact (Kd.R_reads' HO_464005.out).2.1)
              (case side3 => repeat (first | exact (Kd.R_reads' HO_464006.out).2.2 | (with_reducible refine Kd.C_alloc ?_ _) | (with_reducible refine Kd.C_drewN ?_ _) | (with_reducible refine Kd.C_drew ?_)))
              (case side4 => exact (Kd.R_reads' HO_464006.out).2.1)
              rintro e w24 ⟨v476, v479, rfl, ho0, ho1, hb⟩
              have HS7_ := (hb.cell (World.block_lt_of_cell? _ _ (hHeld.2.2.2.2.2.2.2.1))).trans (hHeld.2.2.2.2.2.2.2.1)
              have HS8_ := (hb.cell (World.block_lt_of_cell? _ _ (hHeld.2.2.2.2.2.2.2.2))).trans (hHeld.2.2.2.2.2.2.2.2)
              refine ⟨_, rfl, ?_⟩
              have n0_ := Aside0.mk (Kd.R_below (by (with_reducible repeat (first | apply Kd.R_alloc | apply Kd.R_drewN | apply Kd.R_drew)); exact HO_7.out) hb)
              have n1_ := Aside0.mk (Kd.R_elder' (by (with_reducible repeat (first | apply Kd.R_alloc | apply Kd.R_drewN | apply Kd.R_drew)); exact HO_464005.out) (Kd.R_base ho0) hb)
              have n2_ := Aside0.mk (Kd.R_elder' (by (with_reducible repeat (first | apply Kd.R_alloc | apply Kd.R_drewN | apply Kd.R_drew)); exact HO_464006.out) (Kd.R_base ho1) hb)
              have n3_ := Aside0.mk (Kd.R_lower (Kd.R_new' ho0 (Kd.R_lt (by (with_reducible repeat (first | apply Kd.R_alloc | apply Kd.R_drewN | apply Kd.R_drew)); exact HO_464005.out))) (below_size (by repeat (first | (with_reducible first | exact HB.out | apply below_alloc | apply pw_below_drewN | apply below_drew1 | refine below_set ?_ GE451.out | refine below_set ?_ GE463.out) | exact HB.out))))
              have n4_ := Aside0.mk (Kd.R_lower (Kd.R_new' ho1 (Kd.R_lt (by (with_reducible repeat (first | apply Kd.R_alloc | apply Kd.R_drewN | apply Kd.R_drew)); exact HO_464006.out))) (below_size (by repeat (first | (with_reducible first | exact HB.out | apply below_alloc | apply pw_below_drewN | apply below_drew1 | refine below_set ?_ GE451.out | refine below_set ?_ GE463.out) | exact HB.out))))
              have n5_ := Aside0.mk (blk_below (g := gb451) (o := .cells #[.int .i64 a0_0, .int .i64 a0_1, .int .i64 a0_2, .int .i64 a0_3, .int .i64 a0_4, .slice A0_5 l0_5.length c0_5, .slice A0_6 l0_6.length c0_6, .slice A0_7 l0_7.length c0_7] 24 (0, 0)) (by (with_reducible repeat (first | refine blk_drewN ?_ _ | refine blk_drew ?_ | refine blk_alloc ?_ _)); exact BK451.out) hb)
              have n6_ := Aside0.mk (blk_below (g := gb463) (o := .cells #[.int .i64 x464000_1, .int .i64 x464001_1, .int .i64 x464002_1, .int .i64 x464003_1, .int .i64 x464004_1, .slice Ao22 x464005_1.length co22, .slice Ao23 x464006_1.length co23] 29 (0, 0)) (by (with_reducible repeat (first | refine blk_drewN ?_ _ | refine blk_drew ?_ | refine blk_alloc ?_ _)); exact BK463.out) hb)
              have n7_ := Aside0.mk (below_step (by repeat (first | (with_reducible first | exact HB.out | apply below_alloc | apply pw_below_drewN | apply below_drew1 | refine below_set ?_ GE451.out | refine below_set ?_ GE463.out) | exact HB.out)) hb)
              clear HO_7
              clear HO_464005
              clear HO_464006
              clear BK451
              clear BK463
              clear HB
              have HO_7 := n0_
              have HO_464005 := n1_
              have HO_464006 := n2_
              have HO477 := n3_
              have HO480 := n4_
              have BK451 := n5_
              have BK463 := n6_
              have HB := n7_
              clear n0_ n1_ n2_ n3_ n4_ n5_ n6_ n7_
              (try clear hb)
              (try clear hb2)
              (try clear hk)
              (try clear hi)
              (try clear ho0)
              (try clear ho1)
              obtain ⟨Ao30, co30, eo30⟩ := Kd.R_slice HO477.out
              (first | subst eo30 | (injection eo30 with f1_ f2_ f3_; have f4_ := f1_.symm; have f5_ := f3_.symm; clear f1_ f2_ f3_; subst f4_; subst f5_))
              obtain ⟨Ao32, co32, eo32⟩ := Kd.R_slice HO480.out
              (first | subst eo32 | (injection eo32 with f1_ f2_ f3_; have f4_ := f1_.symm; have f5_ := f3_.symm; clear f1_ f2_ f3_; subst f4_; subst f5_))
              refine hK.out _ _ ⟨(blk_cell BK463.out 0).trans rfl, (blk_cell BK463.out 1).trans rfl, (blk_cell BK463.out 2).trans rfl, (blk_cell BK463.out 3).trans rfl, (blk_cell BK463.out 4).trans rfl, (blk_cell BK463.out 5).trans rfl, (blk_cell BK463.out 6).trans rfl, HS7_, HS8_⟩ (fun hHeld => ?_)
              clear hK K
              refine norm_ (a' := ?_) ?_ ?_
              rotate_left
              · show Act.put _ (some 27) _ = _
                simp only [Act.put, List.setIfInBounds_toArray, List.set_cons_zero, List.set_cons_succ, i64_w, i32_w]
                rfl
              refine pure_ (i := 6) (N := some 21) (v := ?_) (a' := ?_) #[true, true, true, true, true, true, true, false, false, false, false] rfl rfl (any_of HT_.out (by kernel_rfl)) (fun _ _ _ h => h) (Or.inl ⟨by rfl, ?_⟩) ?_ ?_
              rotate_left
              · intro w'
                go_simp
                with_reducible rfl
              rotate_left
              · simp only [Act.put, List.setIfInBounds_toArray, List.set_cons_zero, List.set_cons_succ, i64_w, i32_w]
                rfl
              refine pure_ (i := 7) (N := some 28) (v := ?_) (a' := ?_) #[true, true, true, true, true, true, true, true, false, false, false] rfl rfl (any_of HT_.out (by kernel_rfl)) (fun _ _ _ h => h) (Or.inl ⟨by rfl, ?_⟩) ?_ ?_
              rotate_left
              · intro w'
                go_simp
                with_reducible rfl
              rotate_left
              · simp only [Act.put, List.setIfInBounds_toArray, List.set_cons_zero, List.set_cons_succ, i64_w, i32_w]
                rfl
              refine pure_ (i := 8) (N := some 29) (v := ?_) (a' := ?_) #[true, true, true, true, true, true, true, true, true, false, false] rfl rfl (any_of HT_.out (by kernel_rfl)) (fun _ _ _ h => h) (Or.inl ⟨by rfl, ?_⟩) ?_ ?_
              rotate_left
              · intro w'
                go_simp
                with_reducible rfl
              rotate_left
              · simp only [Act.put, List.setIfInBounds_toArray, List.set_cons_zero, List.set_cons_succ, i64_w, i32_w]
                rfl
              refine pure_ (i := 9) (N := some 30) (v := ?_) (a' := ?_) #[true, true, true, true, true, true, true, true, true, true, false] rfl rfl (any_of HT_.out (by kernel_rfl)) (fun _ _ _ h => h) (Or.inl ⟨by rfl, ?_⟩) ?_ ?_
              rotate_left
              · intro w'
                go_simp
                with_reducible rfl
              rotate_left
              · simp only [Act.put, List.setIfInBounds_toArray, List.set_cons_zero, List.set_cons_succ, i64_w, i32_w]
                rfl
              refine last_ (i := 10) (N := none) #[true, true, true, true, true, true, true, true, true, true, true] rfl rfl (one_of HT_.out (by kernel_rfl)) (by decide) (fun K hK => ?_)
              have hs25 : w24.cell? ⟨gb463, 0, none⟩ = some (.int .i64 x464000_1) := (blk_cell BK463.out 0).trans rfl
              have hfs25 := blk_frozen BK463.out 0
              have hns25_0 := NB451_463.out
              have hms25_0 := NB463_451.out
              have hs26 : w24.cell? ⟨gb463, 1, none⟩ = some (.int .i64 x464001_1) := (blk_cell BK463.out 1).trans rfl
              have hfs26 := blk_frozen BK463.out 1
              have hns26_0 := NB451_463.out
              have hms26_0 := NB463_451.out
              have hs27 : w24.cell? ⟨gb463, 2, none⟩ = some (.int .i64 x464002_1) := (blk_cell BK463.out 2).trans rfl
              have hfs27 := blk_frozen BK463.out 2
              have hns27_0 := NB451_463.out
              have hms27_0 := NB463_451.out
              have hs28 : w24.cell? ⟨gb463, 3, none⟩ = some (.int .i64 x464003_1) := (blk_cell BK463.out 3).trans rfl
              have hfs28 := blk_frozen BK463.out 3
              have hns28_0 := NB451_463.out
              have hms28_0 := NB463_451.out
              have hs29 : w24.cell? ⟨gb463, 4, none⟩ = some (.int .i64 x464004_1) := (blk_cell BK463.out 4).trans rfl
              have hfs29 := blk_frozen BK463.out 4
              have hns29_0 := NB451_463.out
              have hms29_0 := NB463_451.out
              have hs31 : w24.cell? ⟨gb463, 5, none⟩ = some (.slice Ao22 x464005_1.length co22) := (blk_cell BK463.out 5).trans rfl
              have hfs31 := blk_frozen BK463.out 5
              have hns31_0 := NB451_463.out
              have hms31_0 := NB463_451.out
              have hs33 : w24.cell? ⟨gb463, 6, none⟩ = some (.slice Ao23 x464006_1.length co23) := (blk_cell BK463.out 6).trans rfl
              have hfs33 := blk_frozen BK463.out 6
              have hns33_0 := NB451_463.out
              have hms33_0 := NB463_451.out
              refine skip_ (w1 := ?_) (by rfl) rfl ?_ ?_
              rotate_left
              · go_simp
                rfl
              refine hK.out _ _ ?_
              clear hK K
              refine done_ (done_of HT_.out (by kernel_rfl)) ?_
              have hnb34 := NB463_451.out
              have hnc34 := NB451_463.out
              have hcz35_0 : w24.cell? ⟨gb463, 0, none⟩ = some (.int .i64 x464000_1) := (blk_cell BK463.out 0).trans rfl
              have hcz35_1 : w24.cell? ⟨gb463, 1, none⟩ = some (.int .i64 x464001_1) := (blk_cell BK463.out 1).trans rfl
              have hcz35_2 : w24.cell? ⟨gb463, 2, none⟩ = some (.int .i64 x464002_1) := (blk_cell BK463.out 2).trans rfl
              have hcz35_3 : w24.cell? ⟨gb463, 3, none⟩ = some (.int .i64 x464003_1) := (blk_cell BK463.out 3).trans rfl
              have hcz35_4 : w24.cell? ⟨gb463, 4, none⟩ = some (.int .i64 x464004_1) := (blk_cell BK463.out 4).trans rfl
              have hcz35_5 : w24.cell? ⟨gb463, 5, none⟩ = some (.slice Ao22 x464005_1.length co22) := (blk_cell BK463.out 5).trans rfl
              have hcz35_6 : w24.cell? ⟨gb463, 6, none⟩ = some (.slice Ao23 x464006_1.length co23) := (blk_cell BK463.out 6).trans rfl
              have hfz35_0 := blk_frozen BK463.out 0
              have hfz35_1 := blk_frozen BK463.out 1
              have hfz35_2 := blk_frozen BK463.out 2
              have hfz35_3 := blk_frozen BK463.out 3
              have hfz35_4 := blk_frozen BK463.out 4
              have hfz35_5 := blk_frozen BK463.out 5
              have hfz35_6 := blk_frozen BK463.out 6
              try go_wp2_with (first | (go_at_call 21; (with_reducible refine (datalink_Aligned.calls t470 t471 t472 t473 t474 _ _ t475 _ _ t478 true _ ?side1 ?side2 ?side3 ?side4 A18.out).mono ?_); (case side1 => refine (Kd.R_reads' (e := 46) (base := w.heap.size) (ok := fun k_ => (True ∧ some k_ ≠ (.slice Ao22 x464005_1.length co22 : Value).ownBlock)) (n := t475.length) (c := co30) ?_).2.2; exact (by (with_reducible repeat (first | apply Kd.R_alloc | apply Kd.R_drewN | apply Kd.R_drew)); exact (Kd.R_mono (Kd.R_far (p := ⟨gb463, 6, none⟩) (Kd.R_far (p := ⟨gb463, 5, none⟩) (Kd.R_far (p := ⟨gb463, 4, none⟩) (Kd.R_far (p := ⟨gb463, 3, none⟩) (Kd.R_far (p := ⟨gb463, 2, none⟩) (Kd.R_far (p := ⟨gb463, 1, none⟩) (Kd.R_far (p := ⟨gb463, 0, none⟩) (Kd.R_types HO477.out BK463.out (by decide)) (fun _ hk => hk.2) (.int .i64 t470)) (fun _ hk => hk.2) (.int .i64 t471)) (fun _ hk => hk.2) (.int .i64 t472)) (fun _ hk => hk.2) (.int .i64 t473)) (fun _ hk => hk.2) (.int .i64 t474)) (fun _ hk => hk.2) (.slice Ao30 t475.length co30)) (fun _ hk => hk.2) (.slice Ao32 t478.length co32)) (fun _ h_ => h_.1)))); (case side2 => exact (Kd.R_reads' HO477.out).2.1); (case side3 => refine (Kd.R_reads' (e := 3) (base := w.heap.size) (ok := fun k_ => (True ∧ some k_ ≠ (.slice Ao23 x464006_1.length co23 : Value).ownBlock)) (n := t478.length) (c := co32) ?_).2.2; exact (by (with_reducible repeat (first | apply Kd.R_alloc | apply Kd.R_drewN | apply Kd.R_drew)); exact (Kd.R_mono (Kd.R_far (p := ⟨gb463, 6, none⟩) (Kd.R_far (p := ⟨gb463, 5, none⟩) (Kd.R_far (p := ⟨gb463, 4, none⟩) (Kd.R_far (p := ⟨gb463, 3, none⟩) (Kd.R_far (p := ⟨gb463, 2, none⟩) (Kd.R_far (p := ⟨gb463, 1, none⟩) (Kd.R_far (p := ⟨gb463, 0, none⟩) (Kd.R_types HO480.out BK463.out (by decide)) (fun _ hk => hk.2) (.int .i64 t470)) (fun _ hk => hk.2) (.int .i64 t471)) (fun _ hk => hk.2) (.int .i64 t472)) (fun _ hk => hk.2) (.int .i64 t473)) (fun _ hk => hk.2) (.int .i64 t474)) (fun _ hk => hk.2) (.slice Ao30 t475.length co30)) (fun _ hk => hk.2) (.slice Ao32 t478.length co32)) (fun _ h_ => h_.1)))); (case side4 => exact (Kd.R_reads' HO480.out).2.1); rintro e w36 ⟨rfl, hb⟩; have n0_ := Aside0.mk (Kd.R_below (by (with_reducible repeat (first | apply Kd.R_alloc | apply Kd.R_drewN | apply Kd.R_drew)); exact (Kd.R_mono (Kd.R_far (p := ⟨gb463, 6, none⟩) (Kd.R_far (p := ⟨gb463, 5, none⟩) (Kd.R_far (p := ⟨gb463, 4, none⟩) (Kd.R_far (p := ⟨gb463, 3, none⟩) (Kd.R_far (p := ⟨gb463, 2, none⟩) (Kd.R_far (p := ⟨gb463, 1, none⟩) (Kd.R_far (p := ⟨gb463, 0, none⟩) (Kd.R_types HO_7.out BK463.out (by decide)) (fun _ hk => hk.2) (.int .i64 t470)) (fun _ hk => hk.2) (.int .i64 t471)) (fun _ hk => hk.2) (.int .i64 t472)) (fun _ hk => hk.2) (.int .i64 t473)) (fun _ hk => hk.2) (.int .i64 t474)) (fun _ hk => hk.2) (.slice Ao30 t475.length co30)) (fun _ hk => hk.2) (.slice Ao32 t478.length co32)) (fun _ h_ => h_.1))) hb); have n1_ := Aside0.mk (Kd.R_below (by (with_reducible repeat (first | apply Kd.R_alloc | apply Kd.R_drewN | apply Kd.R_drew)); exact (Kd.R_mono (Kd.R_far (p := ⟨gb463, 6, none⟩) (Kd.R_far (p := ⟨gb463, 5, none⟩) (Kd.R_far (p := ⟨gb463, 4, none⟩) (Kd.R_far (p := ⟨gb463, 3, none⟩) (Kd.R_far (p := ⟨gb463, 2, none⟩) (Kd.R_far (p := ⟨gb463, 1, none⟩) (Kd.R_far (p := ⟨gb463, 0, none⟩) (Kd.R_types HO_464005.out BK463.out (by decide)) (fun _ hk => hk.2) (.int .i64 t470)) (fun _ hk => hk.2) (.int .i64 t471)) (fun _ hk => hk.2) (.int .i64 t472)) (fun _ hk => hk.2) (.int .i64 t473)) (fun _ hk => hk.2) (.int .i64 t474)) (fun _ hk => hk.2) (.slice Ao30 t475.length co30)) (fun _ hk => hk.2) (.slice Ao32 t478.length co32)) (fun _ h_ => h_.1))) hb); have n2_ := Aside0.mk (Kd.R_below (by (with_reducible repeat (first | apply Kd.R_alloc | apply Kd.R_drewN | apply Kd.R_drew)); exact (Kd.R_mono (Kd.R_far (p := ⟨gb463, 6, none⟩) (Kd.R_far (p := ⟨gb463, 5, none⟩) (Kd.R_far (p := ⟨gb463, 4, none⟩) (Kd.R_far (p := ⟨gb463, 3, none⟩) (Kd.R_far (p := ⟨gb463, 2, none⟩) (Kd.R_far (p := ⟨gb463, 1, none⟩) (Kd.R_far (p := ⟨gb463, 0, none⟩) (Kd.R_types HO_464006.out BK463.out (by decide)) (fun _ hk => hk.2) (.int .i64 t470)) (fun _ hk => hk.2) (.int .i64 t471)) (fun _ hk => hk.2) (.int .i64 t472)) (fun _ hk => hk.2) (.int .i64 t473)) (fun _ hk => hk.2) (.int .i64 t474)) (fun _ hk => hk.2) (.slice Ao30 t475.length co30)) (fun _ hk => hk.2) (.slice Ao32 t478.length co32)) (fun _ h_ => h_.1))) hb); have n3_ := Aside0.mk (Kd.R_below (by (with_reducible repeat (first | apply Kd.R_alloc | apply Kd.R_drewN | apply Kd.R_drew)); exact (Kd.R_mono (Kd.R_far (p := ⟨gb463, 6, none⟩) (Kd.R_far (p := ⟨gb463, 5, none⟩) (Kd.R_far (p := ⟨gb463, 4, none⟩) (Kd.R_far (p := ⟨gb463, 3, none⟩) (Kd.R_far (p := ⟨gb463, 2, none⟩) (Kd.R_far (p := ⟨gb463, 1, none⟩) (Kd.R_far (p := ⟨gb463, 0, none⟩) (Kd.R_types HO477.out BK463.out (by decide)) (fun _ hk => hk.2) (.int .i64 t470)) (fun _ hk => hk.2) (.int .i64 t471)) (fun _ hk => hk.2) (.int .i64 t472)) (fun _ hk => hk.2) (.int .i64 t473)) (fun _ hk => hk.2) (.int .i64 t474)) (fun _ hk => hk.2) (.slice Ao30 t475.length co30)) (fun _ hk => hk.2) (.slice Ao32 t478.length co32)) (fun _ h_ => h_.1))) hb); have n4_ := Aside0.mk (Kd.R_below (by (with_reducible repeat (first | apply Kd.R_alloc | apply Kd.R_drewN | apply Kd.R_drew)); exact (Kd.R_mono (Kd.R_far (p := ⟨gb463, 6, none⟩) (Kd.R_far (p := ⟨gb463, 5, none⟩) (Kd.R_far (p := ⟨gb463, 4, none⟩) (Kd.R_far (p := ⟨gb463, 3, none⟩) (Kd.R_far (p := ⟨gb463, 2, none⟩) (Kd.R_far (p := ⟨gb463, 1, none⟩) (Kd.R_far (p := ⟨gb463, 0, none⟩) (Kd.R_types HO480.out BK463.out (by decide)) (fun _ hk => hk.2) (.int .i64 t470)) (fun _ hk => hk.2) (.int .i64 t471)) (fun _ hk => hk.2) (.int .i64 t472)) (fun _ hk => hk.2) (.int .i64 t473)) (fun _ hk => hk.2) (.int .i64 t474)) (fun _ hk => hk.2) (.slice Ao30 t475.length co30)) (fun _ hk => hk.2) (.slice Ao32 t478.length co32)) (fun _ h_ => h_.1))) hb); have n5_ := Aside0.mk (blk_below (g := gb451) (o := .cells #[.int .i64 a0_0, .int .i64 a0_1, .int .i64 a0_2, .int .i64 a0_3, .int .i64 a0_4, .slice A0_5 l0_5.length c0_5, .slice A0_6 l0_6.length c0_6, .slice A0_7 l0_7.length c0_7] 24 (0, 0)) (by (with_reducible repeat (first | refine blk_drewN ?_ _ | refine blk_drew ?_ | refine blk_alloc ?_ _)); refine blk_far ?_ NB451_463.out _; (with_reducible repeat (first | refine blk_drewN ?_ _ | refine blk_drew ?_ | refine blk_alloc ?_ _)); refine blk_far ?_ NB451_463.out _; (with_reducible repeat (first | refine blk_drewN ?_ _ | refine blk_drew ?_ | refine blk_alloc ?_ _)); refine blk_far ?_ NB451_463.out _; (with_reducible repeat (first | refine blk_drewN ?_ _ | refine blk_drew ?_ | refine blk_alloc ?_ _)); refine blk_far ?_ NB451_463.out _; (with_reducible repeat (first | refine blk_drewN ?_ _ | refine blk_drew ?_ | refine blk_alloc ?_ _)); refine blk_far ?_ NB451_463.out _; (with_reducible repeat (first | refine blk_drewN ?_ _ | refine blk_drew ?_ | refine blk_alloc ?_ _)); refine blk_far ?_ NB451_463.out _; (with_reducible repeat (first | refine blk_drewN ?_ _ | refine blk_drew ?_ | refine blk_alloc ?_ _)); refine blk_far ?_ NB451_463.out _; (with_reducible repeat (first | refine blk_drewN ?_ _ | refine blk_drew ?_ | refine blk_alloc ?_ _)); exact BK451.out) hb); have n6_ := Aside0.mk (blk_below (g := gb463) (o := .cells #[.int .i64 t470, .int .i64 t471, .int .i64 t472, .int .i64 t473, .int .i64 t474, .slice Ao30 t475.length co30, .slice Ao32 t478.length co32] 29 (0, 0)) (by (with_reducible repeat (first | refine blk_drewN ?_ _ | refine blk_drew ?_ | refine blk_alloc ?_ _)); refine blk_put (cs := #[.int .i64 t470, .int .i64 t471, .int .i64 t472, .int .i64 t473, .int .i64 t474, .slice Ao30 t475.length co30, .slice Ao23 x464006_1.length co23]) ?_ 6 _ rfl; (with_reducible repeat (first | refine blk_drewN ?_ _ | refine blk_drew ?_ | refine blk_alloc ?_ _)); refine blk_put (cs := #[.int .i64 t470, .int .i64 t471, .int .i64 t472, .int .i64 t473, .int .i64 t474, .slice Ao22 x464005_1.length co22, .slice Ao23 x464006_1.length co23]) ?_ 5 _ rfl; (with_reducible repeat (first | refine blk_drewN ?_ _ | refine blk_drew ?_ | refine blk_alloc ?_ _)); refine blk_put (cs := #[.int .i64 t470, .int .i64 t471, .int .i64 t472, .int .i64 t473, .int .i64 x464004_1, .slice Ao22 x464005_1.length co22, .slice Ao23 x464006_1.length co23]) ?_ 4 _ rfl; (with_reducible repeat (first | refine blk_drewN ?_ _ | refine blk_drew ?_ | refine blk_alloc ?_ _)); refine blk_put (cs := #[.int .i64 t470, .int .i64 t471, .int .i64 t472, .int .i64 x464003_1, .int .i64 x464004_1, .slice Ao22 x464005_1.length co22, .slice Ao23 x464006_1.length co23]) ?_ 3 _ rfl; (with_reducible repeat (first | refine blk_drewN ?_ _ | refine blk_drew ?_ | refine blk_alloc ?_ _)); refine blk_put (cs := #[.int .i64 t470, .int .i64 t471, .int .i64 x464002_1, .int .i64 x464003_1, .int .i64 x464004_1, .slice Ao22 x464005_1.length co22, .slice Ao23 x464006_1.length co23]) ?_ 2 _ rfl; (with_reducible repeat (first | refine blk_drewN ?_ _ | refine blk_drew ?_ | refine blk_alloc ?_ _)); refine blk_put (cs := #[.int .i64 t470, .int .i64 x464001_1, .int .i64 x464002_1, .int .i64 x464003_1, .int .i64 x464004_1, .slice Ao22 x464005_1.length co22, .slice Ao23 x464006_1.length co23]) ?_ 1 _ rfl; (with_reducible repeat (first | refine blk_drewN ?_ _ | refine blk_drew ?_ | refine blk_alloc ?_ _)); refine blk_put (cs := #[.int .i64 x464000_1, .int .i64 x464001_1, .int .i64 x464002_1, .int .i64 x464003_1, .int .i64 x464004_1, .slice Ao22 x464005_1.length co22, .slice Ao23 x464006_1.length co23]) ?_ 0 _ rfl; (with_reducible repeat (first | refine blk_drewN ?_ _ | refine blk_drew ?_ | refine blk_alloc ?_ _)); exact BK463.out) hb); have n7_ := Aside0.mk (below_step (by repeat (first | (with_reducible first | exact HB.out | apply below_alloc | apply pw_below_drewN | apply below_drew1 | refine below_set ?_ GE451.out | refine below_set ?_ GE463.out) | exact HB.out)) hb); clear HO_7; clear HO_464005; clear HO_464006; clear HO477; clear HO480; clear BK451; clear BK463; clear HB; have HO_7 := n0_; have HO_464005 := n1_; have HO_464006 := n2_; have HO477 := n3_; have HO480 := n4_; have BK451 := n5_; have BK463 := n6_; have HB := n7_; clear n0_ n1_ n2_ n3_ n4_ n5_ n6_ n7_; (try clear hb); (try clear hb2); (try clear hk); (try clear hi)))
              go_roundg k1
              case measure => have := HK1.out; omega
              case rel => exact ⟨(wrap64 (x8_1 + 1)), (t470), (t471), (t472), (t473), (t474), (t475), (t478), (.slice Ao30 t475.length co30), (.slice Ao32 t478.length co32), (by first | rfl | (simp; done) | (simp [*]; done)), H', ⟨by have := HK1.out; omega⟩, ⟨by (with_reducible repeat (first | apply Kd.R_alloc | apply Kd.R_drewN | apply Kd.R_drew)); exact HO_7.out⟩, ⟨by (with_reducible repeat (first | apply Kd.R_alloc | apply Kd.R_drewN | apply Kd.R_drew)); exact Kd.R_mono HO477.out (fun _ hk => trivial)⟩, ⟨by (with_reducible repeat (first | apply Kd.R_alloc | apply Kd.R_drewN | apply Kd.R_drew)); exact Kd.R_mono HO480.out (fun _ hk => trivial)⟩, ⟨by (with_reducible repeat (first | refine blk_drewN ?_ _ | refine blk_drew ?_ | refine blk_alloc ?_ _)); exact BK451.out⟩, ⟨by (with_reducible repeat (first | refine blk_drewN ?_ _ | refine blk_drew ?_ | refine blk_alloc ?_ _)); exact BK463.out⟩, ⟨by repeat (first | (with_reducible first | exact HB.out | apply below_alloc | apply pw_below_drewN | apply below_drew1 | refine below_set ?_ GE451.out | refine below_set ?_ GE463.out) | exact HB.out)⟩⟩
            · replace c19 := Bool.eq_false_iff.mpr c19
              subst c19
              have H1 : (none) = some r := by rw [if_neg (show ¬ (false = true) by decide)] at H; exact H
              clear H
              have H := H1
              clear H1
              exact absurd H (by simp)
          · rw [if_neg c17] at H
            have c17b0 : decide (t471 ≤ (wrap64 (t473 - t455))) = false := decide_eq_false c17
            clear c17
            have H' := Aside0.mk H
            clear H
            obtain ⟨Ao37, co37, eo37⟩ := Kd.R_slice HO_7.out
            subst eo37
            try go_wp2
            have n0_ := Aside0.mk (Kd.R_drew HO_7.out)
            have n1_ := Aside0.mk (Kd.R_drew HO_464005.out)
            have n2_ := Aside0.mk (Kd.R_drew HO_464006.out)
            have n3_ := Aside0.mk (blk_drew BK451.out)
            have n4_ := Aside0.mk (blk_drew BK463.out)
            have n5_ := Aside0.mk (below_drew1 HB.out)
            clear HO_7
            clear HO_464005
            clear HO_464006
            clear BK451
            clear BK463
            clear HB
            have HO_7 := n0_
            have HO_464005 := n1_
            have HO_464006 := n2_
            have BK451 := n3_
            have BK463 := n4_
            have HB := n5_
            clear n0_ n1_ n2_ n3_ n4_ n5_
            have p469 : 0 ≤ (x8_1 : Int) := of_decide_eq_true (by first | (with_reducible assumption) | assumption)
            have q469 : x8_1 < (t464.length : Int) := of_decide_eq_true (by first | (with_reducible assumption) | assumption)
            (try (obtain ⟨Az469, cz469, ez469⟩ := Kd.R_slice HO_7.out; subst ez469))
            obtain ⟨ad469, e469, hx469_0, hx469_1⟩ := at_T40 (Kd.R_reads' HO_7.out).2.2 x8_1 p469 q469
            cases e469
            replace p469 := eq_true p469
            replace q469 := eq_true q469
            obtain ⟨Ao39, co39, eo39⟩ := Kd.R_slice HO_464005.out
            (first | subst eo39 | (injection eo39 with f1_ f2_ f3_; have f4_ := f1_.symm; have f5_ := f3_.symm; clear f1_ f2_ f3_; subst f4_; subst f5_))
            obtain ⟨Ao40, co40, eo40⟩ := Kd.R_slice HO_464006.out
            (first | subst eo40 | (injection eo40 with f1_ f2_ f3_; have f4_ := f1_.symm; have f5_ := f3_.symm; clear f1_ f2_ f3_; subst f4_; subst f5_))
            refine start_ (n := 11) (S := fun w' => w'.cell? ⟨gb463, 0, none⟩ = some (.int .i64 x464000_1) ∧ w'.cell? ⟨gb463, 1, none⟩ = some (.int .i64 x464001_1) ∧ w'.cell? ⟨gb463, 2, none⟩ = some (.int .i64 x464002_1) ∧ w'.cell? ⟨gb463, 3, none⟩ = some (.int .i64 x464003_1) ∧ w'.cell? ⟨gb463, 4, none⟩ = some (.int .i64 x464004_1) ∧ w'.cell? ⟨gb463, 5, none⟩ = some (.slice Ao39 x464005_1.length co39) ∧ w'.cell? ⟨gb463, 6, none⟩ = some (.slice Ao40 x464006_1.length co40) ∧ w'.cell? (ad469.add ((x8_1).toNat * 2)) = some (.int .i64 ((rd_T40 t464 x8_1).f0)) ∧ w'.cell? ⟨(ad469.add ((x8_1).toNat * 2)).block, (ad469.add ((x8_1).toNat * 2)).off + 1, none⟩ = some (.int .i64 ((rd_T40 t464 x8_1).f1))) (ds := [10]) #[false, false, false, false, false, false, false, false, false, false, false] (by kernel_rfl) rfl rfl ⟨(blk_cell BK463.out 0).trans rfl, (blk_cell BK463.out 1).trans rfl, (blk_cell BK463.out 2).trans rfl, (blk_cell BK463.out 3).trans rfl, (blk_cell BK463.out 4).trans rfl, (blk_cell BK463.out 5).trans rfl, (blk_cell BK463.out 6).trans rfl, hx469_0, hx469_1⟩ (fun hHeld => ?_); refine with_tabW selfstablaw42_DatalinkAligns.tab7 selfstablaw42_DatalinkAligns.bits7 (fun HT_ HW_ => ?_)
            generalize wr.drew = w38 at HO_7 HO_464005 HO_464006 BK451 BK463 HB hx469_0 hx469_1 hHeld ⊢
            refine pure_ (i := 1) (N := some 23) (v := ?_) (a' := ?_) #[false, true, false, false, false, false, false, false, false, false, false] rfl rfl (any_of HT_.out (by kernel_rfl)) (fun _ _ _ h => h) (Or.inl ⟨by rfl, ?_⟩) ?_ ?_
            rotate_left
            · intro w'
              go_simp
              with_reducible rfl
            rotate_left
            · simp only [Act.put, List.setIfInBounds_toArray, List.set_cons_zero, List.set_cons_succ, i64_w, i32_w]
              rfl
            refine pure_ (i := 2) (N := some 24) (v := ?_) (a' := ?_) #[false, true, true, false, false, false, false, false, false, false, false] rfl rfl (any_of HT_.out (by kernel_rfl)) (fun _ _ _ h => h) (Or.inl ⟨by rfl, ?_⟩) ?_ ?_
            rotate_left
            · intro w'
              go_simp
              with_reducible rfl
            rotate_left
            · simp only [Act.put, List.setIfInBounds_toArray, List.set_cons_zero, List.set_cons_succ, i64_w, i32_w]
              rfl
            refine pure_ (i := 3) (N := some 25) (v := ?_) (a' := ?_) #[false, true, true, true, false, false, false, false, false, false, false] rfl rfl (any_of HT_.out (by kernel_rfl)) (fun _ _ _ h => h) (Or.inl ⟨by rfl, ?_⟩) ?_ ?_
            rotate_left
            · intro w'
              go_simp
              with_reducible rfl
            rotate_left
            · simp only [Act.put, List.setIfInBounds_toArray, List.set_cons_zero, List.set_cons_succ, i64_w, i32_w]
              rfl
            refine take_ (i := 0) (N := some 22) (v := ?_) (a' := ?_) #[true, true, true, true, false, false, false, false, false, false, false] rfl rfl (take_ofW HT_.out HW_.out (by kernel_rfl)) (fun _ _ _ h => h) (Or.inl ⟨by rfl, ?_⟩) hHeld ?_ ?_
            rotate_left
            · rintro w' ⟨s0, s1, s2, s3, s4, s5, s6, s7, s8⟩
              go_simp
              with_reducible rfl
            rotate_left
            · simp only [Act.put, List.setIfInBounds_toArray, List.set_cons_zero, List.set_cons_succ, i64_w, i32_w]
              rfl
            refine take_ (i := 4) (N := some 26) (v := ?_) (a' := ?_) #[true, true, true, true, true, false, false, false, false, false, false] rfl rfl (take_ofW HT_.out HW_.out (by kernel_rfl)) (fun _ _ _ h => h) (Or.inl ⟨by rfl, ?_⟩) hHeld ?_ ?_
            rotate_left
            · rintro w' ⟨s0, s1, s2, s3, s4, s5, s6, s7, s8⟩
              go_simp
              with_reducible rfl
            rotate_left
            · simp only [Act.put, List.setIfInBounds_toArray, List.set_cons_zero, List.set_cons_succ, i64_w, i32_w]
              rfl
            refine one_ (i := 5) (N := some 27) #[true, true, true, true, true, true, false, false, false, false, false] rfl rfl (one_of HT_.out (by kernel_rfl)) (by decide) (fun K hK => ?_)
            refine goes_ Try.func18 (by kernel_rfl) rfl #[.agg #[.int .i64 x464000_1, .int .i64 x464001_1, .int .i64 x464002_1, .int .i64 x464003_1, .int .i64 x464004_1, .slice Ao39 x464005_1.length co39, .slice Ao40 x464006_1.length co40], .agg #[.int .i64 ((rd_T40 t464 x8_1).f0), .int .i64 ((rd_T40 t464 x8_1).f1)]] (by rfl) rfl rfl (by (try simp only [List.map_toArray, List.map_cons, List.map_nil]); first | done | rfl | (simp only [List.length_drop, List.length_take]; rfl)) ?_
            with_reducible refine (datalink_Step.calls x464000_1 x464001_1 x464002_1 x464003_1 x464004_1 _ _ x464005_1 _ _ x464006_1 ((rd_T40 t464 x8_1).f0) ((rd_T40 t464 x8_1).f1) t470 t471 t472 t473 t474 t475 t478 t481 t482 _ ?side1 ?side2 ?side3 ?side4 A16.out).mono ?_
            (case side1 => repeat (first | exact (Kd.R_reads' HO_464005.out).2.2 | (with_reducible refine Kd.C_alloc ?_ _) | (with_reducible refine Kd.C_drewN ?_ _) | (with_reducible refine Kd.C_drew ?_)))
            (case side2 => exact (Kd.R_reads' HO_464005.out).2.1)
            (case side3 => repeat (first | exact (Kd.R_reads' HO_464006.out).2.2 | (with_reducible refine Kd.C_alloc ?_ _) | (with_reducible refine Kd.C_drewN ?_ _) | (with_reducible refine Kd.C_drew ?_)))
            (case side4 => exact (Kd.R_reads' HO_464006.out).2.1)
            rintro e w41 ⟨v476, v479, rfl, ho0, ho1, hb⟩
            have HS7_ := (hb.cell (World.block_lt_of_cell? _ _ (hHeld.2.2.2.2.2.2.2.1))).trans (hHeld.2.2.2.2.2.2.2.1)
            have HS8_ := (hb.cell (World.block_lt_of_cell? _ _ (hHeld.2.2.2.2.2.2.2.2))).trans (hHeld.2.2.2.2.2.2.2.2)
            refine ⟨_, rfl, ?_⟩
            have n0_ := Aside0.mk (Kd.R_below (by (with_reducible repeat (first | apply Kd.R_alloc | apply Kd.R_drewN | apply Kd.R_drew)); exact HO_7.out) hb)
            have n1_ := Aside0.mk (Kd.R_elder' (by (with_reducible repeat (first | apply Kd.R_alloc | apply Kd.R_drewN | apply Kd.R_drew)); exact HO_464005.out) (Kd.R_base ho0) hb)
            have n2_ := Aside0.mk (Kd.R_elder' (by (with_reducible repeat (first | apply Kd.R_alloc | apply Kd.R_drewN | apply Kd.R_drew)); exact HO_464006.out) (Kd.R_base ho1) hb)
            have n3_ := Aside0.mk (Kd.R_lower (Kd.R_new' ho0 (Kd.R_lt (by (with_reducible repeat (first | apply Kd.R_alloc | apply Kd.R_drewN | apply Kd.R_drew)); exact HO_464005.out))) (below_size (by repeat (first | (with_reducible first | exact HB.out | apply below_alloc | apply pw_below_drewN | apply below_drew1 | refine below_set ?_ GE451.out | refine below_set ?_ GE463.out) | exact HB.out))))
            have n4_ := Aside0.mk (Kd.R_lower (Kd.R_new' ho1 (Kd.R_lt (by (with_reducible repeat (first | apply Kd.R_alloc | apply Kd.R_drewN | apply Kd.R_drew)); exact HO_464006.out))) (below_size (by repeat (first | (with_reducible first | exact HB.out | apply below_alloc | apply pw_below_drewN | apply below_drew1 | refine below_set ?_ GE451.out | refine below_set ?_ GE463.out) | exact HB.out))))
            have n5_ := Aside0.mk (blk_below (g := gb451) (o := .cells #[.int .i64 a0_0, .int .i64 a0_1, .int .i64 a0_2, .int .i64 a0_3, .int .i64 a0_4, .slice A0_5 l0_5.length c0_5, .slice A0_6 l0_6.length c0_6, .slice A0_7 l0_7.length c0_7] 24 (0, 0)) (by (with_reducible repeat (first | refine blk_drewN ?_ _ | refine blk_drew ?_ | refine blk_alloc ?_ _)); exact BK451.out) hb)
            have n6_ := Aside0.mk (blk_below (g := gb463) (o := .cells #[.int .i64 x464000_1, .int .i64 x464001_1, .int .i64 x464002_1, .int .i64 x464003_1, .int .i64 x464004_1, .slice Ao39 x464005_1.length co39, .slice Ao40 x464006_1.length co40] 29 (0, 0)) (by (with_reducible repeat (first | refine blk_drewN ?_ _ | refine blk_drew ?_ | refine blk_alloc ?_ _)); exact BK463.out) hb)
            have n7_ := Aside0.mk (below_step (by repeat (first | (with_reducible first | exact HB.out | apply below_alloc | apply pw_below_drewN | apply below_drew1 | refine below_set ?_ GE451.out | refine below_set ?_ GE463.out) | exact HB.out)) hb)
            clear HO_7
            clear HO_464005
            clear HO_464006
            clear BK451
            clear BK463
            clear HB
            have HO_7 := n0_
            have HO_464005 := n1_
            have HO_464006 := n2_
            have HO477 := n3_
            have HO480 := n4_
            have BK451 := n5_
            have BK463 := n6_
            have HB := n7_
            clear n0_ n1_ n2_ n3_ n4_ n5_ n6_ n7_
            (try clear hb)
            (try clear hb2)
            (try clear hk)
            (try clear hi)
            (try clear ho0)
            (try clear ho1)
            obtain ⟨Ao47, co47, eo47⟩ := Kd.R_slice HO477.out
            (first | subst eo47 | (injection eo47 with f1_ f2_ f3_; have f4_ := f1_.symm; have f5_ := f3_.symm; clear f1_ f2_ f3_; subst f4_; subst f5_))
            obtain ⟨Ao49, co49, eo49⟩ := Kd.R_slice HO480.out
            (first | subst eo49 | (injection eo49 with f1_ f2_ f3_; have f4_ := f1_.symm; have f5_ := f3_.symm; clear f1_ f2_ f3_; subst f4_; subst f5_))
            refine hK.out _ _ ⟨(blk_cell BK463.out 0).trans rfl, (blk_cell BK463.out 1).trans rfl, (blk_cell BK463.out 2).trans rfl, (blk_cell BK463.out 3).trans rfl, (blk_cell BK463.out 4).trans rfl, (blk_cell BK463.out 5).trans rfl, (blk_cell BK463.out 6).trans rfl, HS7_, HS8_⟩ (fun hHeld => ?_)
            clear hK K
            refine norm_ (a' := ?_) ?_ ?_
            rotate_left
            · show Act.put _ (some 27) _ = _
              simp only [Act.put, List.setIfInBounds_toArray, List.set_cons_zero, List.set_cons_succ, i64_w, i32_w]
              rfl
            refine pure_ (i := 6) (N := some 21) (v := ?_) (a' := ?_) #[true, true, true, true, true, true, true, false, false, false, false] rfl rfl (any_of HT_.out (by kernel_rfl)) (fun _ _ _ h => h) (Or.inl ⟨by rfl, ?_⟩) ?_ ?_
            rotate_left
            · intro w'
              go_simp
              with_reducible rfl
            rotate_left
            · simp only [Act.put, List.setIfInBounds_toArray, List.set_cons_zero, List.set_cons_succ, i64_w, i32_w]
              rfl
            refine pure_ (i := 7) (N := some 28) (v := ?_) (a' := ?_) #[true, true, true, true, true, true, true, true, false, false, false] rfl rfl (any_of HT_.out (by kernel_rfl)) (fun _ _ _ h => h) (Or.inl ⟨by rfl, ?_⟩) ?_ ?_
            rotate_left
            · intro w'
              go_simp
              with_reducible rfl
            rotate_left
            · simp only [Act.put, List.setIfInBounds_toArray, List.set_cons_zero, List.set_cons_succ, i64_w, i32_w]
              rfl
            refine pure_ (i := 8) (N := some 29) (v := ?_) (a' := ?_) #[true, true, true, true, true, true, true, true, true, false, false] rfl rfl (any_of HT_.out (by kernel_rfl)) (fun _ _ _ h => h) (Or.inl ⟨by rfl, ?_⟩) ?_ ?_
            rotate_left
            · intro w'
              go_simp
              with_reducible rfl
            rotate_left
            · simp only [Act.put, List.setIfInBounds_toArray, List.set_cons_zero, List.set_cons_succ, i64_w, i32_w]
              rfl
            refine pure_ (i := 9) (N := some 30) (v := ?_) (a' := ?_) #[true, true, true, true, true, true, true, true, true, true, false] rfl rfl (any_of HT_.out (by kernel_rfl)) (fun _ _ _ h => h) (Or.inl ⟨by rfl, ?_⟩) ?_ ?_
            rotate_left
            · intro w'
              go_simp
              with_reducible rfl
            rotate_left
            · simp only [Act.put, List.setIfInBounds_toArray, List.set_cons_zero, List.set_cons_succ, i64_w, i32_w]
              rfl
            refine last_ (i := 10) (N := none) #[true, true, true, true, true, true, true, true, true, true, true] rfl rfl (one_of HT_.out (by kernel_rfl)) (by decide) (fun K hK => ?_)
            have hs42 : w41.cell? ⟨gb463, 0, none⟩ = some (.int .i64 x464000_1) := (blk_cell BK463.out 0).trans rfl
            have hfs42 := blk_frozen BK463.out 0
            have hns42_0 := NB451_463.out
            have hms42_0 := NB463_451.out
            have hs43 : w41.cell? ⟨gb463, 1, none⟩ = some (.int .i64 x464001_1) := (blk_cell BK463.out 1).trans rfl
            have hfs43 := blk_frozen BK463.out 1
            have hns43_0 := NB451_463.out
            have hms43_0 := NB463_451.out
            have hs44 : w41.cell? ⟨gb463, 2, none⟩ = some (.int .i64 x464002_1) := (blk_cell BK463.out 2).trans rfl
            have hfs44 := blk_frozen BK463.out 2
            have hns44_0 := NB451_463.out
            have hms44_0 := NB463_451.out
            have hs45 : w41.cell? ⟨gb463, 3, none⟩ = some (.int .i64 x464003_1) := (blk_cell BK463.out 3).trans rfl
            have hfs45 := blk_frozen BK463.out 3
            have hns45_0 := NB451_463.out
            have hms45_0 := NB463_451.out
            have hs46 : w41.cell? ⟨gb463, 4, none⟩ = some (.int .i64 x464004_1) := (blk_cell BK463.out 4).trans rfl
            have hfs46 := blk_frozen BK463.out 4
            have hns46_0 := NB451_463.out
            have hms46_0 := NB463_451.out
            have hs48 : w41.cell? ⟨gb463, 5, none⟩ = some (.slice Ao39 x464005_1.length co39) := (blk_cell BK463.out 5).trans rfl
            have hfs48 := blk_frozen BK463.out 5
            have hns48_0 := NB451_463.out
            have hms48_0 := NB463_451.out
            have hs50 : w41.cell? ⟨gb463, 6, none⟩ = some (.slice Ao40 x464006_1.length co40) := (blk_cell BK463.out 6).trans rfl
            have hfs50 := blk_frozen BK463.out 6
            have hns50_0 := NB451_463.out
            have hms50_0 := NB463_451.out
            refine skip_ (w1 := ?_) (by rfl) rfl ?_ ?_
            rotate_left
            · go_simp
              rfl
            refine hK.out _ _ ?_
            clear hK K
            refine done_ (done_of HT_.out (by kernel_rfl)) ?_
            have hnb51 := NB463_451.out
            have hnc51 := NB451_463.out
            have hcz52_0 : w41.cell? ⟨gb463, 0, none⟩ = some (.int .i64 x464000_1) := (blk_cell BK463.out 0).trans rfl
            have hcz52_1 : w41.cell? ⟨gb463, 1, none⟩ = some (.int .i64 x464001_1) := (blk_cell BK463.out 1).trans rfl
            have hcz52_2 : w41.cell? ⟨gb463, 2, none⟩ = some (.int .i64 x464002_1) := (blk_cell BK463.out 2).trans rfl
            have hcz52_3 : w41.cell? ⟨gb463, 3, none⟩ = some (.int .i64 x464003_1) := (blk_cell BK463.out 3).trans rfl
            have hcz52_4 : w41.cell? ⟨gb463, 4, none⟩ = some (.int .i64 x464004_1) := (blk_cell BK463.out 4).trans rfl
            have hcz52_5 : w41.cell? ⟨gb463, 5, none⟩ = some (.slice Ao39 x464005_1.length co39) := (blk_cell BK463.out 5).trans rfl
            have hcz52_6 : w41.cell? ⟨gb463, 6, none⟩ = some (.slice Ao40 x464006_1.length co40) := (blk_cell BK463.out 6).trans rfl
            have hfz52_0 := blk_frozen BK463.out 0
            have hfz52_1 := blk_frozen BK463.out 1
            have hfz52_2 := blk_frozen BK463.out 2
            have hfz52_3 := blk_frozen BK463.out 3
            have hfz52_4 := blk_frozen BK463.out 4
            have hfz52_5 := blk_frozen BK463.out 5
            have hfz52_6 := blk_frozen BK463.out 6
            try go_wp2
            go_roundg k1
            case measure => have := HK1.out; omega
            case rel => exact ⟨(wrap64 (x8_1 + 1)), (t470), (t471), (t472), (t473), (t474), (t475), (t478), (.slice Ao47 t475.length co47), (.slice Ao49 t478.length co49), (by first | rfl | (simp; done) | (simp [*]; done)), H', ⟨by have := HK1.out; omega⟩, ⟨by (with_reducible repeat (first | apply Kd.R_alloc | apply Kd.R_drewN | apply Kd.R_drew)); exact Kd.R_mono (Kd.R_far (p := ⟨gb463, 6, none⟩) (Kd.R_far (p := ⟨gb463, 5, none⟩) (Kd.R_far (p := ⟨gb463, 4, none⟩) (Kd.R_far (p := ⟨gb463, 3, none⟩) (Kd.R_far (p := ⟨gb463, 2, none⟩) (Kd.R_far (p := ⟨gb463, 1, none⟩) (Kd.R_far (p := ⟨gb463, 0, none⟩) (Kd.R_types HO_7.out BK463.out (by decide)) (fun _ hk => hk.2) (.int .i64 t470)) (fun _ hk => hk.2) (.int .i64 t471)) (fun _ hk => hk.2) (.int .i64 t472)) (fun _ hk => hk.2) (.int .i64 t473)) (fun _ hk => hk.2) (.int .i64 t474)) (fun _ hk => hk.2) (.slice Ao47 t475.length co47)) (fun _ hk => hk.2) (.slice Ao49 t478.length co49)) (fun _ hk => trivial)⟩, ⟨by (with_reducible repeat (first | apply Kd.R_alloc | apply Kd.R_drewN | apply Kd.R_drew)); exact Kd.R_mono (Kd.R_far (p := ⟨gb463, 6, none⟩) (Kd.R_far (p := ⟨gb463, 5, none⟩) (Kd.R_far (p := ⟨gb463, 4, none⟩) (Kd.R_far (p := ⟨gb463, 3, none⟩) (Kd.R_far (p := ⟨gb463, 2, none⟩) (Kd.R_far (p := ⟨gb463, 1, none⟩) (Kd.R_far (p := ⟨gb463, 0, none⟩) (Kd.R_types HO477.out BK463.out (by decide)) (fun _ hk => hk.2) (.int .i64 t470)) (fun _ hk => hk.2) (.int .i64 t471)) (fun _ hk => hk.2) (.int .i64 t472)) (fun _ hk => hk.2) (.int .i64 t473)) (fun _ hk => hk.2) (.int .i64 t474)) (fun _ hk => hk.2) (.slice Ao47 t475.length co47)) (fun _ hk => hk.2) (.slice Ao49 t478.length co49)) (fun _ hk => trivial)⟩, ⟨by (with_reducible repeat (first | apply Kd.R_alloc | apply Kd.R_drewN | apply Kd.R_drew)); exact Kd.R_mono (Kd.R_far (p := ⟨gb463, 6, none⟩) (Kd.R_far (p := ⟨gb463, 5, none⟩) (Kd.R_far (p := ⟨gb463, 4, none⟩) (Kd.R_far (p := ⟨gb463, 3, none⟩) (Kd.R_far (p := ⟨gb463, 2, none⟩) (Kd.R_far (p := ⟨gb463, 1, none⟩) (Kd.R_far (p := ⟨gb463, 0, none⟩) (Kd.R_types HO480.out BK463.out (by decide)) (fun _ hk => hk.2) (.int .i64 t470)) (fun _ hk => hk.2) (.int .i64 t471)) (fun _ hk => hk.2) (.int .i64 t472)) (fun _ hk => hk.2) (.int .i64 t473)) (fun _ hk => hk.2) (.int .i64 t474)) (fun _ hk => hk.2) (.slice Ao47 t475.length co47)) (fun _ hk => hk.2) (.slice Ao49 t478.length co49)) (fun _ hk => trivial)⟩, ⟨by (with_reducible repeat (first | refine blk_drewN ?_ _ | refine blk_drew ?_ | refine blk_alloc ?_ _)); refine blk_far ?_ NB451_463.out _; (with_reducible repeat (first | refine blk_drewN ?_ _ | refine blk_drew ?_ | refine blk_alloc ?_ _)); refine blk_far ?_ NB451_463.out _; (with_reducible repeat (first | refine blk_drewN ?_ _ | refine blk_drew ?_ | refine blk_alloc ?_ _)); refine blk_far ?_ NB451_463.out _; (with_reducible repeat (first | refine blk_drewN ?_ _ | refine blk_drew ?_ | refine blk_alloc ?_ _)); refine blk_far ?_ NB451_463.out _; (with_reducible repeat (first | refine blk_drewN ?_ _ | refine blk_drew ?_ | refine blk_alloc ?_ _)); refine blk_far ?_ NB451_463.out _; (with_reducible repeat (first | refine blk_drewN ?_ _ | refine blk_drew ?_ | refine blk_alloc ?_ _)); refine blk_far ?_ NB451_463.out _; (with_reducible repeat (first | refine blk_drewN ?_ _ | refine blk_drew ?_ | refine blk_alloc ?_ _)); refine blk_far ?_ NB451_463.out _; (with_reducible repeat (first | refine blk_drewN ?_ _ | refine blk_drew ?_ | refine blk_alloc ?_ _)); exact BK451.out⟩, ⟨by (with_reducible repeat (first | refine blk_drewN ?_ _ | refine blk_drew ?_ | refine blk_alloc ?_ _)); refine blk_put (cs := #[.int .i64 t470, .int .i64 t471, .int .i64 t472, .int .i64 t473, .int .i64 t474, .slice Ao47 t475.length co47, .slice Ao40 x464006_1.length co40]) ?_ 6 _ rfl; (with_reducible repeat (first | refine blk_drewN ?_ _ | refine blk_drew ?_ | refine blk_alloc ?_ _)); refine blk_put (cs := #[.int .i64 t470, .int .i64 t471, .int .i64 t472, .int .i64 t473, .int .i64 t474, .slice Ao39 x464005_1.length co39, .slice Ao40 x464006_1.length co40]) ?_ 5 _ rfl; (with_reducible repeat (first | refine blk_drewN ?_ _ | refine blk_drew ?_ | refine blk_alloc ?_ _)); refine blk_put (cs := #[.int .i64 t470, .int .i64 t471, .int .i64 t472, .int .i64 t473, .int .i64 x464004_1, .slice Ao39 x464005_1.length co39, .slice Ao40 x464006_1.length co40]) ?_ 4 _ rfl; (with_reducible repeat (first | refine blk_drewN ?_ _ | refine blk_drew ?_ | refine blk_alloc ?_ _)); refine blk_put (cs := #[.int .i64 t470, .int .i64 t471, .int .i64 t472, .int .i64 x464003_1, .int .i64 x464004_1, .slice Ao39 x464005_1.length co39, .slice Ao40 x464006_1.length co40]) ?_ 3 _ rfl; (with_reducible repeat (first | refine blk_drewN ?_ _ | refine blk_drew ?_ | refine blk_alloc ?_ _)); refine blk_put (cs := #[.int .i64 t470, .int .i64 t471, .int .i64 x464002_1, .int .i64 x464003_1, .int .i64 x464004_1, .slice Ao39 x464005_1.length co39, .slice Ao40 x464006_1.length co40]) ?_ 2 _ rfl; (with_reducible repeat (first | refine blk_drewN ?_ _ | refine blk_drew ?_ | refine blk_alloc ?_ _)); refine blk_put (cs := #[.int .i64 t470, .int .i64 x464001_1, .int .i64 x464002_1, .int .i64 x464003_1, .int .i64 x464004_1, .slice Ao39 x464005_1.length co39, .slice Ao40 x464006_1.length co40]) ?_ 1 _ rfl; (with_reducible repeat (first | refine blk_drewN ?_ _ | refine blk_drew ?_ | refine blk_alloc ?_ _)); refine blk_put (cs := #[.int .i64 x464000_1, .int .i64 x464001_1, .int .i64 x464002_1, .int .i64 x464003_1, .int .i64 x464004_1, .slice Ao39 x464005_1.length co39, .slice Ao40 x464006_1.length co40]) ?_ 0 _ rfl; (with_reducible repeat (first | refine blk_drewN ?_ _ | refine blk_drew ?_ | refine blk_alloc ?_ _)); exact BK463.out⟩, ⟨by repeat (first | (with_reducible first | exact HB.out | apply below_alloc | apply pw_below_drewN | apply below_drew1 | refine below_set ?_ GE451.out | refine below_set ?_ GE463.out) | exact HB.out)⟩⟩
        · rw [if_neg c15] at H
          exact absurd H (by simp)
      · rw [if_neg c14] at H
        have c14b0 : decide (x8_1 < (t464.length : Int)) = false := decide_eq_false c14
        clear c14
        replace H := Option.bind_eq_some_iff.mp H
        obtain ⟨t467, A530, H⟩ := H
        replace H : (if t467 = true then ((datalink_Valid.f x464000_1 x464001_1 x464002_1 x464003_1 x464004_1 x464005_1 x464006_1).bind fun t468 => (some t468)) else (none)) = some r := H
        have A53 := Aside0.mk A530
        clear A530
        by_cases c54 : t467 = true
        · subst c54
          have H1 : ((datalink_Valid.f x464000_1 x464001_1 x464002_1 x464003_1 x464004_1 x464005_1 x464006_1).bind fun t468 => (some t468)) = some r := by rw [if_pos rfl] at H; exact H
          clear H
          have H := H1
          clear H1
          replace H := Option.bind_eq_some_iff.mp H
          obtain ⟨t468, A550, H⟩ := H
          replace H : (some t468) = some r := H
          have A55 := Aside0.mk A550
          clear A550
          obtain rfl := Option.some.inj H
          obtain ⟨Ao56, co56, eo56⟩ := Kd.R_slice HO_7.out
          subst eo56
          go_wp2_with (first | ((with_reducible refine gate_callee (f := 9) rfl ?_); refine goesL_ (some 43) rfl rfl Try.func9 (by kernel_rfl) rfl #[] rfl (by (try simp only [List.map_toArray, List.map_cons, List.map_nil]); first | done | rfl | (simp only [List.length_drop, List.length_take]; rfl)) ?_; (with_reducible refine (selfstablaw42_known.calls k1  true _ A53.out).mono ?_); rintro e w57 ⟨rfl, hb⟩; refine ⟨_, rfl, ?_⟩; have n0_ := Aside0.mk (Kd.R_below (by (with_reducible repeat (first | apply Kd.R_alloc | apply Kd.R_drewN | apply Kd.R_drew)); exact HO_7.out) hb); have n1_ := Aside0.mk (Kd.R_below (by (with_reducible repeat (first | apply Kd.R_alloc | apply Kd.R_drewN | apply Kd.R_drew)); exact HO_464005.out) hb); have n2_ := Aside0.mk (Kd.R_below (by (with_reducible repeat (first | apply Kd.R_alloc | apply Kd.R_drewN | apply Kd.R_drew)); exact HO_464006.out) hb); have n3_ := Aside0.mk (blk_below (g := gb451) (o := .cells #[.int .i64 a0_0, .int .i64 a0_1, .int .i64 a0_2, .int .i64 a0_3, .int .i64 a0_4, .slice A0_5 l0_5.length c0_5, .slice A0_6 l0_6.length c0_6, .slice A0_7 l0_7.length c0_7] 24 (0, 0)) (by (with_reducible repeat (first | refine blk_drewN ?_ _ | refine blk_drew ?_ | refine blk_alloc ?_ _)); exact BK451.out) hb); have n4_ := Aside0.mk (blk_below (g := gb463) (o := .cells #[.int .i64 x464000_1, .int .i64 x464001_1, .int .i64 x464002_1, .int .i64 x464003_1, .int .i64 x464004_1, u464005, u464006] 29 (0, 0)) (by (with_reducible repeat (first | refine blk_drewN ?_ _ | refine blk_drew ?_ | refine blk_alloc ?_ _)); exact BK463.out) hb); have n5_ := Aside0.mk (below_step (by repeat (first | (with_reducible first | exact HB.out | apply below_alloc | apply pw_below_drewN | apply below_drew1 | refine below_set ?_ GE451.out | refine below_set ?_ GE463.out) | exact HB.out)) hb); clear HO_7; clear HO_464005; clear HO_464006; clear BK451; clear BK463; clear HB; have HO_7 := n0_; have HO_464005 := n1_; have HO_464006 := n2_; have BK451 := n3_; have BK463 := n4_; have HB := n5_; clear n0_ n1_ n2_ n3_ n4_ n5_; (try clear hb); (try clear hb2); (try clear hk); (try clear hi); have hnb58 := NB463_451.out; have hnc58 := NB451_463.out; have hcz59_0 : w57.cell? ⟨gb463, 0, none⟩ = some (.int .i64 x464000_1) := (blk_cell BK463.out 0).trans rfl; have hcz59_1 : w57.cell? ⟨gb463, 1, none⟩ = some (.int .i64 x464001_1) := (blk_cell BK463.out 1).trans rfl; have hcz59_2 : w57.cell? ⟨gb463, 2, none⟩ = some (.int .i64 x464002_1) := (blk_cell BK463.out 2).trans rfl; have hcz59_3 : w57.cell? ⟨gb463, 3, none⟩ = some (.int .i64 x464003_1) := (blk_cell BK463.out 3).trans rfl; have hcz59_4 : w57.cell? ⟨gb463, 4, none⟩ = some (.int .i64 x464004_1) := (blk_cell BK463.out 4).trans rfl; have hcz59_5 : w57.cell? ⟨gb463, 5, none⟩ = some (u464005) := (blk_cell BK463.out 5).trans rfl; have hcz59_6 : w57.cell? ⟨gb463, 6, none⟩ = some (u464006) := (blk_cell BK463.out 6).trans rfl; have hfz59_0 := blk_frozen BK463.out 0; have hfz59_1 := blk_frozen BK463.out 1; have hfz59_2 := blk_frozen BK463.out 2; have hfz59_3 := blk_frozen BK463.out 3; have hfz59_4 := blk_frozen BK463.out 4; have hfz59_5 := blk_frozen BK463.out 5; have hfz59_6 := blk_frozen BK463.out 6; obtain ⟨Ao60, co60, eo60⟩ := Kd.R_slice HO_464005.out; subst eo60; obtain ⟨Ao61, co61, eo61⟩ := Kd.R_slice HO_464006.out; subst eo61) | (go_at_call 14; (with_reducible refine (datalink_Valid.calls x464000_1 x464001_1 x464002_1 x464003_1 x464004_1 _ _ x464005_1 _ _ x464006_1 t468 _ ?side1 ?side2 ?side3 ?side4 A55.out).mono ?_); (case side1 => repeat (first | exact (Kd.R_reads' HO_464005.out).2.2 | (with_reducible refine Kd.C_alloc ?_ _) | (with_reducible refine Kd.C_drewN ?_ _) | (with_reducible refine Kd.C_drew ?_))); (case side2 => exact (Kd.R_reads' HO_464005.out).2.1); (case side3 => repeat (first | exact (Kd.R_reads' HO_464006.out).2.2 | (with_reducible refine Kd.C_alloc ?_ _) | (with_reducible refine Kd.C_drewN ?_ _) | (with_reducible refine Kd.C_drew ?_))); (case side4 => exact (Kd.R_reads' HO_464006.out).2.1); rintro e w62 ⟨rfl, hb⟩; have n0_ := Aside0.mk (Kd.R_below (by (with_reducible repeat (first | apply Kd.R_alloc | apply Kd.R_drewN | apply Kd.R_drew)); exact HO_7.out) hb); have n1_ := Aside0.mk (Kd.R_below (by (with_reducible repeat (first | apply Kd.R_alloc | apply Kd.R_drewN | apply Kd.R_drew)); exact HO_464005.out) hb); have n2_ := Aside0.mk (Kd.R_below (by (with_reducible repeat (first | apply Kd.R_alloc | apply Kd.R_drewN | apply Kd.R_drew)); exact HO_464006.out) hb); have n3_ := Aside0.mk (blk_below (g := gb451) (o := .cells #[.int .i64 a0_0, .int .i64 a0_1, .int .i64 a0_2, .int .i64 a0_3, .int .i64 a0_4, .slice A0_5 l0_5.length c0_5, .slice A0_6 l0_6.length c0_6, .slice A0_7 l0_7.length c0_7] 24 (0, 0)) (by (with_reducible repeat (first | refine blk_drewN ?_ _ | refine blk_drew ?_ | refine blk_alloc ?_ _)); exact BK451.out) hb); have n4_ := Aside0.mk (blk_below (g := gb463) (o := .cells #[.int .i64 x464000_1, .int .i64 x464001_1, .int .i64 x464002_1, .int .i64 x464003_1, .int .i64 x464004_1, .slice Ao60 x464005_1.length co60, .slice Ao61 x464006_1.length co61] 29 (0, 0)) (by (with_reducible repeat (first | refine blk_drewN ?_ _ | refine blk_drew ?_ | refine blk_alloc ?_ _)); exact BK463.out) hb); have n5_ := Aside0.mk (below_step (by repeat (first | (with_reducible first | exact HB.out | apply below_alloc | apply pw_below_drewN | apply below_drew1 | refine below_set ?_ GE451.out | refine below_set ?_ GE463.out) | exact HB.out)) hb); clear HO_7; clear HO_464005; clear HO_464006; clear BK451; clear BK463; clear HB; have HO_7 := n0_; have HO_464005 := n1_; have HO_464006 := n2_; have BK451 := n3_; have BK463 := n4_; have HB := n5_; clear n0_ n1_ n2_ n3_ n4_ n5_; (try clear hb); (try clear hb2); (try clear hk); (try clear hi)))
          go_ret
          exact ⟨by first | rfl | (simp [errW_none, errW_some] <;> rfl) | (simp [*, errW_none, errW_some] <;> rfl), by repeat (first | (with_reducible first | exact HB.out | apply below_alloc | apply pw_below_drewN | apply below_drew1 | refine below_set ?_ GE451.out | refine below_set ?_ GE463.out) | exact HB.out)⟩
        · replace c54 := Bool.eq_false_iff.mpr c54
          subst c54
          have H1 : (none) = some r := by rw [if_neg (show ¬ (false = true) by decide)] at H; exact H
          clear H
          have H := H1
          clear H1
          exact absurd H (by simp)

end Go.Proofs.Ytdhkplfkbdldfaa.P
