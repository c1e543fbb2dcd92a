-- By a program of this session (wip/tools/myprint.py over the kit's printer). Not trusted: Lean checks it.
import Derived.Test.YtdhkplfkbdldfaaP0
import Derived.Test.YtdhkplfkbdldfaaP2
import Derived.Test.YtdhkplfkbdldfaaP4
import Derived.Test.YtdhkplfkbdldfaaP5
import Derived.Test.YtdhkplfkbdldfaaGDAligned
import Derived.Test.YtdhkplfkbdldfaaGDStep
import Derived.Test.YtdhkplfkbdldfaaGDValid
namespace Go.Proofs.Ytdhkplfkbdldfaa.P
open Go.RowKit Go.Proofs.YtdhkplfkbdldfaaW.PrintWords Go.Proofs.YtdhkplfkbdldfaaW.PrintLast Go.Proofs.YtdhkplfkbdldfaaW.PrintMore
attribute [local go_sem] max2_int min2_int max_two min_two max_three min_three max_four min_four   -- for this text's walks alone
set_option linter.unusedVariables false
set_option linter.unusedSimpArgs false

/-! ### selfstablaw42_DatalinkStays: function 7 -/
def selfstablaw42_DatalinkStays.l0 : Nat → List (S40) → Int → Int → Int → Int → Int → Int → List (S46) → List Int → Option (Bool)
  | 0, _, _, _, _, _, _, _, _, _ => none
  | k + 1, x6, x7, x429000, x429001, x429002, x429003, x429004, x429005, x429006 => if x7 < (x6.length : Int) then ((datalink_Aligned.f x429000 x429001 x429002 x429003 x429004 x429005 x429006).bind fun t434 => (if 0 ≤ x7 then ((datalink_Step.f x429000 x429001 x429002 x429003 x429004 x429005 x429006 ((rd_T40 x6 x7).f0) ((rd_T40 x6 x7).f1)).bind fun bt436 => (if t434 = true then ((datalink_Aligned.f bt436.1 bt436.2.1 bt436.2.2.1 bt436.2.2.2.1 bt436.2.2.2.2.1 bt436.2.2.2.2.2.1 bt436.2.2.2.2.2.2.1).bind fun t450 => (if t450 = true then (selfstablaw42_DatalinkStays.l0 k x6 (wrap64 (x7 + 1)) bt436.1 bt436.2.1 bt436.2.2.1 bt436.2.2.2.1 bt436.2.2.2.2.1 bt436.2.2.2.2.2.1 bt436.2.2.2.2.2.2.1) else (none))) else (selfstablaw42_DatalinkStays.l0 k x6 (wrap64 (x7 + 1)) bt436.1 bt436.2.1 bt436.2.2.1 bt436.2.2.2.1 bt436.2.2.2.2.1 bt436.2.2.2.2.2.1 bt436.2.2.2.2.2.2.1))) else (none))) else ((selfstablaw42_known.f k).bind fun t432 => (if t432 = true then ((datalink_Valid.f x429000 x429001 x429002 x429003 x429004 x429005 x429006).bind fun t433 => (some t433)) else (none)))
def selfstablaw42_DatalinkStays.f (k : Nat) (a0_0 : Int) (a0_1 : Int) (a0_2 : Int) (a0_3 : Int) (a0_4 : Int) (l0_5 : List Int) (l0_6 : List Int) (l0_7 : List Int) (l1 : List (S40)) : Option (Bool) := (selfstablaw42_Raw_Link.f k a0_0 a0_1 a0_2 a0_3 a0_4 l0_5 l0_6 l0_7).bind fun bt417 => ((selfstablaw42_events.f k l1 60).bind fun t429 => (selfstablaw42_DatalinkStays.l0 k t429 0 bt417.1 bt417.2.1 bt417.2.2.1 bt417.2.2.2.1 bt417.2.2.2.2.1 bt417.2.2.2.2.2.1 bt417.2.2.2.2.2.2))
theorem selfstablaw42_DatalinkStays.mono_l : ∀ k, (∀ y0 y1 y2 y3 y4 y5 y6 y7 y8, LeO (selfstablaw42_DatalinkStays.l0 k y0 y1 y2 y3 y4 y5 y6 y7 y8) (selfstablaw42_DatalinkStays.l0 (k + 1) y0 y1 y2 y3 y4 y5 y6 y7 y8))
  | 0 => fun _ _ _ _ _ _ _ _ _ r h => by simp [selfstablaw42_DatalinkStays.l0] at h
  | k + 1 => by
    have ih0 := selfstablaw42_DatalinkStays.mono_l k
    · intro y0 y1 y2 y3 y4 y5 y6 y7 y8
      unfold selfstablaw42_DatalinkStays.l0
      repeat' first
      | (with_reducible exact ih0 _ _ _ _ _ _ _ _ _)
      | (with_reducible exact selfstablaw42_Raw_Link.mono _ _ _ _ _ _ _ _ _)
      | (with_reducible exact selfstablaw42_events.mono _ _ _)
      | (with_reducible exact selfstablaw42_known.mono _)
      | (with_reducible exact LeO.refl _)
      | (with_reducible exact LeO.none _)
      | (with_reducible refine LeO.ite ?_ ?_)
      | (with_reducible refine LeO.bind ?_ (fun _ => ?_))
      | exact ih0 _ _ _ _ _ _ _ _ _
      | exact selfstablaw42_Raw_Link.mono _ _ _ _ _ _ _ _ _
      | exact selfstablaw42_events.mono _ _ _
      | exact selfstablaw42_known.mono _
      | exact LeO.none _
      | refine LeO.ite ?_ ?_
      | refine LeO.bind ?_ (fun _ => ?_)
theorem selfstablaw42_DatalinkStays.mono : ∀ a0 a1 a2 a3 a4 a5 a6 a7 a8 k, LeO (selfstablaw42_DatalinkStays.f k a0 a1 a2 a3 a4 a5 a6 a7 a8) (selfstablaw42_DatalinkStays.f (k + 1) a0 a1 a2 a3 a4 a5 a6 a7 a8) := by
  intro a0 a1 a2 a3 a4 a5 a6 a7 a8 k
  have ih0 := selfstablaw42_DatalinkStays.mono_l k
  unfold selfstablaw42_DatalinkStays.f
  repeat' first
      | (with_reducible exact ih0 _ _ _ _ _ _ _ _ _)
      | (with_reducible exact selfstablaw42_Raw_Link.mono _ _ _ _ _ _ _ _ _)
      | (with_reducible exact selfstablaw42_events.mono _ _ _)
      | (with_reducible exact selfstablaw42_known.mono _)
      | (with_reducible exact LeO.refl _)
      | (with_reducible exact LeO.none _)
      | (with_reducible refine LeO.ite ?_ ?_)
      | (with_reducible refine LeO.bind ?_ (fun _ => ?_))
      | exact ih0 _ _ _ _ _ _ _ _ _
      | exact selfstablaw42_Raw_Link.mono _ _ _ _ _ _ _ _ _
      | exact selfstablaw42_events.mono _ _ _
      | exact selfstablaw42_known.mono _
      | exact LeO.none _
      | refine LeO.ite ?_ ?_
      | refine LeO.bind ?_ (fun _ => ?_)
def selfstablaw42_DatalinkStays.T7 : Bool × List (List Nat × List Nat) := (true, [([], []), ([], []), ([], []), ([1, 2], [1, 2]), ([3], [3]), ([0, 4], [0, 4]), ([5], [5]), ([6], [6]), ([6], [6]), ([6], [6]), ([], []), ([10, 7, 5, 0, 1, 2, 3, 4, 5, 6, 7, 10], [7, 10]), ([8, 11, 0, 1, 2, 3, 4, 5, 6, 7, 8, 10, 11], [8]), ([9, 12, 0, 1, 2, 3, 4, 5, 6, 7, 8, 9, 10, 11, 12], [9])])
def selfstablaw42_DatalinkStays.B7 : List Nat := [0, 0, 0, 6, 14, 31, 63, 127, 127, 127, 0, 1279, 3583, 8191]
theorem selfstablaw42_DatalinkStays.tab7 : rtab .any (opsOf Try.f7 7) = selfstablaw42_DatalinkStays.T7 := by kernel_rfl
theorem selfstablaw42_DatalinkStays.bits7 : waitsOk selfstablaw42_DatalinkStays.T7.2 selfstablaw42_DatalinkStays.B7 = true := by kernel_rfl
set_option maxHeartbeats 8000000 in
set_option maxRecDepth 100000 in
theorem selfstablaw42_DatalinkStays.calls (k : Nat) (a0_0 : Int) (a0_1 : Int) (a0_2 : Int) (a0_3 : Int) (a0_4 : Int) (A0_5 : Option Addr) (c0_5 : Nat) (l0_5 : List Int) (A0_6 : Option Addr) (c0_6 : Nat) (l0_6 : List Int) (A0_7 : Option Addr) (c0_7 : Nat) (l0_7 : List Int) (A1 : Option Addr) (c1 : Nat) (l1 : List (S40)) (r : Bool) (w : World) (hr0_5 : Kd.C (Kd.int .i64) w A0_5 l0_5.length l0_5) (hc0_5 : l0_5.length ≤ c0_5) (hr0_6 : Kd.C (Kd.int .i64) w A0_6 l0_6.length l0_6) (hc0_6 : l0_6.length ≤ c0_6) (hr0_7 : Kd.C (Kd.int .i64) w A0_7 l0_7.length l0_7) (hc0_7 : l0_7.length ≤ c0_7) (hr1 : Kd.C k40 w A1 l1.length l1) (hc1 : l1.length ≤ c1) (h : selfstablaw42_DatalinkStays.f k a0_0 a0_1 a0_2 a0_3 a0_4 l0_5 l0_6 l0_7 l1 = some r) :
    Calls Try.prog 7 #[.agg #[.int .i64 a0_0, .int .i64 a0_1, .int .i64 a0_2, .int .i64 a0_3, .int .i64 a0_4, .slice A0_5 l0_5.length c0_5, .slice A0_6 l0_6.length c0_6, .slice A0_7 l0_7.length c0_7], .slice A1 l1.length c1] w fun e w' => e = .returned (.bool r) ∧ Below w.heap.size w w' := by
  have hu24 := Try.underlying24
  have hu29 := Try.underlying29
  have hu40 := Try.underlying40
  have HR0_5 := Aside0.mk hr0_5
  have HC0_5 := Aside0.mk hc0_5
  clear hr0_5 hc0_5
  have HR0_6 := Aside0.mk hr0_6
  have HC0_6 := Aside0.mk hc0_6
  clear hr0_6 hc0_6
  have HR0_7 := Aside0.mk hr0_7
  have HC0_7 := Aside0.mk hc0_7
  clear hr0_7 hc0_7
  have HR1 := Aside0.mk hr1
  have HC1 := Aside0.mk hc1
  clear hr1 hc1
  have HB := Aside0.mk (Below.refl w.heap.size w)
  have H : ((selfstablaw42_Raw_Link.f k a0_0 a0_1 a0_2 a0_3 a0_4 l0_5 l0_6 l0_7).bind fun bt417 => ((selfstablaw42_events.f k l1 60).bind fun t429 => (selfstablaw42_DatalinkStays.l0 k t429 0 bt417.1 bt417.2.1 bt417.2.2.1 bt417.2.2.2.1 bt417.2.2.2.2.1 bt417.2.2.2.2.2.1 bt417.2.2.2.2.2.2))) = some r := h
  clear h
  replace H := Option.bind_eq_some_iff.mp H
  obtain ⟨⟨t417, t418, t419, t420, t421, t422, t425⟩, A30, H⟩ := H
  replace H : ((selfstablaw42_events.f k l1 60).bind fun t429 => (selfstablaw42_DatalinkStays.l0 k t429 0 t417 t418 t419 t420 t421 t422 t425)) = some r := H
  have A3 := Aside0.mk A30
  clear A30
  replace H := Option.bind_eq_some_iff.mp H
  obtain ⟨t429, A40, H⟩ := H
  replace H : (selfstablaw42_DatalinkStays.l0 k t429 0 t417 t418 t419 t420 t421 t422 t425) = some r := H
  have A4 := Aside0.mk A40
  clear A40
  have H' := Aside0.mk H
  clear H
  go_enter Try.func7, Try.ntmps7
  go_wp2_with (first | ((with_reducible refine gate_dst (N := 2) rfl ?_); refine box_event ?hg (N := 2) ?hd (cs := #[.int .i64 a0_0, .int .i64 a0_1, .int .i64 a0_2, .int .i64 a0_3, .int .i64 a0_4, .slice A0_5 l0_5.length c0_5, .slice A0_6 l0_6.length c0_6, .slice A0_7 l0_7.length c0_7]) (t := 24) ?hr ?_; (case hd => rfl); (case hg => rfl); (case hr => first | (go_simp; done) | (go_simp; rfl)); intro gb416 hg w5 hbox hb; have n0_ := Aside0.mk (below_step (by repeat (first | (with_reducible first | exact HB.out | apply below_alloc | apply pw_below_drewN | apply below_drew1) | exact HB.out)) hb); have n1_ := Aside0.mk (hbox); have n2_ := Aside0.mk ((by rw [hg]; exact (below_size (by repeat (first | (with_reducible first | exact HB.out | apply below_alloc | apply pw_below_drewN | apply below_drew1) | exact HB.out))) : w.heap.size ≤ gb416)); have n3_ := Aside0.mk ((by rw [hg]; exact (below_size (by repeat (first | (with_reducible first | exact HB.out | apply below_alloc | apply pw_below_drewN | apply below_drew1) | exact HB.out))) : w.heap.size ≤ gb416)); clear HB; have HB := n0_; have BK416 := n1_; have GW416 := n2_; have GE416 := n3_; clear n0_ n1_ n2_ n3_; clear hb hbox hg; have hcz6_0 : w5.cell? ⟨gb416, 0, none⟩ = some (.int .i64 a0_0) := (blk_cell BK416.out 0).trans rfl; have hcz6_1 : w5.cell? ⟨gb416, 1, none⟩ = some (.int .i64 a0_1) := (blk_cell BK416.out 1).trans rfl; have hcz6_2 : w5.cell? ⟨gb416, 2, none⟩ = some (.int .i64 a0_2) := (blk_cell BK416.out 2).trans rfl; have hcz6_3 : w5.cell? ⟨gb416, 3, none⟩ = some (.int .i64 a0_3) := (blk_cell BK416.out 3).trans rfl; have hcz6_4 : w5.cell? ⟨gb416, 4, none⟩ = some (.int .i64 a0_4) := (blk_cell BK416.out 4).trans rfl; have hcz6_5 : w5.cell? ⟨gb416, 5, none⟩ = some (.slice A0_5 l0_5.length c0_5) := (blk_cell BK416.out 5).trans rfl; have hcz6_6 : w5.cell? ⟨gb416, 6, none⟩ = some (.slice A0_6 l0_6.length c0_6) := (blk_cell BK416.out 6).trans rfl; have hcz6_7 : w5.cell? ⟨gb416, 7, none⟩ = some (.slice A0_7 l0_7.length c0_7) := (blk_cell BK416.out 7).trans rfl; have hfz6_0 := blk_frozen BK416.out 0; have hfz6_1 := blk_frozen BK416.out 1; have hfz6_2 := blk_frozen BK416.out 2; have hfz6_3 := blk_frozen BK416.out 3; have hfz6_4 := blk_frozen BK416.out 4; have hfz6_5 := blk_frozen BK416.out 5; have hfz6_6 := blk_frozen BK416.out 6; have hfz6_7 := blk_frozen BK416.out 7) | ((with_reducible refine gate_callee (f := 10) rfl ?_); refine goesL_ (some 13) rfl rfl Try.func10 (by kernel_rfl) rfl #[.agg #[.int .i64 a0_0, .int .i64 a0_1, .int .i64 a0_2, .int .i64 a0_3, .int .i64 a0_4, .slice A0_5 l0_5.length c0_5, .slice A0_6 l0_6.length c0_6, .slice A0_7 l0_7.length c0_7]] rfl (by (try simp only [List.map_toArray, List.map_cons, List.map_nil]); first | done | rfl | (simp only [List.length_drop, List.length_take]; rfl)) ?_; (with_reducible refine (selfstablaw42_Raw_Link.calls k a0_0 a0_1 a0_2 a0_3 a0_4 _ _ l0_5 _ _ l0_6 _ _ l0_7 t417 t418 t419 t420 t421 t422 t425 _ ?side1 ?side2 ?side3 ?side4 ?side5 ?side6 A3.out).mono ?_); (case side1 => repeat (first | exact (Kd.C_below HR0_5.out HB.out) | (with_reducible refine Kd.C_alloc ?_ _) | (with_reducible refine Kd.C_drewN ?_ _) | (with_reducible refine Kd.C_drew ?_))); (case side2 => exact HC0_5.out); (case side3 => repeat (first | exact (Kd.C_below HR0_6.out HB.out) | (with_reducible refine Kd.C_alloc ?_ _) | (with_reducible refine Kd.C_drewN ?_ _) | (with_reducible refine Kd.C_drew ?_))); (case side4 => exact HC0_6.out); (case side5 => repeat (first | exact (Kd.C_below HR0_7.out HB.out) | (with_reducible refine Kd.C_alloc ?_ _) | (with_reducible refine Kd.C_drewN ?_ _) | (with_reducible refine Kd.C_drew ?_))); (case side6 => exact HC0_7.out); rintro e w7 ⟨v423, v426, rfl, ho0, ho1, hb⟩; refine ⟨_, rfl, ?_⟩; have n0_ := Aside0.mk (Kd.R_lower ho0 (below_size (by repeat (first | (with_reducible first | exact HB.out | apply below_alloc | apply pw_below_drewN | apply below_drew1 | refine below_set ?_ GE416.out) | exact HB.out)))); have n1_ := Aside0.mk (Kd.R_lower ho1 (below_size (by repeat (first | (with_reducible first | exact HB.out | apply below_alloc | apply pw_below_drewN | apply below_drew1 | refine below_set ?_ GE416.out) | exact HB.out)))); have n2_ := Aside0.mk (blk_below (g := gb416) (o := .cells #[.int .i64 a0_0, .int .i64 a0_1, .int .i64 a0_2, .int .i64 a0_3, .int .i64 a0_4, .slice A0_5 l0_5.length c0_5, .slice A0_6 l0_6.length c0_6, .slice A0_7 l0_7.length c0_7] 24 (0, 0)) (by (with_reducible repeat (first | refine blk_drewN ?_ _ | refine blk_drew ?_ | refine blk_alloc ?_ _)); exact BK416.out) hb); have n3_ := Aside0.mk (below_step (by repeat (first | (with_reducible first | exact HB.out | apply below_alloc | apply pw_below_drewN | apply below_drew1 | refine below_set ?_ GE416.out) | exact HB.out)) hb); clear BK416; clear HB; have HO424 := n0_; have HO427 := n1_; have BK416 := n2_; have HB := n3_; clear n0_ n1_ n2_ n3_; (try clear hb); (try clear hb2); (try clear hk); (try clear hi); (try clear ho0); (try clear ho1)) | ((with_reducible refine gate_dst (N := 5) rfl ?_); refine box_event ?hg (N := 5) ?hd (cs := #[.int .i64 0, .int .i64 0, .int .i64 0, .int .i64 0, .int .i64 0, .slice none 0 0, .slice none 0 0]) (t := 29) ?hr ?_; (case hd => rfl); (case hg => rfl); (case hr => first | (go_simp; done) | (go_simp; rfl)); intro gb428 hg w8 hbox hb; have n0_ := Aside0.mk (Kd.R_below (by (with_reducible repeat (first | apply Kd.R_alloc | apply Kd.R_drewN | apply Kd.R_drew)); exact HO424.out) hb); have n1_ := Aside0.mk (Kd.R_below (by (with_reducible repeat (first | apply Kd.R_alloc | apply Kd.R_drewN | apply Kd.R_drew)); exact HO427.out) hb); have n2_ := Aside0.mk (blk_below (g := gb416) (o := .cells #[.int .i64 a0_0, .int .i64 a0_1, .int .i64 a0_2, .int .i64 a0_3, .int .i64 a0_4, .slice A0_5 l0_5.length c0_5, .slice A0_6 l0_6.length c0_6, .slice A0_7 l0_7.length c0_7] 24 (0, 0)) (by (with_reducible repeat (first | refine blk_drewN ?_ _ | refine blk_drew ?_ | refine blk_alloc ?_ _)); exact BK416.out) hb); have n3_ := Aside0.mk (below_step (by repeat (first | (with_reducible first | exact HB.out | apply below_alloc | apply pw_below_drewN | apply below_drew1 | refine below_set ?_ GE416.out) | exact HB.out)) hb); have n4_ := Aside0.mk (hbox); have n5_ := Aside0.mk ((by rw [hg]; exact (below_size (by repeat (first | (with_reducible first | exact HB.out | apply below_alloc | apply pw_below_drewN | apply below_drew1 | refine below_set ?_ GE416.out) | exact HB.out))) : w.heap.size ≤ gb428)); have n6_ := Aside0.mk ((by rw [hg]; exact (below_size (by repeat (first | (with_reducible first | exact HB.out | apply below_alloc | apply pw_below_drewN | apply below_drew1 | refine below_set ?_ GE416.out) | exact HB.out))) : w.heap.size ≤ gb428)); have n7_ := Aside0.mk ((by rw [hg]; exact Nat.ne_of_lt (blk_lt (g := gb416) (o := .cells #[.int .i64 a0_0, .int .i64 a0_1, .int .i64 a0_2, .int .i64 a0_3, .int .i64 a0_4, .slice A0_5 l0_5.length c0_5, .slice A0_6 l0_6.length c0_6, .slice A0_7 l0_7.length c0_7] 24 (0, 0)) (by (with_reducible repeat (first | refine blk_drewN ?_ _ | refine blk_drew ?_ | refine blk_alloc ?_ _)); exact BK416.out)) : gb416 ≠ gb428)); have n8_ := Aside0.mk ((by rw [hg]; exact Nat.ne_of_gt (blk_lt (g := gb416) (o := .cells #[.int .i64 a0_0, .int .i64 a0_1, .int .i64 a0_2, .int .i64 a0_3, .int .i64 a0_4, .slice A0_5 l0_5.length c0_5, .slice A0_6 l0_6.length c0_6, .slice A0_7 l0_7.length c0_7] 24 (0, 0)) (by (with_reducible repeat (first | refine blk_drewN ?_ _ | refine blk_drew ?_ | refine blk_alloc ?_ _)); exact BK416.out)) : gb428 ≠ gb416)); clear HO424; clear HO427; clear BK416; clear HB; have HO424 := n0_; have HO427 := n1_; have BK416 := n2_; have HB := n3_; have BK428 := n4_; have GW428 := n5_; have GE428 := n6_; have NB416_428 := n7_; have NB428_416 := n8_; clear n0_ n1_ n2_ n3_ n4_ n5_ n6_ n7_ n8_; clear hb hbox hg; have hnb9 := NB428_416.out; have hnc9 := NB416_428.out; have hcz10_0 : w8.cell? ⟨gb428, 0, none⟩ = some (.int .i64 0) := (blk_cell BK428.out 0).trans rfl; have hcz10_1 : w8.cell? ⟨gb428, 1, none⟩ = some (.int .i64 0) := (blk_cell BK428.out 1).trans rfl; have hcz10_2 : w8.cell? ⟨gb428, 2, none⟩ = some (.int .i64 0) := (blk_cell BK428.out 2).trans rfl; have hcz10_3 : w8.cell? ⟨gb428, 3, none⟩ = some (.int .i64 0) := (blk_cell BK428.out 3).trans rfl; have hcz10_4 : w8.cell? ⟨gb428, 4, none⟩ = some (.int .i64 0) := (blk_cell BK428.out 4).trans rfl; have hcz10_5 : w8.cell? ⟨gb428, 5, none⟩ = some (.slice none 0 0) := (blk_cell BK428.out 5).trans rfl; have hcz10_6 : w8.cell? ⟨gb428, 6, none⟩ = some (.slice none 0 0) := (blk_cell BK428.out 6).trans rfl; have hfz10_0 := blk_frozen BK428.out 0; have hfz10_1 := blk_frozen BK428.out 1; have hfz10_2 := blk_frozen BK428.out 2; have hfz10_3 := blk_frozen BK428.out 3; have hfz10_4 := blk_frozen BK428.out 4; have hfz10_5 := blk_frozen BK428.out 5; have hfz10_6 := blk_frozen BK428.out 6; obtain ⟨Ao11, co11, eo11⟩ := Kd.R_slice HO424.out; subst eo11; obtain ⟨Ao12, co12, eo12⟩ := Kd.R_slice HO427.out; subst eo12) | ((with_reducible refine gate_callee (f := 13) rfl ?_); refine goesL_ (some 15) rfl rfl Try.func13 (by kernel_rfl) rfl #[.slice A1 l1.length c1, .int .i64 60] rfl (by (try simp only [List.map_toArray, List.map_cons, List.map_nil]); first | done | rfl | (simp only [List.length_drop, List.length_take]; rfl)) ?_; (with_reducible refine (selfstablaw42_events.calls k _ _ l1 60 t429 _ ?side1 ?side2 A4.out).mono ?_); (case side1 => exact Kd.C_below HR1.out (by repeat (first | (with_reducible first | exact HB.out | apply below_alloc | apply pw_below_drewN | apply below_drew1 | refine below_set ?_ GE416.out | refine below_set ?_ GE428.out) | exact HB.out))); (case side2 => exact HC1.out); rintro e w13 ⟨v430, rfl, ho0, hb⟩; refine ⟨_, rfl, ?_⟩; have n0_ := Aside0.mk (Kd.R_below (by (with_reducible repeat (first | apply Kd.R_alloc | apply Kd.R_drewN | apply Kd.R_drew)); exact (Kd.R_mono (Kd.R_far (p := ⟨gb428, 6, none⟩) (Kd.R_far (p := ⟨gb428, 5, none⟩) (Kd.R_far (p := ⟨gb428, 4, none⟩) (Kd.R_far (p := ⟨gb428, 3, none⟩) (Kd.R_far (p := ⟨gb428, 2, none⟩) (Kd.R_far (p := ⟨gb428, 1, none⟩) (Kd.R_far (p := ⟨gb428, 0, none⟩) (Kd.R_types HO424.out BK428.out (by decide)) (fun _ hk => hk.2) (.int .i64 t417)) (fun _ hk => hk.2) (.int .i64 t418)) (fun _ hk => hk.2) (.int .i64 t419)) (fun _ hk => hk.2) (.int .i64 t420)) (fun _ hk => hk.2) (.int .i64 t421)) (fun _ hk => hk.2) (.slice Ao11 t422.length co11)) (fun _ hk => hk.2) (.slice Ao12 t425.length co12)) (fun _ h_ => h_.1))) hb); have n1_ := Aside0.mk (Kd.R_below (by (with_reducible repeat (first | apply Kd.R_alloc | apply Kd.R_drewN | apply Kd.R_drew)); exact (Kd.R_mono (Kd.R_far (p := ⟨gb428, 6, none⟩) (Kd.R_far (p := ⟨gb428, 5, none⟩) (Kd.R_far (p := ⟨gb428, 4, none⟩) (Kd.R_far (p := ⟨gb428, 3, none⟩) (Kd.R_far (p := ⟨gb428, 2, none⟩) (Kd.R_far (p := ⟨gb428, 1, none⟩) (Kd.R_far (p := ⟨gb428, 0, none⟩) (Kd.R_types HO427.out BK428.out (by decide)) (fun _ hk => hk.2) (.int .i64 t417)) (fun _ hk => hk.2) (.int .i64 t418)) (fun _ hk => hk.2) (.int .i64 t419)) (fun _ hk => hk.2) (.int .i64 t420)) (fun _ hk => hk.2) (.int .i64 t421)) (fun _ hk => hk.2) (.slice Ao11 t422.length co11)) (fun _ hk => hk.2) (.slice Ao12 t425.length co12)) (fun _ h_ => h_.1))) hb); have n2_ := Aside0.mk (Kd.R_lower ho0 (below_size (by repeat (first | (with_reducible first | exact HB.out | apply below_alloc | apply pw_below_drewN | apply below_drew1 | refine below_set ?_ GE416.out | refine below_set ?_ GE428.out) | exact HB.out)))); have n3_ := Aside0.mk (blk_below (g := gb416) (o := .cells #[.int .i64 a0_0, .int .i64 a0_1, .int .i64 a0_2, .int .i64 a0_3, .int .i64 a0_4, .slice A0_5 l0_5.length c0_5, .slice A0_6 l0_6.length c0_6, .slice A0_7 l0_7.length c0_7] 24 (0, 0)) (by (with_reducible repeat (first | refine blk_drewN ?_ _ | refine blk_drew ?_ | refine blk_alloc ?_ _)); refine blk_far ?_ NB416_428.out _; (with_reducible repeat (first | refine blk_drewN ?_ _ | refine blk_drew ?_ | refine blk_alloc ?_ _)); refine blk_far ?_ NB416_428.out _; (with_reducible repeat (first | refine blk_drewN ?_ _ | refine blk_drew ?_ | refine blk_alloc ?_ _)); refine blk_far ?_ NB416_428.out _; (with_reducible repeat (first | refine blk_drewN ?_ _ | refine blk_drew ?_ | refine blk_alloc ?_ _)); refine blk_far ?_ NB416_428.out _; (with_reducible repeat (first | refine blk_drewN ?_ _ | refine blk_drew ?_ | refine blk_alloc ?_ _)); refine blk_far ?_ NB416_428.out _; (with_reducible repeat (first | refine blk_drewN ?_ _ | refine blk_drew ?_ | refine blk_alloc ?_ _)); refine blk_far ?_ NB416_428.out _; (with_reducible repeat (first | refine blk_drewN ?_ _ | refine blk_drew ?_ | refine blk_alloc ?_ _)); refine blk_far ?_ NB416_428.out _; (with_reducible repeat (first | refine blk_drewN ?_ _ | refine blk_drew ?_ | refine blk_alloc ?_ _)); exact BK416.out) hb); have n4_ := Aside0.mk (blk_below (g := gb428) (o := .cells #[.int .i64 t417, .int .i64 t418, .int .i64 t419, .int .i64 t420, .int .i64 t421, .slice Ao11 t422.length co11, .slice Ao12 t425.length co12] 29 (0, 0)) (by (with_reducible repeat (first | refine blk_drewN ?_ _ | refine blk_drew ?_ | refine blk_alloc ?_ _)); refine blk_put (cs := #[.int .i64 t417, .int .i64 t418, .int .i64 t419, .int .i64 t420, .int .i64 t421, .slice Ao11 t422.length co11, .slice none 0 0]) ?_ 6 _ rfl; (with_reducible repeat (first | refine blk_drewN ?_ _ | refine blk_drew ?_ | refine blk_alloc ?_ _)); refine blk_put (cs := #[.int .i64 t417, .int .i64 t418, .int .i64 t419, .int .i64 t420, .int .i64 t421, .slice none 0 0, .slice none 0 0]) ?_ 5 _ rfl; (with_reducible repeat (first | refine blk_drewN ?_ _ | refine blk_drew ?_ | refine blk_alloc ?_ _)); refine blk_put (cs := #[.int .i64 t417, .int .i64 t418, .int .i64 t419, .int .i64 t420, .int .i64 0, .slice none 0 0, .slice none 0 0]) ?_ 4 _ rfl; (with_reducible repeat (first | refine blk_drewN ?_ _ | refine blk_drew ?_ | refine blk_alloc ?_ _)); refine blk_put (cs := #[.int .i64 t417, .int .i64 t418, .int .i64 t419, .int .i64 0, .int .i64 0, .slice none 0 0, .slice none 0 0]) ?_ 3 _ rfl; (with_reducible repeat (first | refine blk_drewN ?_ _ | refine blk_drew ?_ | refine blk_alloc ?_ _)); refine blk_put (cs := #[.int .i64 t417, .int .i64 t418, .int .i64 0, .int .i64 0, .int .i64 0, .slice none 0 0, .slice none 0 0]) ?_ 2 _ rfl; (with_reducible repeat (first | refine blk_drewN ?_ _ | refine blk_drew ?_ | refine blk_alloc ?_ _)); refine blk_put (cs := #[.int .i64 t417, .int .i64 0, .int .i64 0, .int .i64 0, .int .i64 0, .slice none 0 0, .slice none 0 0]) ?_ 1 _ rfl; (with_reducible repeat (first | refine blk_drewN ?_ _ | refine blk_drew ?_ | refine blk_alloc ?_ _)); refine blk_put (cs := #[.int .i64 0, .int .i64 0, .int .i64 0, .int .i64 0, .int .i64 0, .slice none 0 0, .slice none 0 0]) ?_ 0 _ rfl; (with_reducible repeat (first | refine blk_drewN ?_ _ | refine blk_drew ?_ | refine blk_alloc ?_ _)); exact BK428.out) hb); have n5_ := Aside0.mk (below_step (by repeat (first | (with_reducible first | exact HB.out | apply below_alloc | apply pw_below_drewN | apply below_drew1 | refine below_set ?_ GE416.out | refine below_set ?_ GE428.out) | exact HB.out)) hb); clear HO424; clear HO427; clear BK416; clear BK428; clear HB; have HO424 := n0_; have HO427 := n1_; have HO431 := n2_; have BK416 := n3_; have BK428 := n4_; have HB := n5_; clear n0_ n1_ n2_ n3_ n4_ n5_; (try clear hb); (try clear hb2); (try clear hk); (try clear hi); (try clear ho0)))
  go_loopg [7] k (fun kq v7 w' => ∃ (x7_1 : Int) (x429000_1 : Int) (x429001_1 : Int) (x429002_1 : Int) (x429003_1 : Int) (x429004_1 : Int) (x429005_1 : List (S46)) (x429006_1 : List Int) (u429005 : Value) (u429006 : Value), v7 = .int .i64 x7_1 ∧ Aside0 (selfstablaw42_DatalinkStays.l0 kq t429 x7_1 x429000_1 x429001_1 x429002_1 x429003_1 x429004_1 x429005_1 x429006_1 = some r) ∧ Aside0 (kq ≤ k) ∧ Aside0 (Kd.R k40 40 w' w.heap.size (fun _ => True) v430 t429) ∧ Aside0 (Kd.R k46 46 w' w.heap.size (fun _ => True) u429005 x429005_1) ∧ Aside0 (Kd.R (Kd.int .i64) 3 w' w.heap.size (fun _ => True) u429006 x429006_1) ∧ Aside0 (w'.heap[gb416]? = some (.cells #[.int .i64 a0_0, .int .i64 a0_1, .int .i64 a0_2, .int .i64 a0_3, .int .i64 a0_4, (.slice A0_5 l0_5.length c0_5), (.slice A0_6 l0_6.length c0_6), (.slice A0_7 l0_7.length c0_7)] 24 (0, 0))) ∧ Aside0 (w'.heap[gb428]? = some (.cells #[.int .i64 x429000_1, .int .i64 x429001_1, .int .i64 x429002_1, .int .i64 x429003_1, .int .i64 x429004_1, u429005, u429006] 29 (0, 0))) ∧ Aside0 (Below w.heap.size w w'))
  case atStart => exact ⟨(0), (t417), (t418), (t419), (t420), (t421), (t422), (t425), (.slice Ao11 t422.length co11), (.slice Ao12 t425.length co12), (by first | rfl | (simp; done) | (simp [*]; done)), H', ⟨Nat.le_refl _⟩, ⟨by (with_reducible repeat (first | apply Kd.R_alloc | apply Kd.R_drewN | apply Kd.R_drew)); exact HO431.out⟩, ⟨by (with_reducible repeat (first | apply Kd.R_alloc | apply Kd.R_drewN | apply Kd.R_drew)); exact HO424.out⟩, ⟨by (with_reducible repeat (first | apply Kd.R_alloc | apply Kd.R_drewN | apply Kd.R_drew)); exact HO427.out⟩, ⟨by (with_reducible repeat (first | refine blk_drewN ?_ _ | refine blk_drew ?_ | refine blk_alloc ?_ _)); exact BK416.out⟩, ⟨by (with_reducible repeat (first | refine blk_drewN ?_ _ | refine blk_drew ?_ | refine blk_alloc ?_ _)); exact BK428.out⟩, ⟨by repeat (first | (with_reducible first | exact HB.out | apply below_alloc | apply pw_below_drewN | apply below_drew1 | refine below_set ?_ GE416.out | refine below_set ?_ GE428.out) | exact HB.out)⟩⟩
  case round =>
    clear H'
    try clear c1
    try clear p2
    try clear c7
    try clear c9
    try clear c10
    try clear c13
    try clear hcz10_0
    try clear hcz10_1
    try clear hcz10_2
    try clear hcz10_3
    try clear hcz10_4
    try clear hcz10_5
    try clear hcz10_6
    try clear hcz6_0
    try clear hcz6_1
    try clear hcz6_2
    try clear hcz6_3
    try clear hcz6_4
    try clear hcz6_5
    try clear hcz6_6
    try clear hcz6_7
    try clear hfz10_0
    try clear hfz10_1
    try clear hfz10_2
    try clear hfz10_3
    try clear hfz10_4
    try clear hfz10_5
    try clear hfz10_6
    try clear hfz6_0
    try clear hfz6_1
    try clear hfz6_2
    try clear hfz6_3
    try clear hfz6_4
    try clear hfz6_5
    try clear hfz6_6
    try clear hfz6_7
    obtain ⟨x7_1, x429000_1, x429001_1, x429002_1, x429003_1, x429004_1, x429005_1, x429006_1, u429005, u429006, rfl, HA, HK1, HO_6, HO_429005, HO_429006, BK416, BK428, HB⟩ := hrel
    cases gk with
    | zero => exact absurd HA.out (by simp [selfstablaw42_DatalinkStays.l0])
    | succ k1 =>
      have H := HA.out
      clear HA
      simp only [selfstablaw42_DatalinkStays.l0] at H
      by_cases c14 : x7_1 < (t429.length : Int)
      · rw [if_pos c14] at H
        have c14b0 : decide (x7_1 < (t429.length : Int)) = true := decide_eq_true c14
        clear c14
        replace H := Option.bind_eq_some_iff.mp H
        obtain ⟨t434, A150, H⟩ := H
        replace H : (if 0 ≤ x7_1 then ((datalink_Step.f x429000_1 x429001_1 x429002_1 x429003_1 x429004_1 x429005_1 x429006_1 ((rd_T40 t429 x7_1).f0) ((rd_T40 t429 x7_1).f1)).bind fun bt436 => (if t434 = true then ((datalink_Aligned.f bt436.1 bt436.2.1 bt436.2.2.1 bt436.2.2.2.1 bt436.2.2.2.2.1 bt436.2.2.2.2.2.1 bt436.2.2.2.2.2.2.1).bind fun t450 => (if t450 = true then (selfstablaw42_DatalinkStays.l0 k1 t429 (wrap64 (x7_1 + 1)) bt436.1 bt436.2.1 bt436.2.2.1 bt436.2.2.2.1 bt436.2.2.2.2.1 bt436.2.2.2.2.2.1 bt436.2.2.2.2.2.2.1) else (none))) else (selfstablaw42_DatalinkStays.l0 k1 t429 (wrap64 (x7_1 + 1)) bt436.1 bt436.2.1 bt436.2.2.1 bt436.2.2.2.1 bt436.2.2.2.2.1 bt436.2.2.2.2.2.1 bt436.2.2.2.2.2.2.1))) else (none)) = some r := H
        have A15 := Aside0.mk A150
        clear A150
        by_cases c16 : 0 ≤ x7_1
        · rw [if_pos c16] at H
          have c16b0 : decide (0 ≤ x7_1) = true := decide_eq_true c16
          clear c16
          replace H := Option.bind_eq_some_iff.mp H
          obtain ⟨⟨t436, t437, t438, t439, t440, t441, t444, t447, t448⟩, A170, H⟩ := H
          replace H : (if t434 = true then ((datalink_Aligned.f t436 t437 t438 t439 t440 t441 t444).bind fun t450 => (if t450 = true then (selfstablaw42_DatalinkStays.l0 k1 t429 (wrap64 (x7_1 + 1)) t436 t437 t438 t439 t440 t441 t444) else (none))) else (selfstablaw42_DatalinkStays.l0 k1 t429 (wrap64 (x7_1 + 1)) t436 t437 t438 t439 t440 t441 t444)) = some r := H
          have A17 := Aside0.mk A170
          clear A170
          by_cases c18 : t434 = true
          · subst c18
            have H1 : ((datalink_Aligned.f t436 t437 t438 t439 t440 t441 t444).bind fun t450 => (if t450 = true then (selfstablaw42_DatalinkStays.l0 k1 t429 (wrap64 (x7_1 + 1)) t436 t437 t438 t439 t440 t441 t444) else (none))) = some r := by rw [if_pos rfl] at H; exact H
            clear H
            have H := H1
            clear H1
            replace H := Option.bind_eq_some_iff.mp H
            obtain ⟨t450, A190, H⟩ := H
            replace H : (if t450 = true then (selfstablaw42_DatalinkStays.l0 k1 t429 (wrap64 (x7_1 + 1)) t436 t437 t438 t439 t440 t441 t444) else (none)) = some r := H
            have A19 := Aside0.mk A190
            clear A190
            by_cases c20 : t450 = true
            · subst c20
              have H1 : (selfstablaw42_DatalinkStays.l0 k1 t429 (wrap64 (x7_1 + 1)) t436 t437 t438 t439 t440 t441 t444) = some r := by rw [if_pos rfl] at H; exact H
              clear H
              have H := H1
              clear H1
              have H' := Aside0.mk H
              clear H
              obtain ⟨Ao21, co21, eo21⟩ := Kd.R_slice HO_6.out
              subst eo21
              have hnb22 := NB428_416.out
              have hnc22 := NB416_428.out
              have hcz23_0 : wr.cell? ⟨gb428, 0, none⟩ = some (.int .i64 x429000_1) := (blk_cell BK428.out 0).trans rfl
              have hcz23_1 : wr.cell? ⟨gb428, 1, none⟩ = some (.int .i64 x429001_1) := (blk_cell BK428.out 1).trans rfl
              have hcz23_2 : wr.cell? ⟨gb428, 2, none⟩ = some (.int .i64 x429002_1) := (blk_cell BK428.out 2).trans rfl
              have hcz23_3 : wr.cell? ⟨gb428, 3, none⟩ = some (.int .i64 x429003_1) := (blk_cell BK428.out 3).trans rfl
              have hcz23_4 : wr.cell? ⟨gb428, 4, none⟩ = some (.int .i64 x429004_1) := (blk_cell BK428.out 4).trans rfl
              have hcz23_5 : wr.cell? ⟨gb428, 5, none⟩ = some (u429005) := (blk_cell BK428.out 5).trans rfl
              have hcz23_6 : wr.cell? ⟨gb428, 6, none⟩ = some (u429006) := (blk_cell BK428.out 6).trans rfl
              have hfz23_0 := blk_frozen BK428.out 0
              have hfz23_1 := blk_frozen BK428.out 1
              have hfz23_2 := blk_frozen BK428.out 2
              have hfz23_3 := blk_frozen BK428.out 3
              have hfz23_4 := blk_frozen BK428.out 4
              have hfz23_5 := blk_frozen BK428.out 5
              have hfz23_6 := blk_frozen BK428.out 6
              obtain ⟨Ao24, co24, eo24⟩ := Kd.R_slice HO_429005.out
              subst eo24
              obtain ⟨Ao25, co25, eo25⟩ := Kd.R_slice HO_429006.out
              subst eo25
              try go_wp2_with (first | ((with_reducible refine gate_callee (f := 21) rfl ?_); refine goesL_ (some 23) rfl rfl Try.func21 (by kernel_rfl) rfl #[.agg #[.int .i64 x429000_1, .int .i64 x429001_1, .int .i64 x429002_1, .int .i64 x429003_1, .int .i64 x429004_1, .slice Ao24 x429005_1.length co24, .slice Ao25 x429006_1.length co25]] rfl (by (try simp only [List.map_toArray, List.map_cons, List.map_nil]); first | done | rfl | (simp only [List.length_drop, List.length_take]; rfl)) ?_; (with_reducible refine (datalink_Aligned.calls x429000_1 x429001_1 x429002_1 x429003_1 x429004_1 _ _ x429005_1 _ _ x429006_1 true _ ?side1 ?side2 ?side3 ?side4 A15.out).mono ?_); (case side1 => repeat (first | exact (Kd.R_reads' HO_429005.out).2.2 | (with_reducible refine Kd.C_alloc ?_ _) | (with_reducible refine Kd.C_drewN ?_ _) | (with_reducible refine Kd.C_drew ?_))); (case side2 => exact (Kd.R_reads' HO_429005.out).2.1); (case side3 => repeat (first | exact (Kd.R_reads' HO_429006.out).2.2 | (with_reducible refine Kd.C_alloc ?_ _) | (with_reducible refine Kd.C_drewN ?_ _) | (with_reducible refine Kd.C_drew ?_))); (case side4 => exact (Kd.R_reads' HO_429006.out).2.1); rintro e w26 ⟨rfl, hb⟩; refine ⟨_, rfl, ?_⟩; have n0_ := Aside0.mk (Kd.R_below (by (with_reducible repeat (first | apply Kd.R_alloc | apply Kd.R_drewN | apply Kd.R_drew)); exact HO_6.out) hb); have n1_ := Aside0.mk (Kd.R_below (by (with_reducible repeat (first | apply Kd.R_alloc | apply Kd.R_drewN | apply Kd.R_drew)); exact HO_429005.out) hb); have n2_ := Aside0.mk (Kd.R_below (by (with_reducible repeat (first | apply Kd.R_alloc | apply Kd.R_drewN | apply Kd.R_drew)); exact HO_429006.out) hb); have n3_ := Aside0.mk (blk_below (g := gb416) (o := .cells #[.int .i64 a0_0, .int .i64 a0_1, .int .i64 a0_2, .int .i64 a0_3, .int .i64 a0_4, .slice A0_5 l0_5.length c0_5, .slice A0_6 l0_6.length c0_6, .slice A0_7 l0_7.length c0_7] 24 (0, 0)) (by (with_reducible repeat (first | refine blk_drewN ?_ _ | refine blk_drew ?_ | refine blk_alloc ?_ _)); exact BK416.out) hb); have n4_ := Aside0.mk (blk_below (g := gb428) (o := .cells #[.int .i64 x429000_1, .int .i64 x429001_1, .int .i64 x429002_1, .int .i64 x429003_1, .int .i64 x429004_1, .slice Ao24 x429005_1.length co24, .slice Ao25 x429006_1.length co25] 29 (0, 0)) (by (with_reducible repeat (first | refine blk_drewN ?_ _ | refine blk_drew ?_ | refine blk_alloc ?_ _)); exact BK428.out) hb); have n5_ := Aside0.mk (below_step (by repeat (first | (with_reducible first | exact HB.out | apply below_alloc | apply pw_below_drewN | apply below_drew1 | refine below_set ?_ GE416.out | refine below_set ?_ GE428.out) | exact HB.out)) hb); clear HO_6; clear HO_429005; clear HO_429006; clear BK416; clear BK428; clear HB; have HO_6 := n0_; have HO_429005 := n1_; have HO_429006 := n2_; have BK416 := n3_; have BK428 := n4_; have HB := n5_; clear n0_ n1_ n2_ n3_ n4_ n5_; (try clear hb); (try clear hb2); (try clear hk); (try clear hi)))
              have n0_ := Aside0.mk (Kd.R_drew HO_6.out)
              have n1_ := Aside0.mk (Kd.R_drew HO_429005.out)
              have n2_ := Aside0.mk (Kd.R_drew HO_429006.out)
              have n3_ := Aside0.mk (blk_drew BK416.out)
              have n4_ := Aside0.mk (blk_drew BK428.out)
              have n5_ := Aside0.mk (below_drew1 HB.out)
              clear HO_6
              clear HO_429005
              clear HO_429006
              clear BK416
              clear BK428
              clear HB
              have HO_6 := n0_
              have HO_429005 := n1_
              have HO_429006 := n2_
              have BK416 := n3_
              have BK428 := n4_
              have HB := n5_
              clear n0_ n1_ n2_ n3_ n4_ n5_
              have p435 : 0 ≤ (x7_1 : Int) := of_decide_eq_true (by first | (with_reducible assumption) | assumption)
              have q435 : x7_1 < (t429.length : Int) := of_decide_eq_true (by first | (with_reducible assumption) | assumption)
              (try (obtain ⟨Az435, cz435, ez435⟩ := Kd.R_slice HO_6.out; subst ez435))
              obtain ⟨ad435, e435, hx435_0, hx435_1⟩ := at_T40 (Kd.R_reads' HO_6.out).2.2 x7_1 p435 q435
              cases e435
              replace p435 := eq_true p435
              replace q435 := eq_true q435
              refine start_ (n := 14) (S := fun w' => w'.cell? ⟨gb428, 0, none⟩ = some (.int .i64 x429000_1) ∧ w'.cell? ⟨gb428, 1, none⟩ = some (.int .i64 x429001_1) ∧ w'.cell? ⟨gb428, 2, none⟩ = some (.int .i64 x429002_1) ∧ w'.cell? ⟨gb428, 3, none⟩ = some (.int .i64 x429003_1) ∧ w'.cell? ⟨gb428, 4, none⟩ = some (.int .i64 x429004_1) ∧ w'.cell? ⟨gb428, 5, none⟩ = some (.slice Ao24 x429005_1.length co24) ∧ w'.cell? ⟨gb428, 6, none⟩ = some (.slice Ao25 x429006_1.length co25) ∧ w'.cell? (ad435.add ((x7_1).toNat * 2)) = some (.int .i64 ((rd_T40 t429 x7_1).f0)) ∧ w'.cell? ⟨(ad435.add ((x7_1).toNat * 2)).block, (ad435.add ((x7_1).toNat * 2)).off + 1, none⟩ = some (.int .i64 ((rd_T40 t429 x7_1).f1))) (ds := []) #[false, false, false, false, false, false, false, false, false, false, false, false, false, false] (by kernel_rfl) rfl rfl ⟨(blk_cell BK428.out 0).trans rfl, (blk_cell BK428.out 1).trans rfl, (blk_cell BK428.out 2).trans rfl, (blk_cell BK428.out 3).trans rfl, (blk_cell BK428.out 4).trans rfl, (blk_cell BK428.out 5).trans rfl, (blk_cell BK428.out 6).trans rfl, hx435_0, hx435_1⟩ (fun hHeld => ?_); refine with_tabW selfstablaw42_DatalinkStays.tab7 selfstablaw42_DatalinkStays.bits7 (fun HT_ HW_ => ?_)
              generalize w26.drew = w27 at HO_6 HO_429005 HO_429006 BK416 BK428 HB hx435_0 hx435_1 hHeld ⊢
              refine pure_ (i := 1) (N := some 26) (v := ?_) (a' := ?_) #[false, true, false, false, false, false, false, false, false, false, false, false, false, false] rfl rfl (any_of HT_.out (by kernel_rfl)) (fun _ _ _ h => h) (Or.inl ⟨by rfl, ?_⟩) ?_ ?_
              rotate_left
              · intro w'
                go_simp
                with_reducible rfl
              rotate_left
              · simp only [Act.put, List.setIfInBounds_toArray, List.set_cons_zero, List.set_cons_succ, i64_w, i32_w]
                rfl
              refine pure_ (i := 2) (N := some 27) (v := ?_) (a' := ?_) #[false, true, true, false, false, false, false, false, false, false, false, false, false, false] rfl rfl (any_of HT_.out (by kernel_rfl)) (fun _ _ _ h => h) (Or.inl ⟨by rfl, ?_⟩) ?_ ?_
              rotate_left
              · intro w'
                go_simp
                with_reducible rfl
              rotate_left
              · simp only [Act.put, List.setIfInBounds_toArray, List.set_cons_zero, List.set_cons_succ, i64_w, i32_w]
                rfl
              refine pure_ (i := 3) (N := some 28) (v := ?_) (a' := ?_) #[false, true, true, true, false, false, false, false, false, false, false, false, false, false] rfl rfl (any_of HT_.out (by kernel_rfl)) (fun _ _ _ h => h) (Or.inl ⟨by rfl, ?_⟩) ?_ ?_
              rotate_left
              · intro w'
                go_simp
                with_reducible rfl
              rotate_left
              · simp only [Act.put, List.setIfInBounds_toArray, List.set_cons_zero, List.set_cons_succ, i64_w, i32_w]
                rfl
              refine take_ (i := 0) (N := some 25) (v := ?_) (a' := ?_) #[true, true, true, true, false, false, false, false, false, false, false, false, false, false] rfl rfl (take_ofW HT_.out HW_.out (by kernel_rfl)) (fun _ _ _ h => h) (Or.inl ⟨by rfl, ?_⟩) hHeld ?_ ?_
              rotate_left
              · rintro w' ⟨s0, s1, s2, s3, s4, s5, s6, s7, s8⟩
                go_simp
                with_reducible rfl
              rotate_left
              · simp only [Act.put, List.setIfInBounds_toArray, List.set_cons_zero, List.set_cons_succ, i64_w, i32_w]
                rfl
              refine take_ (i := 4) (N := some 29) (v := ?_) (a' := ?_) #[true, true, true, true, true, false, false, false, false, false, false, false, false, false] rfl rfl (take_ofW HT_.out HW_.out (by kernel_rfl)) (fun _ _ _ h => h) (Or.inl ⟨by rfl, ?_⟩) hHeld ?_ ?_
              rotate_left
              · rintro w' ⟨s0, s1, s2, s3, s4, s5, s6, s7, s8⟩
                go_simp
                with_reducible rfl
              rotate_left
              · simp only [Act.put, List.setIfInBounds_toArray, List.set_cons_zero, List.set_cons_succ, i64_w, i32_w]
                rfl
              refine join_ (σ := Value × Value × Nat) 3 #[true, true, true, true, true, true, true, true, true, true, true, false, false, false] (fun s_ => [(30, .tuple #[.agg #[.int .i64 t436, .int .i64 t437, .int .i64 t438, .int .i64 t439, .int .i64 t440, s_.1, s_.2.1], .int .i64 t447, .bool t448]), (9, .pointer (some ⟨s_.2.2, 0, none⟩)), (24, .tuple #[.agg #[.int .i64 t436, .int .i64 t437, .int .i64 t438, .int .i64 t439, .int .i64 t440, s_.1, s_.2.1], .int .i64 t447, .bool t448]), (31, .agg #[.int .i64 t436, .int .i64 t437, .int .i64 t438, .int .i64 t439, .int .i64 t440, s_.1, s_.2.1]), (32, .int .i64 t447), (33, .bool t448)]) (fun s_ w' => (w'.cell? ⟨gb428, 0, none⟩ = some (.int .i64 x429000_1) ∧ w'.cell? ⟨gb428, 1, none⟩ = some (.int .i64 x429001_1) ∧ w'.cell? ⟨gb428, 2, none⟩ = some (.int .i64 x429002_1) ∧ w'.cell? ⟨gb428, 3, none⟩ = some (.int .i64 x429003_1) ∧ w'.cell? ⟨gb428, 4, none⟩ = some (.int .i64 x429004_1) ∧ w'.cell? ⟨gb428, 5, none⟩ = some (.slice Ao24 x429005_1.length co24) ∧ w'.cell? ⟨gb428, 6, none⟩ = some (.slice Ao25 x429006_1.length co25) ∧ w'.cell? (ad435.add ((x7_1).toNat * 2)) = some (.int .i64 ((rd_T40 t429 x7_1).f0)) ∧ w'.cell? ⟨(ad435.add ((x7_1).toNat * 2)).block, (ad435.add ((x7_1).toNat * 2)).off + 1, none⟩ = some (.int .i64 ((rd_T40 t429 x7_1).f1))) ∧ (Kd.R k46 46 w' w.heap.size (fun k_ => some k_ ≠ (.slice Ao24 x429005_1.length co24 : Value).ownBlock) s_.1 t441) ∧ (Kd.R (Kd.int .i64) 3 w' w.heap.size (fun k_ => some k_ ≠ (.slice Ao25 x429006_1.length co25 : Value).ownBlock) s_.2.1 t444) ∧ (Kd.R k46 46 w' w.heap.size (fun k_ => some k_ ≠ (s_.1 : Value).ownBlock) (.slice Ao24 x429005_1.length co24) x429005_1) ∧ (Kd.R (Kd.int .i64) 3 w' w.heap.size (fun k_ => some k_ ≠ (s_.2.1 : Value).ownBlock) (.slice Ao25 x429006_1.length co25) x429006_1) ∧ (Kd.R k40 40 w' w.heap.size (fun _ => True) (.slice (some ad435) t429.length co21) t429) ∧ (w'.heap[gb416]? = some (.cells #[.int .i64 a0_0, .int .i64 a0_1, .int .i64 a0_2, .int .i64 a0_3, .int .i64 a0_4, .slice A0_5 l0_5.length c0_5, .slice A0_6 l0_6.length c0_6, .slice A0_7 l0_7.length c0_7] 24 (0, 0))) ∧ (w'.heap[gb428]? = some (.cells #[.int .i64 x429000_1, .int .i64 x429001_1, .int .i64 x429002_1, .int .i64 x429003_1, .int .i64 x429004_1, .slice Ao24 x429005_1.length co24, .slice Ao25 x429006_1.length co25] 29 (0, 0))) ∧ (w'.heap[s_.2.2]? = some (.cells #[.int .i64 0, .int .i64 0, .int .i64 0, .int .i64 0, .int .i64 0, .slice none 0 0, .slice none 0 0] 29 (0, 0))) ∧ (w.heap.size ≤ s_.2.2) ∧ (w.heap.size ≤ s_.2.2) ∧ (gb416 ≠ s_.2.2) ∧ (s_.2.2 ≠ gb416) ∧ (gb428 ≠ s_.2.2) ∧ (s_.2.2 ≠ gb428) ∧ (Below w.heap.size w w')) ?_ ?_
              rotate_left
              · intro hCont
                refine two_ (i := 5) (j := 10) (Ni := some 30) (Nj := some 9) #[true, true, true, true, true, true, false, false, false, false, false, false, false, false] #[true, true, true, true, true, false, false, false, false, false, true, false, false, false] rfl rfl rfl rfl (two_of HT_.out (by kernel_rfl)) (by decide) (by decide) (fun K hK => ?_) (fun K hK => ?_)
                · skip
                  refine goes_ Try.func18 (by kernel_rfl) rfl #[.agg #[.int .i64 x429000_1, .int .i64 x429001_1, .int .i64 x429002_1, .int .i64 x429003_1, .int .i64 x429004_1, .slice Ao24 x429005_1.length co24, .slice Ao25 x429006_1.length co25], .agg #[.int .i64 ((rd_T40 t429 x7_1).f0), .int .i64 ((rd_T40 t429 x7_1).f1)]] (by rfl) rfl rfl (by (try simp only [List.map_toArray, List.map_cons, List.map_nil]); first | done | rfl | (simp only [List.length_drop, List.length_take]; rfl)) ?_
                  with_reducible refine (datalink_Step.calls x429000_1 x429001_1 x429002_1 x429003_1 x429004_1 _ _ x429005_1 _ _ x429006_1 ((rd_T40 t429 x7_1).f0) ((rd_T40 t429 x7_1).f1) t436 t437 t438 t439 t440 t441 t444 t447 t448 _ ?side1 ?side2 ?side3 ?side4 A17.out).mono ?_
                  (case side1 => repeat (first | exact (Kd.R_reads' HO_429005.out).2.2 | (with_reducible refine Kd.C_alloc ?_ _) | (with_reducible refine Kd.C_drewN ?_ _) | (with_reducible refine Kd.C_drew ?_)))
                  (case side2 => exact (Kd.R_reads' HO_429005.out).2.1)
                  (case side3 => repeat (first | exact (Kd.R_reads' HO_429006.out).2.2 | (with_reducible refine Kd.C_alloc ?_ _) | (with_reducible refine Kd.C_drewN ?_ _) | (with_reducible refine Kd.C_drew ?_)))
                  (case side4 => exact (Kd.R_reads' HO_429006.out).2.1)
                  rintro e w28 ⟨v442, v445, rfl, ho0, ho1, hb⟩
                  have HS7_ := (hb.cell (World.block_lt_of_cell? _ _ (hHeld.2.2.2.2.2.2.2.1))).trans (hHeld.2.2.2.2.2.2.2.1)
                  have HS8_ := (hb.cell (World.block_lt_of_cell? _ _ (hHeld.2.2.2.2.2.2.2.2))).trans (hHeld.2.2.2.2.2.2.2.2)
                  refine ⟨_, rfl, ?_⟩
                  have n0_ := Aside0.mk (Kd.R_below (by (with_reducible repeat (first | apply Kd.R_alloc | apply Kd.R_drewN | apply Kd.R_drew)); exact HO_6.out) hb)
                  have n1_ := Aside0.mk (Kd.R_elder' (by (with_reducible repeat (first | apply Kd.R_alloc | apply Kd.R_drewN | apply Kd.R_drew)); exact HO_429005.out) (Kd.R_base ho0) hb)
                  have n2_ := Aside0.mk (Kd.R_elder' (by (with_reducible repeat (first | apply Kd.R_alloc | apply Kd.R_drewN | apply Kd.R_drew)); exact HO_429006.out) (Kd.R_base ho1) hb)
                  have n3_ := Aside0.mk (Kd.R_lower (Kd.R_new' ho0 (Kd.R_lt (by (with_reducible repeat (first | apply Kd.R_alloc | apply Kd.R_drewN | apply Kd.R_drew)); exact HO_429005.out))) (below_size (by repeat (first | (with_reducible first | exact HB.out | apply below_alloc | apply pw_below_drewN | apply below_drew1 | refine below_set ?_ GE416.out | refine below_set ?_ GE428.out) | exact HB.out))))
                  have n4_ := Aside0.mk (Kd.R_lower (Kd.R_new' ho1 (Kd.R_lt (by (with_reducible repeat (first | apply Kd.R_alloc | apply Kd.R_drewN | apply Kd.R_drew)); exact HO_429006.out))) (below_size (by repeat (first | (with_reducible first | exact HB.out | apply below_alloc | apply pw_below_drewN | apply below_drew1 | refine below_set ?_ GE416.out | refine below_set ?_ GE428.out) | exact HB.out))))
                  have n5_ := Aside0.mk (blk_below (g := gb416) (o := .cells #[.int .i64 a0_0, .int .i64 a0_1, .int .i64 a0_2, .int .i64 a0_3, .int .i64 a0_4, .slice A0_5 l0_5.length c0_5, .slice A0_6 l0_6.length c0_6, .slice A0_7 l0_7.length c0_7] 24 (0, 0)) (by (with_reducible repeat (first | refine blk_drewN ?_ _ | refine blk_drew ?_ | refine blk_alloc ?_ _)); exact BK416.out) hb)
                  have n6_ := Aside0.mk (blk_below (g := gb428) (o := .cells #[.int .i64 x429000_1, .int .i64 x429001_1, .int .i64 x429002_1, .int .i64 x429003_1, .int .i64 x429004_1, .slice Ao24 x429005_1.length co24, .slice Ao25 x429006_1.length co25] 29 (0, 0)) (by (with_reducible repeat (first | refine blk_drewN ?_ _ | refine blk_drew ?_ | refine blk_alloc ?_ _)); exact BK428.out) hb)
                  have n7_ := Aside0.mk (below_step (by repeat (first | (with_reducible first | exact HB.out | apply below_alloc | apply pw_below_drewN | apply below_drew1 | refine below_set ?_ GE416.out | refine below_set ?_ GE428.out) | exact HB.out)) hb)
                  clear HO_6
                  clear HO_429005
                  clear HO_429006
                  clear BK416
                  clear BK428
                  clear HB
                  have HO_6 := n0_
                  have HO_429005 := n1_
                  have HO_429006 := n2_
                  have HO443 := n3_
                  have HO446 := n4_
                  have BK416 := n5_
                  have BK428 := n6_
                  have HB := n7_
                  clear n0_ n1_ n2_ n3_ n4_ n5_ n6_ n7_
                  (try clear hb)
                  (try clear hb2)
                  (try clear hk)
                  (try clear hi)
                  (try clear ho0)
                  (try clear ho1)
                  refine hK.out _ _ ⟨(blk_cell BK428.out 0).trans rfl, (blk_cell BK428.out 1).trans rfl, (blk_cell BK428.out 2).trans rfl, (blk_cell BK428.out 3).trans rfl, (blk_cell BK428.out 4).trans rfl, (blk_cell BK428.out 5).trans rfl, (blk_cell BK428.out 6).trans rfl, HS7_, HS8_⟩ (fun hHeld => ?_)
                  clear hK K
                  refine norm_ (a' := ?_) ?_ ?_
                  rotate_left
                  · show Act.put _ (some 30) _ = _
                    simp only [Act.put, List.setIfInBounds_toArray, List.set_cons_zero, List.set_cons_succ, i64_w, i32_w]
                    rfl
                  refine pure_ (i := 6) (N := some 24) (v := ?_) (a' := ?_) #[true, true, true, true, true, true, true, false, false, false, false, false, false, false] rfl rfl (any_of HT_.out (by kernel_rfl)) (fun _ _ _ h => h) (Or.inl ⟨by rfl, ?_⟩) ?_ ?_
                  rotate_left
                  · intro w'
                    go_simp
                    with_reducible rfl
                  rotate_left
                  · simp only [Act.put, List.setIfInBounds_toArray, List.set_cons_zero, List.set_cons_succ, i64_w, i32_w]
                    rfl
                  refine pure_ (i := 7) (N := some 31) (v := ?_) (a' := ?_) #[true, true, true, true, true, true, true, true, false, false, false, false, false, false] rfl rfl (any_of HT_.out (by kernel_rfl)) (fun _ _ _ h => h) (Or.inl ⟨by rfl, ?_⟩) ?_ ?_
                  rotate_left
                  · intro w'
                    go_simp
                    with_reducible rfl
                  rotate_left
                  · simp only [Act.put, List.setIfInBounds_toArray, List.set_cons_zero, List.set_cons_succ, i64_w, i32_w]
                    rfl
                  refine pure_ (i := 8) (N := some 32) (v := ?_) (a' := ?_) #[true, true, true, true, true, true, true, true, true, false, false, false, false, false] rfl rfl (any_of HT_.out (by kernel_rfl)) (fun _ _ _ h => h) (Or.inl ⟨by rfl, ?_⟩) ?_ ?_
                  rotate_left
                  · intro w'
                    go_simp
                    with_reducible rfl
                  rotate_left
                  · simp only [Act.put, List.setIfInBounds_toArray, List.set_cons_zero, List.set_cons_succ, i64_w, i32_w]
                    rfl
                  refine pure_ (i := 9) (N := some 33) (v := ?_) (a' := ?_) #[true, true, true, true, true, true, true, true, true, true, false, false, false, false] rfl rfl (any_of HT_.out (by kernel_rfl)) (fun _ _ _ h => h) (Or.inl ⟨by rfl, ?_⟩) ?_ ?_
                  rotate_left
                  · intro w'
                    go_simp
                    with_reducible rfl
                  rotate_left
                  · simp only [Act.put, List.setIfInBounds_toArray, List.set_cons_zero, List.set_cons_succ, i64_w, i32_w]
                    rfl
                  refine one_ (i := 10) (N := some 9) #[true, true, true, true, true, true, true, true, true, true, true, false, false, false] rfl rfl (one_of HT_.out (by kernel_rfl)) (by decide) (fun K hK => ?_)
                  refine box_step ?hg (N := 9) ?hd (cs := #[.int .i64 0, .int .i64 0, .int .i64 0, .int .i64 0, .int .i64 0, .slice none 0 0, .slice none 0 0]) (t := 29) ?hr ?_; (case hd => rfl); (case hg => rfl); (case hr => first | (go_simp; done) | (go_simp; rfl))
                  intro gb449 hg w29 hbox hb
                  have HS7_ := (hb.cell (World.block_lt_of_cell? _ _ (hHeld.2.2.2.2.2.2.2.1))).trans (hHeld.2.2.2.2.2.2.2.1)
                  have HS8_ := (hb.cell (World.block_lt_of_cell? _ _ (hHeld.2.2.2.2.2.2.2.2))).trans (hHeld.2.2.2.2.2.2.2.2)
                  have n0_ := Aside0.mk (Kd.R_below (by (with_reducible repeat (first | apply Kd.R_alloc | apply Kd.R_drewN | apply Kd.R_drew)); exact HO_6.out) hb)
                  have n1_ := Aside0.mk (Kd.R_below (by (with_reducible repeat (first | apply Kd.R_alloc | apply Kd.R_drewN | apply Kd.R_drew)); exact HO_429005.out) hb)
                  have n2_ := Aside0.mk (Kd.R_below (by (with_reducible repeat (first | apply Kd.R_alloc | apply Kd.R_drewN | apply Kd.R_drew)); exact HO_429006.out) hb)
                  have n3_ := Aside0.mk (Kd.R_below (by (with_reducible repeat (first | apply Kd.R_alloc | apply Kd.R_drewN | apply Kd.R_drew)); exact HO443.out) hb)
                  have n4_ := Aside0.mk (Kd.R_below (by (with_reducible repeat (first | apply Kd.R_alloc | apply Kd.R_drewN | apply Kd.R_drew)); exact HO446.out) hb)
                  have n5_ := Aside0.mk (blk_below (g := gb416) (o := .cells #[.int .i64 a0_0, .int .i64 a0_1, .int .i64 a0_2, .int .i64 a0_3, .int .i64 a0_4, .slice A0_5 l0_5.length c0_5, .slice A0_6 l0_6.length c0_6, .slice A0_7 l0_7.length c0_7] 24 (0, 0)) (by (with_reducible repeat (first | refine blk_drewN ?_ _ | refine blk_drew ?_ | refine blk_alloc ?_ _)); exact BK416.out) hb)
                  have n6_ := Aside0.mk (blk_below (g := gb428) (o := .cells #[.int .i64 x429000_1, .int .i64 x429001_1, .int .i64 x429002_1, .int .i64 x429003_1, .int .i64 x429004_1, .slice Ao24 x429005_1.length co24, .slice Ao25 x429006_1.length co25] 29 (0, 0)) (by (with_reducible repeat (first | refine blk_drewN ?_ _ | refine blk_drew ?_ | refine blk_alloc ?_ _)); exact BK428.out) hb)
                  have n7_ := Aside0.mk (below_step (by repeat (first | (with_reducible first | exact HB.out | apply below_alloc | apply pw_below_drewN | apply below_drew1 | refine below_set ?_ GE416.out | refine below_set ?_ GE428.out) | exact HB.out)) hb)
                  have n8_ := Aside0.mk (hbox)
                  have n9_ := Aside0.mk ((by rw [hg]; exact (below_size (by repeat (first | (with_reducible first | exact HB.out | apply below_alloc | apply pw_below_drewN | apply below_drew1 | refine below_set ?_ GE416.out | refine below_set ?_ GE428.out) | exact HB.out))) : w.heap.size ≤ gb449))
                  have n10_ := Aside0.mk ((by rw [hg]; exact (below_size (by repeat (first | (with_reducible first | exact HB.out | apply below_alloc | apply pw_below_drewN | apply below_drew1 | refine below_set ?_ GE416.out | refine below_set ?_ GE428.out) | exact HB.out))) : w.heap.size ≤ gb449))
                  have n11_ := Aside0.mk ((by rw [hg]; exact Nat.ne_of_lt (blk_lt (g := gb416) (o := .cells #[.int .i64 a0_0, .int .i64 a0_1, .int .i64 a0_2, .int .i64 a0_3, .int .i64 a0_4, .slice A0_5 l0_5.length c0_5, .slice A0_6 l0_6.length c0_6, .slice A0_7 l0_7.length c0_7] 24 (0, 0)) (by (with_reducible repeat (first | refine blk_drewN ?_ _ | refine blk_drew ?_ | refine blk_alloc ?_ _)); exact BK416.out)) : gb416 ≠ gb449))
                  have n12_ := Aside0.mk ((by rw [hg]; exact Nat.ne_of_gt (blk_lt (g := gb416) (o := .cells #[.int .i64 a0_0, .int .i64 a0_1, .int .i64 a0_2, .int .i64 a0_3, .int .i64 a0_4, .slice A0_5 l0_5.length c0_5, .slice A0_6 l0_6.length c0_6, .slice A0_7 l0_7.length c0_7] 24 (0, 0)) (by (with_reducible repeat (first | refine blk_drewN ?_ _ | refine blk_drew ?_ | refine blk_alloc ?_ _)); exact BK416.out)) : gb449 ≠ gb416))
                  have n13_ := Aside0.mk ((by rw [hg]; exact Nat.ne_of_lt (blk_lt (g := gb428) (o := .cells #[.int .i64 x429000_1, .int .i64 x429001_1, .int .i64 x429002_1, .int .i64 x429003_1, .int .i64 x429004_1, .slice Ao24 x429005_1.length co24, .slice Ao25 x429006_1.length co25] 29 (0, 0)) (by (with_reducible repeat (first | refine blk_drewN ?_ _ | refine blk_drew ?_ | refine blk_alloc ?_ _)); exact BK428.out)) : gb428 ≠ gb449))
                  have n14_ := Aside0.mk ((by rw [hg]; exact Nat.ne_of_gt (blk_lt (g := gb428) (o := .cells #[.int .i64 x429000_1, .int .i64 x429001_1, .int .i64 x429002_1, .int .i64 x429003_1, .int .i64 x429004_1, .slice Ao24 x429005_1.length co24, .slice Ao25 x429006_1.length co25] 29 (0, 0)) (by (with_reducible repeat (first | refine blk_drewN ?_ _ | refine blk_drew ?_ | refine blk_alloc ?_ _)); exact BK428.out)) : gb449 ≠ gb428))
                  clear HO_6
                  clear HO_429005
                  clear HO_429006
                  clear HO443
                  clear HO446
                  clear BK416
                  clear BK428
                  clear HB
                  have HO_6 := n0_
                  have HO_429005 := n1_
                  have HO_429006 := n2_
                  have HO443 := n3_
                  have HO446 := n4_
                  have BK416 := n5_
                  have BK428 := n6_
                  have HB := n7_
                  have BK449 := n8_
                  have GW449 := n9_
                  have GE449 := n10_
                  have NB416_449 := n11_
                  have NB449_416 := n12_
                  have NB428_449 := n13_
                  have NB449_428 := n14_
                  clear n0_ n1_ n2_ n3_ n4_ n5_ n6_ n7_ n8_ n9_ n10_ n11_ n12_ n13_ n14_
                  clear hb hbox hg
                  refine hK.out _ _ ⟨(blk_cell BK428.out 0).trans rfl, (blk_cell BK428.out 1).trans rfl, (blk_cell BK428.out 2).trans rfl, (blk_cell BK428.out 3).trans rfl, (blk_cell BK428.out 4).trans rfl, (blk_cell BK428.out 5).trans rfl, (blk_cell BK428.out 6).trans rfl, HS7_, HS8_⟩ (fun hHeld => ?_)
                  clear hK K
                  refine norm_ (a' := ?_) ?_ ?_
                  rotate_left
                  · show Act.put _ (some 9) _ = _
                    simp only [Act.put, List.setIfInBounds_toArray, List.set_cons_zero, List.set_cons_succ, i64_w, i32_w]
                    rfl
                  exact norm_ (by simp only [putAll, Act.put, List.setIfInBounds_toArray, List.set_cons_zero, List.set_cons_succ]) (hCont (v442, v445, gb449) _ ⟨hHeld, (by (with_reducible repeat (first | apply Kd.R_alloc | apply Kd.R_drewN | apply Kd.R_drew)); exact Kd.R_mono HO443.out (fun _ hk => hk.2)), (by (with_reducible repeat (first | apply Kd.R_alloc | apply Kd.R_drewN | apply Kd.R_drew)); exact Kd.R_mono HO446.out (fun _ hk => hk.2)), (by (with_reducible repeat (first | apply Kd.R_alloc | apply Kd.R_drewN | apply Kd.R_drew)); exact Kd.R_mono HO_429005.out (fun _ hk => hk.2)), (by (with_reducible repeat (first | apply Kd.R_alloc | apply Kd.R_drewN | apply Kd.R_drew)); exact Kd.R_mono HO_429006.out (fun _ hk => hk.2)), (by (with_reducible repeat (first | apply Kd.R_alloc | apply Kd.R_drewN | apply Kd.R_drew)); exact HO_6.out), (by (with_reducible repeat (first | refine blk_drewN ?_ _ | refine blk_drew ?_ | refine blk_alloc ?_ _)); exact BK416.out), (by (with_reducible repeat (first | refine blk_drewN ?_ _ | refine blk_drew ?_ | refine blk_alloc ?_ _)); exact BK428.out), (by (with_reducible repeat (first | refine blk_drewN ?_ _ | refine blk_drew ?_ | refine blk_alloc ?_ _)); exact BK449.out), GW449.out, GE449.out, NB416_449.out, NB449_416.out, NB428_449.out, NB449_428.out, (by repeat (first | (with_reducible first | exact HB.out | apply below_alloc | apply pw_below_drewN | apply below_drew1 | refine below_set ?_ GE416.out | refine below_set ?_ GE428.out | refine below_set ?_ GE449.out) | exact HB.out))⟩)
                · skip
                  refine box_step ?hg (N := 9) ?hd (cs := #[.int .i64 0, .int .i64 0, .int .i64 0, .int .i64 0, .int .i64 0, .slice none 0 0, .slice none 0 0]) (t := 29) ?hr ?_; (case hd => rfl); (case hg => rfl); (case hr => first | (go_simp; done) | (go_simp; rfl))
                  intro gb449 hg w28 hbox hb
                  have HS7_ := (hb.cell (World.block_lt_of_cell? _ _ (hHeld.2.2.2.2.2.2.2.1))).trans (hHeld.2.2.2.2.2.2.2.1)
                  have HS8_ := (hb.cell (World.block_lt_of_cell? _ _ (hHeld.2.2.2.2.2.2.2.2))).trans (hHeld.2.2.2.2.2.2.2.2)
                  have n0_ := Aside0.mk (Kd.R_below (by (with_reducible repeat (first | apply Kd.R_alloc | apply Kd.R_drewN | apply Kd.R_drew)); exact HO_6.out) hb)
                  have n1_ := Aside0.mk (Kd.R_below (by (with_reducible repeat (first | apply Kd.R_alloc | apply Kd.R_drewN | apply Kd.R_drew)); exact HO_429005.out) hb)
                  have n2_ := Aside0.mk (Kd.R_below (by (with_reducible repeat (first | apply Kd.R_alloc | apply Kd.R_drewN | apply Kd.R_drew)); exact HO_429006.out) hb)
                  have n3_ := Aside0.mk (blk_below (g := gb416) (o := .cells #[.int .i64 a0_0, .int .i64 a0_1, .int .i64 a0_2, .int .i64 a0_3, .int .i64 a0_4, .slice A0_5 l0_5.length c0_5, .slice A0_6 l0_6.length c0_6, .slice A0_7 l0_7.length c0_7] 24 (0, 0)) (by (with_reducible repeat (first | refine blk_drewN ?_ _ | refine blk_drew ?_ | refine blk_alloc ?_ _)); exact BK416.out) hb)
                  have n4_ := Aside0.mk (blk_below (g := gb428) (o := .cells #[.int .i64 x429000_1, .int .i64 x429001_1, .int .i64 x429002_1, .int .i64 x429003_1, .int .i64 x429004_1, .slice Ao24 x429005_1.length co24, .slice Ao25 x429006_1.length co25] 29 (0, 0)) (by (with_reducible repeat (first | refine blk_drewN ?_ _ | refine blk_drew ?_ | refine blk_alloc ?_ _)); exact BK428.out) hb)
                  have n5_ := Aside0.mk (below_step (by repeat (first | (with_reducible first | exact HB.out | apply below_alloc | apply pw_below_drewN | apply below_drew1 | refine below_set ?_ GE416.out | refine below_set ?_ GE428.out) | exact HB.out)) hb)
                  have n6_ := Aside0.mk (hbox)
                  have n7_ := Aside0.mk ((by rw [hg]; exact (below_size (by repeat (first | (with_reducible first | exact HB.out | apply below_alloc | apply pw_below_drewN | apply below_drew1 | refine below_set ?_ GE416.out | refine below_set ?_ GE428.out) | exact HB.out))) : w.heap.size ≤ gb449))
                  have n8_ := Aside0.mk ((by rw [hg]; exact (below_size (by repeat (first | (with_reducible first | exact HB.out | apply below_alloc | apply pw_below_drewN | apply below_drew1 | refine below_set ?_ GE416.out | refine below_set ?_ GE428.out) | exact HB.out))) : w.heap.size ≤ gb449))
                  have n9_ := Aside0.mk ((by rw [hg]; exact Nat.ne_of_lt (blk_lt (g := gb416) (o := .cells #[.int .i64 a0_0, .int .i64 a0_1, .int .i64 a0_2, .int .i64 a0_3, .int .i64 a0_4, .slice A0_5 l0_5.length c0_5, .slice A0_6 l0_6.length c0_6, .slice A0_7 l0_7.length c0_7] 24 (0, 0)) (by (with_reducible repeat (first | refine blk_drewN ?_ _ | refine blk_drew ?_ | refine blk_alloc ?_ _)); exact BK416.out)) : gb416 ≠ gb449))
                  have n10_ := Aside0.mk ((by rw [hg]; exact Nat.ne_of_gt (blk_lt (g := gb416) (o := .cells #[.int .i64 a0_0, .int .i64 a0_1, .int .i64 a0_2, .int .i64 a0_3, .int .i64 a0_4, .slice A0_5 l0_5.length c0_5, .slice A0_6 l0_6.length c0_6, .slice A0_7 l0_7.length c0_7] 24 (0, 0)) (by (with_reducible repeat (first | refine blk_drewN ?_ _ | refine blk_drew ?_ | refine blk_alloc ?_ _)); exact BK416.out)) : gb449 ≠ gb416))
                  have n11_ := Aside0.mk ((by rw [hg]; exact Nat.ne_of_lt (blk_lt (g := gb428) (o := .cells #[.int .i64 x429000_1, .int .i64 x429001_1, .int .i64 x429002_1, .int .i64 x429003_1, .int .i64 x429004_1, .slice Ao24 x429005_1.length co24, .slice Ao25 x429006_1.length co25] 29 (0, 0)) (by (with_reducible repeat (first | refine blk_drewN ?_ _ | refine blk_drew ?_ | refine blk_alloc ?_ _)); exact BK428.out)) : gb428 ≠ gb449))
                  have n12_ := Aside0.mk ((by rw [hg]; exact Nat.ne_of_gt (blk_lt (g := gb428) (o := .cells #[.int .i64 x429000_1, .int .i64 x429001_1, .int .i64 x429002_1, .int .i64 x429003_1, .int .i64 x429004_1, .slice Ao24 x429005_1.length co24, .slice Ao25 x429006_1.length co25] 29 (0, 0)) (by (with_reducible repeat (first | refine blk_drewN ?_ _ | refine blk_drew ?_ | refine blk_alloc ?_ _)); exact BK428.out)) : gb449 ≠ gb428))
                  clear HO_6
                  clear HO_429005
                  clear HO_429006
                  clear BK416
                  clear BK428
                  clear HB
                  have HO_6 := n0_
                  have HO_429005 := n1_
                  have HO_429006 := n2_
                  have BK416 := n3_
                  have BK428 := n4_
                  have HB := n5_
                  have BK449 := n6_
                  have GW449 := n7_
                  have GE449 := n8_
                  have NB416_449 := n9_
                  have NB449_416 := n10_
                  have NB428_449 := n11_
                  have NB449_428 := n12_
                  clear n0_ n1_ n2_ n3_ n4_ n5_ n6_ n7_ n8_ n9_ n10_ n11_ n12_
                  clear hb hbox hg
                  refine hK.out _ _ ⟨(blk_cell BK428.out 0).trans rfl, (blk_cell BK428.out 1).trans rfl, (blk_cell BK428.out 2).trans rfl, (blk_cell BK428.out 3).trans rfl, (blk_cell BK428.out 4).trans rfl, (blk_cell BK428.out 5).trans rfl, (blk_cell BK428.out 6).trans rfl, HS7_, HS8_⟩ (fun hHeld => ?_)
                  clear hK K
                  refine norm_ (a' := ?_) ?_ ?_
                  rotate_left
                  · show Act.put _ (some 9) _ = _
                    simp only [Act.put, List.setIfInBounds_toArray, List.set_cons_zero, List.set_cons_succ, i64_w, i32_w]
                    rfl
                  refine one_ (i := 5) (N := some 30) #[true, true, true, true, true, true, false, false, false, false, true, false, false, false] rfl rfl (one_of HT_.out (by kernel_rfl)) (by decide) (fun K hK => ?_)
                  refine goes_ Try.func18 (by kernel_rfl) rfl #[.agg #[.int .i64 x429000_1, .int .i64 x429001_1, .int .i64 x429002_1, .int .i64 x429003_1, .int .i64 x429004_1, .slice Ao24 x429005_1.length co24, .slice Ao25 x429006_1.length co25], .agg #[.int .i64 ((rd_T40 t429 x7_1).f0), .int .i64 ((rd_T40 t429 x7_1).f1)]] (by rfl) rfl rfl (by (try simp only [List.map_toArray, List.map_cons, List.map_nil]); first | done | rfl | (simp only [List.length_drop, List.length_take]; rfl)) ?_
                  with_reducible refine (datalink_Step.calls x429000_1 x429001_1 x429002_1 x429003_1 x429004_1 _ _ x429005_1 _ _ x429006_1 ((rd_T40 t429 x7_1).f0) ((rd_T40 t429 x7_1).f1) t436 t437 t438 t439 t440 t441 t444 t447 t448 _ ?side1 ?side2 ?side3 ?side4 A17.out).mono ?_
                  (case side1 => repeat (first | exact (Kd.R_reads' HO_429005.out).2.2 | (with_reducible refine Kd.C_alloc ?_ _) | (with_reducible refine Kd.C_drewN ?_ _) | (with_reducible refine Kd.C_drew ?_)))
                  (case side2 => exact (Kd.R_reads' HO_429005.out).2.1)
                  (case side3 => repeat (first | exact (Kd.R_reads' HO_429006.out).2.2 | (with_reducible refine Kd.C_alloc ?_ _) | (with_reducible refine Kd.C_drewN ?_ _) | (with_reducible refine Kd.C_drew ?_)))
                  (case side4 => exact (Kd.R_reads' HO_429006.out).2.1)
                  rintro e w29 ⟨v442, v445, rfl, ho0, ho1, hb⟩
                  have HS7_ := (hb.cell (World.block_lt_of_cell? _ _ (hHeld.2.2.2.2.2.2.2.1))).trans (hHeld.2.2.2.2.2.2.2.1)
                  have HS8_ := (hb.cell (World.block_lt_of_cell? _ _ (hHeld.2.2.2.2.2.2.2.2))).trans (hHeld.2.2.2.2.2.2.2.2)
                  refine ⟨_, rfl, ?_⟩
                  have n0_ := Aside0.mk (Kd.R_below (by (with_reducible repeat (first | apply Kd.R_alloc | apply Kd.R_drewN | apply Kd.R_drew)); exact HO_6.out) hb)
                  have n1_ := Aside0.mk (Kd.R_elder' (by (with_reducible repeat (first | apply Kd.R_alloc | apply Kd.R_drewN | apply Kd.R_drew)); exact HO_429005.out) (Kd.R_base ho0) hb)
                  have n2_ := Aside0.mk (Kd.R_elder' (by (with_reducible repeat (first | apply Kd.R_alloc | apply Kd.R_drewN | apply Kd.R_drew)); exact HO_429006.out) (Kd.R_base ho1) hb)
                  have n3_ := Aside0.mk (Kd.R_lower (Kd.R_new' ho0 (Kd.R_lt (by (with_reducible repeat (first | apply Kd.R_alloc | apply Kd.R_drewN | apply Kd.R_drew)); exact HO_429005.out))) (below_size (by repeat (first | (with_reducible first | exact HB.out | apply below_alloc | apply pw_below_drewN | apply below_drew1 | refine below_set ?_ GE416.out | refine below_set ?_ GE428.out | refine below_set ?_ GE449.out) | exact HB.out))))
                  have n4_ := Aside0.mk (Kd.R_lower (Kd.R_new' ho1 (Kd.R_lt (by (with_reducible repeat (first | apply Kd.R_alloc | apply Kd.R_drewN | apply Kd.R_drew)); exact HO_429006.out))) (below_size (by repeat (first | (with_reducible first | exact HB.out | apply below_alloc | apply pw_below_drewN | apply below_drew1 | refine below_set ?_ GE416.out | refine below_set ?_ GE428.out | refine below_set ?_ GE449.out) | exact HB.out))))
                  have n5_ := Aside0.mk (blk_below (g := gb416) (o := .cells #[.int .i64 a0_0, .int .i64 a0_1, .int .i64 a0_2, .int .i64 a0_3, .int .i64 a0_4, .slice A0_5 l0_5.length c0_5, .slice A0_6 l0_6.length c0_6, .slice A0_7 l0_7.length c0_7] 24 (0, 0)) (by (with_reducible repeat (first | refine blk_drewN ?_ _ | refine blk_drew ?_ | refine blk_alloc ?_ _)); exact BK416.out) hb)
                  have n6_ := Aside0.mk (blk_below (g := gb428) (o := .cells #[.int .i64 x429000_1, .int .i64 x429001_1, .int .i64 x429002_1, .int .i64 x429003_1, .int .i64 x429004_1, .slice Ao24 x429005_1.length co24, .slice Ao25 x429006_1.length co25] 29 (0, 0)) (by (with_reducible repeat (first | refine blk_drewN ?_ _ | refine blk_drew ?_ | refine blk_alloc ?_ _)); exact BK428.out) hb)
                  have n7_ := Aside0.mk (blk_below (g := gb449) (o := .cells #[.int .i64 0, .int .i64 0, .int .i64 0, .int .i64 0, .int .i64 0, .slice none 0 0, .slice none 0 0] 29 (0, 0)) (by (with_reducible repeat (first | refine blk_drewN ?_ _ | refine blk_drew ?_ | refine blk_alloc ?_ _)); exact BK449.out) hb)
                  have n8_ := Aside0.mk (below_step (by repeat (first | (with_reducible first | exact HB.out | apply below_alloc | apply pw_below_drewN | apply below_drew1 | refine below_set ?_ GE416.out | refine below_set ?_ GE428.out | refine below_set ?_ GE449.out) | exact HB.out)) hb)
                  clear HO_6
                  clear HO_429005
                  clear HO_429006
                  clear BK416
                  clear BK428
                  clear BK449
                  clear HB
                  have HO_6 := n0_
                  have HO_429005 := n1_
                  have HO_429006 := n2_
                  have HO443 := n3_
                  have HO446 := n4_
                  have BK416 := n5_
                  have BK428 := n6_
                  have BK449 := n7_
                  have HB := n8_
                  clear n0_ n1_ n2_ n3_ n4_ n5_ n6_ n7_ n8_
                  (try clear hb)
                  (try clear hb2)
                  (try clear hk)
                  (try clear hi)
                  (try clear ho0)
                  (try clear ho1)
                  refine hK.out _ _ ⟨(blk_cell BK428.out 0).trans rfl, (blk_cell BK428.out 1).trans rfl, (blk_cell BK428.out 2).trans rfl, (blk_cell BK428.out 3).trans rfl, (blk_cell BK428.out 4).trans rfl, (blk_cell BK428.out 5).trans rfl, (blk_cell BK428.out 6).trans rfl, HS7_, HS8_⟩ (fun hHeld => ?_)
                  clear hK K
                  refine norm_ (a' := ?_) ?_ ?_
                  rotate_left
                  · show Act.put _ (some 30) _ = _
                    simp only [Act.put, List.setIfInBounds_toArray, List.set_cons_zero, List.set_cons_succ, i64_w, i32_w]
                    rfl
                  refine pure_ (i := 6) (N := some 24) (v := ?_) (a' := ?_) #[true, true, true, true, true, true, true, false, false, false, true, false, false, false] rfl rfl (any_of HT_.out (by kernel_rfl)) (fun _ _ _ h => h) (Or.inl ⟨by rfl, ?_⟩) ?_ ?_
                  rotate_left
                  · intro w'
                    go_simp
                    with_reducible rfl
                  rotate_left
                  · simp only [Act.put, List.setIfInBounds_toArray, List.set_cons_zero, List.set_cons_succ, i64_w, i32_w]
                    rfl
                  refine pure_ (i := 7) (N := some 31) (v := ?_) (a' := ?_) #[true, true, true, true, true, true, true, true, false, false, true, false, false, false] rfl rfl (any_of HT_.out (by kernel_rfl)) (fun _ _ _ h => h) (Or.inl ⟨by rfl, ?_⟩) ?_ ?_
                  rotate_left
                  · intro w'
                    go_simp
                    with_reducible rfl
                  rotate_left
                  · simp only [Act.put, List.setIfInBounds_toArray, List.set_cons_zero, List.set_cons_succ, i64_w, i32_w]
                    rfl
                  refine pure_ (i := 8) (N := some 32) (v := ?_) (a' := ?_) #[true, true, true, true, true, true, true, true, true, false, true, false, false, false] rfl rfl (any_of HT_.out (by kernel_rfl)) (fun _ _ _ h => h) (Or.inl ⟨by rfl, ?_⟩) ?_ ?_
                  rotate_left
                  · intro w'
                    go_simp
                    with_reducible rfl
                  rotate_left
                  · simp only [Act.put, List.setIfInBounds_toArray, List.set_cons_zero, List.set_cons_succ, i64_w, i32_w]
                    rfl
                  refine pure_ (i := 9) (N := some 33) (v := ?_) (a' := ?_) #[true, true, true, true, true, true, true, true, true, true, true, false, false, false] rfl rfl (any_of HT_.out (by kernel_rfl)) (fun _ _ _ h => h) (Or.inl ⟨by rfl, ?_⟩) ?_ ?_
                  rotate_left
                  · intro w'
                    go_simp
                    with_reducible rfl
                  rotate_left
                  · simp only [Act.put, List.setIfInBounds_toArray, List.set_cons_zero, List.set_cons_succ, i64_w, i32_w]
                    rfl
                  exact norm_ (by simp only [putAll, Act.put, List.setIfInBounds_toArray, List.set_cons_zero, List.set_cons_succ]) (hCont (v442, v445, gb449) _ ⟨hHeld, (by (with_reducible repeat (first | apply Kd.R_alloc | apply Kd.R_drewN | apply Kd.R_drew)); exact Kd.R_mono HO443.out (fun _ hk => hk.2)), (by (with_reducible repeat (first | apply Kd.R_alloc | apply Kd.R_drewN | apply Kd.R_drew)); exact Kd.R_mono HO446.out (fun _ hk => hk.2)), (by (with_reducible repeat (first | apply Kd.R_alloc | apply Kd.R_drewN | apply Kd.R_drew)); exact Kd.R_mono HO_429005.out (fun _ hk => hk.2)), (by (with_reducible repeat (first | apply Kd.R_alloc | apply Kd.R_drewN | apply Kd.R_drew)); exact Kd.R_mono HO_429006.out (fun _ hk => hk.2)), (by (with_reducible repeat (first | apply Kd.R_alloc | apply Kd.R_drewN | apply Kd.R_drew)); exact HO_6.out), (by (with_reducible repeat (first | refine blk_drewN ?_ _ | refine blk_drew ?_ | refine blk_alloc ?_ _)); exact BK416.out), (by (with_reducible repeat (first | refine blk_drewN ?_ _ | refine blk_drew ?_ | refine blk_alloc ?_ _)); exact BK428.out), (by (with_reducible repeat (first | refine blk_drewN ?_ _ | refine blk_drew ?_ | refine blk_alloc ?_ _)); exact BK449.out), GW449.out, GE449.out, NB416_449.out, NB449_416.out, NB428_449.out, NB449_428.out, (by repeat (first | (with_reducible first | exact HB.out | apply below_alloc | apply pw_below_drewN | apply below_drew1 | refine below_set ?_ GE416.out | refine below_set ?_ GE428.out | refine below_set ?_ GE449.out) | exact HB.out))⟩)
              rintro ⟨v442, v445, gb449⟩ w30 ⟨hS_, h0_, h1_, h2_, h3_, h4_, h5_, h6_, h7_, h8_, h9_, h10_, h11_, h12_, h13_, h14_⟩
              have n0_ : Aside0 (Kd.R k46 46 w30 w.heap.size (fun k_ => some k_ ≠ (.slice Ao24 x429005_1.length co24 : Value).ownBlock) v442 t441) := ⟨h0_⟩
              have n1_ : Aside0 (Kd.R (Kd.int .i64) 3 w30 w.heap.size (fun k_ => some k_ ≠ (.slice Ao25 x429006_1.length co25 : Value).ownBlock) v445 t444) := ⟨h1_⟩
              have n2_ : Aside0 (Kd.R k46 46 w30 w.heap.size (fun k_ => some k_ ≠ (v442 : Value).ownBlock) (.slice Ao24 x429005_1.length co24) x429005_1) := ⟨h2_⟩
              have n3_ : Aside0 (Kd.R (Kd.int .i64) 3 w30 w.heap.size (fun k_ => some k_ ≠ (v445 : Value).ownBlock) (.slice Ao25 x429006_1.length co25) x429006_1) := ⟨h3_⟩
              have n4_ : Aside0 (Kd.R k40 40 w30 w.heap.size (fun _ => True) (.slice (some ad435) t429.length co21) t429) := ⟨h4_⟩
              have n5_ : Aside0 (w30.heap[gb416]? = some (.cells #[.int .i64 a0_0, .int .i64 a0_1, .int .i64 a0_2, .int .i64 a0_3, .int .i64 a0_4, .slice A0_5 l0_5.length c0_5, .slice A0_6 l0_6.length c0_6, .slice A0_7 l0_7.length c0_7] 24 (0, 0))) := ⟨h5_⟩
              have n6_ : Aside0 (w30.heap[gb428]? = some (.cells #[.int .i64 x429000_1, .int .i64 x429001_1, .int .i64 x429002_1, .int .i64 x429003_1, .int .i64 x429004_1, .slice Ao24 x429005_1.length co24, .slice Ao25 x429006_1.length co25] 29 (0, 0))) := ⟨h6_⟩
              have n7_ : Aside0 (w30.heap[gb449]? = some (.cells #[.int .i64 0, .int .i64 0, .int .i64 0, .int .i64 0, .int .i64 0, .slice none 0 0, .slice none 0 0] 29 (0, 0))) := ⟨h7_⟩
              have n8_ : Aside0 (w.heap.size ≤ gb449) := ⟨h8_⟩
              have n9_ : Aside0 (w.heap.size ≤ gb449) := ⟨h9_⟩
              have n10_ : Aside0 (gb416 ≠ gb449) := ⟨h10_⟩
              have n11_ : Aside0 (gb449 ≠ gb416) := ⟨h11_⟩
              have n12_ : Aside0 (gb428 ≠ gb449) := ⟨h12_⟩
              have n13_ : Aside0 (gb449 ≠ gb428) := ⟨h13_⟩
              have n14_ : Aside0 (Below w.heap.size w w30) := ⟨h14_⟩
              clear HO_6
              clear HO_429005
              clear HO_429006
              clear BK416
              clear BK428
              clear HB
              clear h0_ h1_ h2_ h3_ h4_ h5_ h6_ h7_ h8_ h9_ h10_ h11_ h12_ h13_ h14_
              have HO443 := n0_
              have HO446 := n1_
              have HO_429005 := n2_
              have HO_429006 := n3_
              have HO_6 := n4_
              have BK416 := n5_
              have BK428 := n6_
              have BK449 := n7_
              have GW449 := n8_
              have GE449 := n9_
              have NB416_449 := n10_
              have NB449_416 := n11_
              have NB428_449 := n12_
              have NB449_428 := n13_
              have HB := n14_
              clear n0_ n1_ n2_ n3_ n4_ n5_ n6_ n7_ n8_ n9_ n10_ n11_ n12_ n13_ n14_
              have hHeld : w30.cell? ⟨gb428, 0, none⟩ = some (.int .i64 x429000_1) ∧ w30.cell? ⟨gb428, 1, none⟩ = some (.int .i64 x429001_1) ∧ w30.cell? ⟨gb428, 2, none⟩ = some (.int .i64 x429002_1) ∧ w30.cell? ⟨gb428, 3, none⟩ = some (.int .i64 x429003_1) ∧ w30.cell? ⟨gb428, 4, none⟩ = some (.int .i64 x429004_1) ∧ w30.cell? ⟨gb428, 5, none⟩ = some (.slice Ao24 x429005_1.length co24) ∧ w30.cell? ⟨gb428, 6, none⟩ = some (.slice Ao25 x429006_1.length co25) ∧ w30.cell? (ad435.add ((x7_1).toNat * 2)) = some (.int .i64 ((rd_T40 t429 x7_1).f0)) ∧ w30.cell? ⟨(ad435.add ((x7_1).toNat * 2)).block, (ad435.add ((x7_1).toNat * 2)).off + 1, none⟩ = some (.int .i64 ((rd_T40 t429 x7_1).f1)) := hS_
              obtain ⟨Ao36, co36, eo36⟩ := Kd.R_slice HO443.out
              (first | subst eo36 | (injection eo36 with f1_ f2_ f3_; have f4_ := f1_.symm; have f5_ := f3_.symm; clear f1_ f2_ f3_; subst f4_; subst f5_))
              obtain ⟨Ao38, co38, eo38⟩ := Kd.R_slice HO446.out
              (first | subst eo38 | (injection eo38 with f1_ f2_ f3_; have f4_ := f1_.symm; have f5_ := f3_.symm; clear f1_ f2_ f3_; subst f4_; subst f5_))
              refine norm_ (a' := ?_) ?_ ?_
              rotate_left
              · simp only [putAll, Act.put, List.setIfInBounds_toArray, List.set_cons_zero, List.set_cons_succ]
                rfl
              refine one_ (i := 11) (N := none) #[true, true, true, true, true, true, true, true, true, true, true, true, false, false] rfl rfl (one_of HT_.out (by kernel_rfl)) (by decide) (fun K hK => ?_)
              have hs31 : w30.cell? ⟨gb449, 0, none⟩ = some (.int .i64 0) := (blk_cell BK449.out 0).trans rfl
              have hfs31 := blk_frozen BK449.out 0
              have hns31_0 := NB416_449.out
              have hns31_1 := NB428_449.out
              have hms31_0 := NB449_416.out
              have hms31_1 := NB449_428.out
              have hs32 : w30.cell? ⟨gb449, 1, none⟩ = some (.int .i64 0) := (blk_cell BK449.out 1).trans rfl
              have hfs32 := blk_frozen BK449.out 1
              have hns32_0 := NB416_449.out
              have hns32_1 := NB428_449.out
              have hms32_0 := NB449_416.out
              have hms32_1 := NB449_428.out
              have hs33 : w30.cell? ⟨gb449, 2, none⟩ = some (.int .i64 0) := (blk_cell BK449.out 2).trans rfl
              have hfs33 := blk_frozen BK449.out 2
              have hns33_0 := NB416_449.out
              have hns33_1 := NB428_449.out
              have hms33_0 := NB449_416.out
              have hms33_1 := NB449_428.out
              have hs34 : w30.cell? ⟨gb449, 3, none⟩ = some (.int .i64 0) := (blk_cell BK449.out 3).trans rfl
              have hfs34 := blk_frozen BK449.out 3
              have hns34_0 := NB416_449.out
              have hns34_1 := NB428_449.out
              have hms34_0 := NB449_416.out
              have hms34_1 := NB449_428.out
              have hs35 : w30.cell? ⟨gb449, 4, none⟩ = some (.int .i64 0) := (blk_cell BK449.out 4).trans rfl
              have hfs35 := blk_frozen BK449.out 4
              have hns35_0 := NB416_449.out
              have hns35_1 := NB428_449.out
              have hms35_0 := NB449_416.out
              have hms35_1 := NB449_428.out
              have hs37 : w30.cell? ⟨gb449, 5, none⟩ = some (.slice none 0 0) := (blk_cell BK449.out 5).trans rfl
              have hfs37 := blk_frozen BK449.out 5
              have hns37_0 := NB416_449.out
              have hns37_1 := NB428_449.out
              have hms37_0 := NB449_416.out
              have hms37_1 := NB449_428.out
              have hs39 : w30.cell? ⟨gb449, 6, none⟩ = some (.slice none 0 0) := (blk_cell BK449.out 6).trans rfl
              have hfs39 := blk_frozen BK449.out 6
              have hns39_0 := NB416_449.out
              have hns39_1 := NB428_449.out
              have hms39_0 := NB449_416.out
              have hms39_1 := NB449_428.out
              refine skip_ (w1 := ?_) (by rfl) rfl ?_ ?_
              rotate_left
              · go_simp
                rfl
              refine hK.out _ _ ⟨((cell_far (p := ⟨gb449, _, none⟩) NB428_449.out _).trans (((cell_far (p := ⟨gb449, _, none⟩) NB428_449.out _).trans (((cell_far (p := ⟨gb449, _, none⟩) NB428_449.out _).trans (((cell_far (p := ⟨gb449, _, none⟩) NB428_449.out _).trans (((cell_far (p := ⟨gb449, _, none⟩) NB428_449.out _).trans (((cell_far (p := ⟨gb449, _, none⟩) NB428_449.out _).trans (((cell_far (p := ⟨gb449, _, none⟩) NB428_449.out _).trans (hHeld.1)))))))))))))), ((cell_far (p := ⟨gb449, _, none⟩) NB428_449.out _).trans (((cell_far (p := ⟨gb449, _, none⟩) NB428_449.out _).trans (((cell_far (p := ⟨gb449, _, none⟩) NB428_449.out _).trans (((cell_far (p := ⟨gb449, _, none⟩) NB428_449.out _).trans (((cell_far (p := ⟨gb449, _, none⟩) NB428_449.out _).trans (((cell_far (p := ⟨gb449, _, none⟩) NB428_449.out _).trans (((cell_far (p := ⟨gb449, _, none⟩) NB428_449.out _).trans (hHeld.2.1)))))))))))))), ((cell_far (p := ⟨gb449, _, none⟩) NB428_449.out _).trans (((cell_far (p := ⟨gb449, _, none⟩) NB428_449.out _).trans (((cell_far (p := ⟨gb449, _, none⟩) NB428_449.out _).trans (((cell_far (p := ⟨gb449, _, none⟩) NB428_449.out _).trans (((cell_far (p := ⟨gb449, _, none⟩) NB428_449.out _).trans (((cell_far (p := ⟨gb449, _, none⟩) NB428_449.out _).trans (((cell_far (p := ⟨gb449, _, none⟩) NB428_449.out _).trans (hHeld.2.2.1)))))))))))))), ((cell_far (p := ⟨gb449, _, none⟩) NB428_449.out _).trans (((cell_far (p := ⟨gb449, _, none⟩) NB428_449.out _).trans (((cell_far (p := ⟨gb449, _, none⟩) NB428_449.out _).trans (((cell_far (p := ⟨gb449, _, none⟩) NB428_449.out _).trans (((cell_far (p := ⟨gb449, _, none⟩) NB428_449.out _).trans (((cell_far (p := ⟨gb449, _, none⟩) NB428_449.out _).trans (((cell_far (p := ⟨gb449, _, none⟩) NB428_449.out _).trans (hHeld.2.2.2.1)))))))))))))), ((cell_far (p := ⟨gb449, _, none⟩) NB428_449.out _).trans (((cell_far (p := ⟨gb449, _, none⟩) NB428_449.out _).trans (((cell_far (p := ⟨gb449, _, none⟩) NB428_449.out _).trans (((cell_far (p := ⟨gb449, _, none⟩) NB428_449.out _).trans (((cell_far (p := ⟨gb449, _, none⟩) NB428_449.out _).trans (((cell_far (p := ⟨gb449, _, none⟩) NB428_449.out _).trans (((cell_far (p := ⟨gb449, _, none⟩) NB428_449.out _).trans (hHeld.2.2.2.2.1)))))))))))))), ((cell_far (p := ⟨gb449, _, none⟩) NB428_449.out _).trans (((cell_far (p := ⟨gb449, _, none⟩) NB428_449.out _).trans (((cell_far (p := ⟨gb449, _, none⟩) NB428_449.out _).trans (((cell_far (p := ⟨gb449, _, none⟩) NB428_449.out _).trans (((cell_far (p := ⟨gb449, _, none⟩) NB428_449.out _).trans (((cell_far (p := ⟨gb449, _, none⟩) NB428_449.out _).trans (((cell_far (p := ⟨gb449, _, none⟩) NB428_449.out _).trans (hHeld.2.2.2.2.2.1)))))))))))))), ((cell_far (p := ⟨gb449, _, none⟩) NB428_449.out _).trans (((cell_far (p := ⟨gb449, _, none⟩) NB428_449.out _).trans (((cell_far (p := ⟨gb449, _, none⟩) NB428_449.out _).trans (((cell_far (p := ⟨gb449, _, none⟩) NB428_449.out _).trans (((cell_far (p := ⟨gb449, _, none⟩) NB428_449.out _).trans (((cell_far (p := ⟨gb449, _, none⟩) NB428_449.out _).trans (((cell_far (p := ⟨gb449, _, none⟩) NB428_449.out _).trans (hHeld.2.2.2.2.2.2.1)))))))))))))), ((cell_far (p := ⟨gb449, _, none⟩) (by first | exact Kd.own_blk (Kd.R_ne HO_6.out BK449.out (by decide)) | (rw [add_block]; exact Kd.own_blk (Kd.R_ne HO_6.out BK449.out (by decide))) | (show (Addr.add _ _).block ≠ _; rw [add_block]; exact Kd.own_blk (Kd.R_ne HO_6.out BK449.out (by decide))) | (dsimp only; exact Kd.own_blk (Kd.R_ne HO_6.out BK449.out (by decide)))) _).trans (((cell_far (p := ⟨gb449, _, none⟩) (by first | exact Kd.own_blk (Kd.R_ne HO_6.out BK449.out (by decide)) | (rw [add_block]; exact Kd.own_blk (Kd.R_ne HO_6.out BK449.out (by decide))) | (show (Addr.add _ _).block ≠ _; rw [add_block]; exact Kd.own_blk (Kd.R_ne HO_6.out BK449.out (by decide))) | (dsimp only; exact Kd.own_blk (Kd.R_ne HO_6.out BK449.out (by decide)))) _).trans (((cell_far (p := ⟨gb449, _, none⟩) (by first | exact Kd.own_blk (Kd.R_ne HO_6.out BK449.out (by decide)) | (rw [add_block]; exact Kd.own_blk (Kd.R_ne HO_6.out BK449.out (by decide))) | (show (Addr.add _ _).block ≠ _; rw [add_block]; exact Kd.own_blk (Kd.R_ne HO_6.out BK449.out (by decide))) | (dsimp only; exact Kd.own_blk (Kd.R_ne HO_6.out BK449.out (by decide)))) _).trans (((cell_far (p := ⟨gb449, _, none⟩) (by first | exact Kd.own_blk (Kd.R_ne HO_6.out BK449.out (by decide)) | (rw [add_block]; exact Kd.own_blk (Kd.R_ne HO_6.out BK449.out (by decide))) | (show (Addr.add _ _).block ≠ _; rw [add_block]; exact Kd.own_blk (Kd.R_ne HO_6.out BK449.out (by decide))) | (dsimp only; exact Kd.own_blk (Kd.R_ne HO_6.out BK449.out (by decide)))) _).trans (((cell_far (p := ⟨gb449, _, none⟩) (by first | exact Kd.own_blk (Kd.R_ne HO_6.out BK449.out (by decide)) | (rw [add_block]; exact Kd.own_blk (Kd.R_ne HO_6.out BK449.out (by decide))) | (show (Addr.add _ _).block ≠ _; rw [add_block]; exact Kd.own_blk (Kd.R_ne HO_6.out BK449.out (by decide))) | (dsimp only; exact Kd.own_blk (Kd.R_ne HO_6.out BK449.out (by decide)))) _).trans (((cell_far (p := ⟨gb449, _, none⟩) (by first | exact Kd.own_blk (Kd.R_ne HO_6.out BK449.out (by decide)) | (rw [add_block]; exact Kd.own_blk (Kd.R_ne HO_6.out BK449.out (by decide))) | (show (Addr.add _ _).block ≠ _; rw [add_block]; exact Kd.own_blk (Kd.R_ne HO_6.out BK449.out (by decide))) | (dsimp only; exact Kd.own_blk (Kd.R_ne HO_6.out BK449.out (by decide)))) _).trans (((cell_far (p := ⟨gb449, _, none⟩) (by first | exact Kd.own_blk (Kd.R_ne HO_6.out BK449.out (by decide)) | (rw [add_block]; exact Kd.own_blk (Kd.R_ne HO_6.out BK449.out (by decide))) | (show (Addr.add _ _).block ≠ _; rw [add_block]; exact Kd.own_blk (Kd.R_ne HO_6.out BK449.out (by decide))) | (dsimp only; exact Kd.own_blk (Kd.R_ne HO_6.out BK449.out (by decide)))) _).trans (hHeld.2.2.2.2.2.2.2.1)))))))))))))), ((cell_far (p := ⟨gb449, _, none⟩) (by first | exact Kd.own_blk (Kd.R_ne HO_6.out BK449.out (by decide)) | (rw [add_block]; exact Kd.own_blk (Kd.R_ne HO_6.out BK449.out (by decide))) | (show (Addr.add _ _).block ≠ _; rw [add_block]; exact Kd.own_blk (Kd.R_ne HO_6.out BK449.out (by decide))) | (dsimp only; exact Kd.own_blk (Kd.R_ne HO_6.out BK449.out (by decide)))) _).trans (((cell_far (p := ⟨gb449, _, none⟩) (by first | exact Kd.own_blk (Kd.R_ne HO_6.out BK449.out (by decide)) | (rw [add_block]; exact Kd.own_blk (Kd.R_ne HO_6.out BK449.out (by decide))) | (show (Addr.add _ _).block ≠ _; rw [add_block]; exact Kd.own_blk (Kd.R_ne HO_6.out BK449.out (by decide))) | (dsimp only; exact Kd.own_blk (Kd.R_ne HO_6.out BK449.out (by decide)))) _).trans (((cell_far (p := ⟨gb449, _, none⟩) (by first | exact Kd.own_blk (Kd.R_ne HO_6.out BK449.out (by decide)) | (rw [add_block]; exact Kd.own_blk (Kd.R_ne HO_6.out BK449.out (by decide))) | (show (Addr.add _ _).block ≠ _; rw [add_block]; exact Kd.own_blk (Kd.R_ne HO_6.out BK449.out (by decide))) | (dsimp only; exact Kd.own_blk (Kd.R_ne HO_6.out BK449.out (by decide)))) _).trans (((cell_far (p := ⟨gb449, _, none⟩) (by first | exact Kd.own_blk (Kd.R_ne HO_6.out BK449.out (by decide)) | (rw [add_block]; exact Kd.own_blk (Kd.R_ne HO_6.out BK449.out (by decide))) | (show (Addr.add _ _).block ≠ _; rw [add_block]; exact Kd.own_blk (Kd.R_ne HO_6.out BK449.out (by decide))) | (dsimp only; exact Kd.own_blk (Kd.R_ne HO_6.out BK449.out (by decide)))) _).trans (((cell_far (p := ⟨gb449, _, none⟩) (by first | exact Kd.own_blk (Kd.R_ne HO_6.out BK449.out (by decide)) | (rw [add_block]; exact Kd.own_blk (Kd.R_ne HO_6.out BK449.out (by decide))) | (show (Addr.add _ _).block ≠ _; rw [add_block]; exact Kd.own_blk (Kd.R_ne HO_6.out BK449.out (by decide))) | (dsimp only; exact Kd.own_blk (Kd.R_ne HO_6.out BK449.out (by decide)))) _).trans (((cell_far (p := ⟨gb449, _, none⟩) (by first | exact Kd.own_blk (Kd.R_ne HO_6.out BK449.out (by decide)) | (rw [add_block]; exact Kd.own_blk (Kd.R_ne HO_6.out BK449.out (by decide))) | (show (Addr.add _ _).block ≠ _; rw [add_block]; exact Kd.own_blk (Kd.R_ne HO_6.out BK449.out (by decide))) | (dsimp only; exact Kd.own_blk (Kd.R_ne HO_6.out BK449.out (by decide)))) _).trans (((cell_far (p := ⟨gb449, _, none⟩) (by first | exact Kd.own_blk (Kd.R_ne HO_6.out BK449.out (by decide)) | (rw [add_block]; exact Kd.own_blk (Kd.R_ne HO_6.out BK449.out (by decide))) | (show (Addr.add _ _).block ≠ _; rw [add_block]; exact Kd.own_blk (Kd.R_ne HO_6.out BK449.out (by decide))) | (dsimp only; exact Kd.own_blk (Kd.R_ne HO_6.out BK449.out (by decide)))) _).trans (hHeld.2.2.2.2.2.2.2.2))))))))))))))⟩ (fun hHeld => ?_)
              clear hK K
              refine pure_ (i := 12) (N := some 10) (v := ?_) (a' := ?_) #[true, true, true, true, true, true, true, true, true, true, true, true, true, false] rfl rfl (any_of HT_.out (by kernel_rfl)) (fun _ _ _ h => h) (Or.inl ⟨by rfl, ?_⟩) ?_ ?_
              rotate_left
              · intro w'
                go_simp
                with_reducible rfl
              rotate_left
              · simp only [Act.put, List.setIfInBounds_toArray, List.set_cons_zero, List.set_cons_succ, i64_w, i32_w]
                rfl
              refine pure_ (i := 13) (N := some 11) (v := ?_) (a' := ?_) #[true, true, true, true, true, true, true, true, true, true, true, true, true, true] rfl rfl (any_of HT_.out (by kernel_rfl)) (fun _ _ _ h => h) (Or.inl ⟨by rfl, ?_⟩) ?_ ?_
              rotate_left
              · intro w'
                go_simp
                with_reducible rfl
              rotate_left
              · simp only [Act.put, List.setIfInBounds_toArray, List.set_cons_zero, List.set_cons_succ, i64_w, i32_w]
                rfl
              refine done_ (done_of HT_.out (by kernel_rfl)) ?_
              have hnb40 := NB449_416.out
              have hnc40 := NB416_449.out
              have hnb41 := NB449_428.out
              have hnc41 := NB428_449.out
              have hcz42_0 : w30.cell? ⟨gb449, 0, none⟩ = some (.int .i64 0) := (blk_cell BK449.out 0).trans rfl
              have hcz42_1 : w30.cell? ⟨gb449, 1, none⟩ = some (.int .i64 0) := (blk_cell BK449.out 1).trans rfl
              have hcz42_2 : w30.cell? ⟨gb449, 2, none⟩ = some (.int .i64 0) := (blk_cell BK449.out 2).trans rfl
              have hcz42_3 : w30.cell? ⟨gb449, 3, none⟩ = some (.int .i64 0) := (blk_cell BK449.out 3).trans rfl
              have hcz42_4 : w30.cell? ⟨gb449, 4, none⟩ = some (.int .i64 0) := (blk_cell BK449.out 4).trans rfl
              have hcz42_5 : w30.cell? ⟨gb449, 5, none⟩ = some (.slice none 0 0) := (blk_cell BK449.out 5).trans rfl
              have hcz42_6 : w30.cell? ⟨gb449, 6, none⟩ = some (.slice none 0 0) := (blk_cell BK449.out 6).trans rfl
              have hfz42_0 := blk_frozen BK449.out 0
              have hfz42_1 := blk_frozen BK449.out 1
              have hfz42_2 := blk_frozen BK449.out 2
              have hfz42_3 := blk_frozen BK449.out 3
              have hfz42_4 := blk_frozen BK449.out 4
              have hfz42_5 := blk_frozen BK449.out 5
              have hfz42_6 := blk_frozen BK449.out 6
              try go_wp2_with (first | (go_at_call 21; (with_reducible refine (datalink_Aligned.calls t436 t437 t438 t439 t440 _ _ t441 _ _ t444 true _ ?side1 ?side2 ?side3 ?side4 A19.out).mono ?_); (case side1 => refine (Kd.R_reads' (e := 46) (base := w.heap.size) (ok := fun k_ => some k_ ≠ (.slice Ao24 x429005_1.length co24 : Value).ownBlock) (n := t441.length) (c := co36) ?_).2.2; exact (by (with_reducible repeat (first | apply Kd.R_alloc | apply Kd.R_drewN | apply Kd.R_drew)); exact (Kd.R_mono (Kd.R_far (p := ⟨gb449, 6, none⟩) (Kd.R_far (p := ⟨gb449, 5, none⟩) (Kd.R_far (p := ⟨gb449, 4, none⟩) (Kd.R_far (p := ⟨gb449, 3, none⟩) (Kd.R_far (p := ⟨gb449, 2, none⟩) (Kd.R_far (p := ⟨gb449, 1, none⟩) (Kd.R_far (p := ⟨gb449, 0, none⟩) (Kd.R_types HO443.out BK449.out (by decide)) (fun _ hk => hk.2) (.int .i64 t436)) (fun _ hk => hk.2) (.int .i64 t437)) (fun _ hk => hk.2) (.int .i64 t438)) (fun _ hk => hk.2) (.int .i64 t439)) (fun _ hk => hk.2) (.int .i64 t440)) (fun _ hk => hk.2) (.slice Ao36 t441.length co36)) (fun _ hk => hk.2) (.slice Ao38 t444.length co38)) (fun _ h_ => h_.1)))); (case side2 => exact (Kd.R_reads' HO443.out).2.1); (case side3 => refine (Kd.R_reads' (e := 3) (base := w.heap.size) (ok := fun k_ => some k_ ≠ (.slice Ao25 x429006_1.length co25 : Value).ownBlock) (n := t444.length) (c := co38) ?_).2.2; exact (by (with_reducible repeat (first | apply Kd.R_alloc | apply Kd.R_drewN | apply Kd.R_drew)); exact (Kd.R_mono (Kd.R_far (p := ⟨gb449, 6, none⟩) (Kd.R_far (p := ⟨gb449, 5, none⟩) (Kd.R_far (p := ⟨gb449, 4, none⟩) (Kd.R_far (p := ⟨gb449, 3, none⟩) (Kd.R_far (p := ⟨gb449, 2, none⟩) (Kd.R_far (p := ⟨gb449, 1, none⟩) (Kd.R_far (p := ⟨gb449, 0, none⟩) (Kd.R_types HO446.out BK449.out (by decide)) (fun _ hk => hk.2) (.int .i64 t436)) (fun _ hk => hk.2) (.int .i64 t437)) (fun _ hk => hk.2) (.int .i64 t438)) (fun _ hk => hk.2) (.int .i64 t439)) (fun _ hk => hk.2) (.int .i64 t440)) (fun _ hk => hk.2) (.slice Ao36 t441.length co36)) (fun _ hk => hk.2) (.slice Ao38 t444.length co38)) (fun _ h_ => h_.1)))); (case side4 => exact (Kd.R_reads' HO446.out).2.1); rintro e w43 ⟨rfl, hb⟩; have n0_ := Aside0.mk (Kd.R_below (by (with_reducible repeat (first | apply Kd.R_alloc | apply Kd.R_drewN | apply Kd.R_drew)); exact (Kd.R_mono (Kd.R_far (p := ⟨gb449, 6, none⟩) (Kd.R_far (p := ⟨gb449, 5, none⟩) (Kd.R_far (p := ⟨gb449, 4, none⟩) (Kd.R_far (p := ⟨gb449, 3, none⟩) (Kd.R_far (p := ⟨gb449, 2, none⟩) (Kd.R_far (p := ⟨gb449, 1, none⟩) (Kd.R_far (p := ⟨gb449, 0, none⟩) (Kd.R_types HO_6.out BK449.out (by decide)) (fun _ hk => hk.2) (.int .i64 t436)) (fun _ hk => hk.2) (.int .i64 t437)) (fun _ hk => hk.2) (.int .i64 t438)) (fun _ hk => hk.2) (.int .i64 t439)) (fun _ hk => hk.2) (.int .i64 t440)) (fun _ hk => hk.2) (.slice Ao36 t441.length co36)) (fun _ hk => hk.2) (.slice Ao38 t444.length co38)) (fun _ h_ => h_.1))) hb); have n1_ := Aside0.mk (Kd.R_below (by (with_reducible repeat (first | apply Kd.R_alloc | apply Kd.R_drewN | apply Kd.R_drew)); exact (Kd.R_mono (Kd.R_far (p := ⟨gb449, 6, none⟩) (Kd.R_far (p := ⟨gb449, 5, none⟩) (Kd.R_far (p := ⟨gb449, 4, none⟩) (Kd.R_far (p := ⟨gb449, 3, none⟩) (Kd.R_far (p := ⟨gb449, 2, none⟩) (Kd.R_far (p := ⟨gb449, 1, none⟩) (Kd.R_far (p := ⟨gb449, 0, none⟩) (Kd.R_types HO_429005.out BK449.out (by decide)) (fun _ hk => hk.2) (.int .i64 t436)) (fun _ hk => hk.2) (.int .i64 t437)) (fun _ hk => hk.2) (.int .i64 t438)) (fun _ hk => hk.2) (.int .i64 t439)) (fun _ hk => hk.2) (.int .i64 t440)) (fun _ hk => hk.2) (.slice Ao36 t441.length co36)) (fun _ hk => hk.2) (.slice Ao38 t444.length co38)) (fun _ h_ => h_.1))) hb); have n2_ := Aside0.mk (Kd.R_below (by (with_reducible repeat (first | apply Kd.R_alloc | apply Kd.R_drewN | apply Kd.R_drew)); exact (Kd.R_mono (Kd.R_far (p := ⟨gb449, 6, none⟩) (Kd.R_far (p := ⟨gb449, 5, none⟩) (Kd.R_far (p := ⟨gb449, 4, none⟩) (Kd.R_far (p := ⟨gb449, 3, none⟩) (Kd.R_far (p := ⟨gb449, 2, none⟩) (Kd.R_far (p := ⟨gb449, 1, none⟩) (Kd.R_far (p := ⟨gb449, 0, none⟩) (Kd.R_types HO_429006.out BK449.out (by decide)) (fun _ hk => hk.2) (.int .i64 t436)) (fun _ hk => hk.2) (.int .i64 t437)) (fun _ hk => hk.2) (.int .i64 t438)) (fun _ hk => hk.2) (.int .i64 t439)) (fun _ hk => hk.2) (.int .i64 t440)) (fun _ hk => hk.2) (.slice Ao36 t441.length co36)) (fun _ hk => hk.2) (.slice Ao38 t444.length co38)) (fun _ h_ => h_.1))) hb); have n3_ := Aside0.mk (Kd.R_below (by (with_reducible repeat (first | apply Kd.R_alloc | apply Kd.R_drewN | apply Kd.R_drew)); exact (Kd.R_mono (Kd.R_far (p := ⟨gb449, 6, none⟩) (Kd.R_far (p := ⟨gb449, 5, none⟩) (Kd.R_far (p := ⟨gb449, 4, none⟩) (Kd.R_far (p := ⟨gb449, 3, none⟩) (Kd.R_far (p := ⟨gb449, 2, none⟩) (Kd.R_far (p := ⟨gb449, 1, none⟩) (Kd.R_far (p := ⟨gb449, 0, none⟩) (Kd.R_types HO443.out BK449.out (by decide)) (fun _ hk => hk.2) (.int .i64 t436)) (fun _ hk => hk.2) (.int .i64 t437)) (fun _ hk => hk.2) (.int .i64 t438)) (fun _ hk => hk.2) (.int .i64 t439)) (fun _ hk => hk.2) (.int .i64 t440)) (fun _ hk => hk.2) (.slice Ao36 t441.length co36)) (fun _ hk => hk.2) (.slice Ao38 t444.length co38)) (fun _ h_ => h_.1))) hb); have n4_ := Aside0.mk (Kd.R_below (by (with_reducible repeat (first | apply Kd.R_alloc | apply Kd.R_drewN | apply Kd.R_drew)); exact (Kd.R_mono (Kd.R_far (p := ⟨gb449, 6, none⟩) (Kd.R_far (p := ⟨gb449, 5, none⟩) (Kd.R_far (p := ⟨gb449, 4, none⟩) (Kd.R_far (p := ⟨gb449, 3, none⟩) (Kd.R_far (p := ⟨gb449, 2, none⟩) (Kd.R_far (p := ⟨gb449, 1, none⟩) (Kd.R_far (p := ⟨gb449, 0, none⟩) (Kd.R_types HO446.out BK449.out (by decide)) (fun _ hk => hk.2) (.int .i64 t436)) (fun _ hk => hk.2) (.int .i64 t437)) (fun _ hk => hk.2) (.int .i64 t438)) (fun _ hk => hk.2) (.int .i64 t439)) (fun _ hk => hk.2) (.int .i64 t440)) (fun _ hk => hk.2) (.slice Ao36 t441.length co36)) (fun _ hk => hk.2) (.slice Ao38 t444.length co38)) (fun _ h_ => h_.1))) hb); have n5_ := Aside0.mk (blk_below (g := gb416) (o := .cells #[.int .i64 a0_0, .int .i64 a0_1, .int .i64 a0_2, .int .i64 a0_3, .int .i64 a0_4, .slice A0_5 l0_5.length c0_5, .slice A0_6 l0_6.length c0_6, .slice A0_7 l0_7.length c0_7] 24 (0, 0)) (by (with_reducible repeat (first | refine blk_drewN ?_ _ | refine blk_drew ?_ | refine blk_alloc ?_ _)); refine blk_far ?_ NB416_449.out _; (with_reducible repeat (first | refine blk_drewN ?_ _ | refine blk_drew ?_ | refine blk_alloc ?_ _)); refine blk_far ?_ NB416_449.out _; (with_reducible repeat (first | refine blk_drewN ?_ _ | refine blk_drew ?_ | refine blk_alloc ?_ _)); refine blk_far ?_ NB416_449.out _; (with_reducible repeat (first | refine blk_drewN ?_ _ | refine blk_drew ?_ | refine blk_alloc ?_ _)); refine blk_far ?_ NB416_449.out _; (with_reducible repeat (first | refine blk_drewN ?_ _ | refine blk_drew ?_ | refine blk_alloc ?_ _)); refine blk_far ?_ NB416_449.out _; (with_reducible repeat (first | refine blk_drewN ?_ _ | refine blk_drew ?_ | refine blk_alloc ?_ _)); refine blk_far ?_ NB416_449.out _; (with_reducible repeat (first | refine blk_drewN ?_ _ | refine blk_drew ?_ | refine blk_alloc ?_ _)); refine blk_far ?_ NB416_449.out _; (with_reducible repeat (first | refine blk_drewN ?_ _ | refine blk_drew ?_ | refine blk_alloc ?_ _)); exact BK416.out) hb); have n6_ := Aside0.mk (blk_below (g := gb428) (o := .cells #[.int .i64 x429000_1, .int .i64 x429001_1, .int .i64 x429002_1, .int .i64 x429003_1, .int .i64 x429004_1, .slice Ao24 x429005_1.length co24, .slice Ao25 x429006_1.length co25] 29 (0, 0)) (by (with_reducible repeat (first | refine blk_drewN ?_ _ | refine blk_drew ?_ | refine blk_alloc ?_ _)); refine blk_far ?_ NB428_449.out _; (with_reducible repeat (first | refine blk_drewN ?_ _ | refine blk_drew ?_ | refine blk_alloc ?_ _)); refine blk_far ?_ NB428_449.out _; (with_reducible repeat (first | refine blk_drewN ?_ _ | refine blk_drew ?_ | refine blk_alloc ?_ _)); refine blk_far ?_ NB428_449.out _; (with_reducible repeat (first | refine blk_drewN ?_ _ | refine blk_drew ?_ | refine blk_alloc ?_ _)); refine blk_far ?_ NB428_449.out _; (with_reducible repeat (first | refine blk_drewN ?_ _ | refine blk_drew ?_ | refine blk_alloc ?_ _)); refine blk_far ?_ NB428_449.out _; (with_reducible repeat (first | refine blk_drewN ?_ _ | refine blk_drew ?_ | refine blk_alloc ?_ _)); refine blk_far ?_ NB428_449.out _; (with_reducible repeat (first | refine blk_drewN ?_ _ | refine blk_drew ?_ | refine blk_alloc ?_ _)); refine blk_far ?_ NB428_449.out _; (with_reducible repeat (first | refine blk_drewN ?_ _ | refine blk_drew ?_ | refine blk_alloc ?_ _)); exact BK428.out) hb); have n7_ := Aside0.mk (blk_below (g := gb449) (o := .cells #[.int .i64 t436, .int .i64 t437, .int .i64 t438, .int .i64 t439, .int .i64 t440, .slice Ao36 t441.length co36, .slice Ao38 t444.length co38] 29 (0, 0)) (by (with_reducible repeat (first | refine blk_drewN ?_ _ | refine blk_drew ?_ | refine blk_alloc ?_ _)); refine blk_put (cs := #[.int .i64 t436, .int .i64 t437, .int .i64 t438, .int .i64 t439, .int .i64 t440, .slice Ao36 t441.length co36, .slice none 0 0]) ?_ 6 _ rfl; (with_reducible repeat (first | refine blk_drewN ?_ _ | refine blk_drew ?_ | refine blk_alloc ?_ _)); refine blk_put (cs := #[.int .i64 t436, .int .i64 t437, .int .i64 t438, .int .i64 t439, .int .i64 t440, .slice none 0 0, .slice none 0 0]) ?_ 5 _ rfl; (with_reducible repeat (first | refine blk_drewN ?_ _ | refine blk_drew ?_ | refine blk_alloc ?_ _)); refine blk_put (cs := #[.int .i64 t436, .int .i64 t437, .int .i64 t438, .int .i64 t439, .int .i64 0, .slice none 0 0, .slice none 0 0]) ?_ 4 _ rfl; (with_reducible repeat (first | refine blk_drewN ?_ _ | refine blk_drew ?_ | refine blk_alloc ?_ _)); refine blk_put (cs := #[.int .i64 t436, .int .i64 t437, .int .i64 t438, .int .i64 0, .int .i64 0, .slice none 0 0, .slice none 0 0]) ?_ 3 _ rfl; (with_reducible repeat (first | refine blk_drewN ?_ _ | refine blk_drew ?_ | refine blk_alloc ?_ _)); refine blk_put (cs := #[.int .i64 t436, .int .i64 t437, .int .i64 0, .int .i64 0, .int .i64 0, .slice none 0 0, .slice none 0 0]) ?_ 2 _ rfl; (with_reducible repeat (first | refine blk_drewN ?_ _ | refine blk_drew ?_ | refine blk_alloc ?_ _)); refine blk_put (cs := #[.int .i64 t436, .int .i64 0, .int .i64 0, .int .i64 0, .int .i64 0, .slice none 0 0, .slice none 0 0]) ?_ 1 _ rfl; (with_reducible repeat (first | refine blk_drewN ?_ _ | refine blk_drew ?_ | refine blk_alloc ?_ _)); refine blk_put (cs := #[.int .i64 0, .int .i64 0, .int .i64 0, .int .i64 0, .int .i64 0, .slice none 0 0, .slice none 0 0]) ?_ 0 _ rfl; (with_reducible repeat (first | refine blk_drewN ?_ _ | refine blk_drew ?_ | refine blk_alloc ?_ _)); exact BK449.out) hb); have n8_ := Aside0.mk (below_step (by repeat (first | (with_reducible first | exact HB.out | apply below_alloc | apply pw_below_drewN | apply below_drew1 | refine below_set ?_ GE416.out | refine below_set ?_ GE428.out | refine below_set ?_ GE449.out) | exact HB.out)) hb); clear HO_6; clear HO_429005; clear HO_429006; clear HO443; clear HO446; clear BK416; clear BK428; clear BK449; clear HB; have HO_6 := n0_; have HO_429005 := n1_; have HO_429006 := n2_; have HO443 := n3_; have HO446 := n4_; have BK416 := n5_; have BK428 := n6_; have BK449 := n7_; have HB := n8_; clear n0_ n1_ n2_ n3_ n4_ n5_ n6_ n7_ n8_; (try clear hb); (try clear hb2); (try clear hk); (try clear hi); have hcz44_0 : w43.cell? ⟨gb449, 0, none⟩ = some (.int .i64 t436) := (blk_cell BK449.out 0).trans rfl; have hcz44_1 : w43.cell? ⟨gb449, 1, none⟩ = some (.int .i64 t437) := (blk_cell BK449.out 1).trans rfl; have hcz44_2 : w43.cell? ⟨gb449, 2, none⟩ = some (.int .i64 t438) := (blk_cell BK449.out 2).trans rfl; have hcz44_3 : w43.cell? ⟨gb449, 3, none⟩ = some (.int .i64 t439) := (blk_cell BK449.out 3).trans rfl; have hcz44_4 : w43.cell? ⟨gb449, 4, none⟩ = some (.int .i64 t440) := (blk_cell BK449.out 4).trans rfl; have hcz44_5 : w43.cell? ⟨gb449, 5, none⟩ = some (.slice Ao36 t441.length co36) := (blk_cell BK449.out 5).trans rfl; have hcz44_6 : w43.cell? ⟨gb449, 6, none⟩ = some (.slice Ao38 t444.length co38) := (blk_cell BK449.out 6).trans rfl; have hfz44_0 := blk_frozen BK449.out 0; have hfz44_1 := blk_frozen BK449.out 1; have hfz44_2 := blk_frozen BK449.out 2; have hfz44_3 := blk_frozen BK449.out 3; have hfz44_4 := blk_frozen BK449.out 4; have hfz44_5 := blk_frozen BK449.out 5; have hfz44_6 := blk_frozen BK449.out 6; have hcz45_0 : w43.cell? ⟨gb428, 0, none⟩ = some (.int .i64 x429000_1) := (blk_cell BK428.out 0).trans rfl; have hcz45_1 : w43.cell? ⟨gb428, 1, none⟩ = some (.int .i64 x429001_1) := (blk_cell BK428.out 1).trans rfl; have hcz45_2 : w43.cell? ⟨gb428, 2, none⟩ = some (.int .i64 x429002_1) := (blk_cell BK428.out 2).trans rfl; have hcz45_3 : w43.cell? ⟨gb428, 3, none⟩ = some (.int .i64 x429003_1) := (blk_cell BK428.out 3).trans rfl; have hcz45_4 : w43.cell? ⟨gb428, 4, none⟩ = some (.int .i64 x429004_1) := (blk_cell BK428.out 4).trans rfl; have hcz45_5 : w43.cell? ⟨gb428, 5, none⟩ = some (.slice Ao24 x429005_1.length co24) := (blk_cell BK428.out 5).trans rfl; have hcz45_6 : w43.cell? ⟨gb428, 6, none⟩ = some (.slice Ao25 x429006_1.length co25) := (blk_cell BK428.out 6).trans rfl; have hfz45_0 := blk_frozen BK428.out 0; have hfz45_1 := blk_frozen BK428.out 1; have hfz45_2 := blk_frozen BK428.out 2; have hfz45_3 := blk_frozen BK428.out 3; have hfz45_4 := blk_frozen BK428.out 4; have hfz45_5 := blk_frozen BK428.out 5; have hfz45_6 := blk_frozen BK428.out 6))
              go_roundg k1
              case measure => have := HK1.out; omega
              case rel => exact ⟨(wrap64 (x7_1 + 1)), (t436), (t437), (t438), (t439), (t440), (t441), (t444), (.slice Ao36 t441.length co36), (.slice Ao38 t444.length co38), (by first | rfl | (simp; done) | (simp [*]; done)), H', ⟨by have := HK1.out; omega⟩, ⟨by (with_reducible repeat (first | apply Kd.R_alloc | apply Kd.R_drewN | apply Kd.R_drew)); exact Kd.R_mono (Kd.R_far (p := ⟨gb428, 6, none⟩) (Kd.R_far (p := ⟨gb428, 5, none⟩) (Kd.R_far (p := ⟨gb428, 4, none⟩) (Kd.R_far (p := ⟨gb428, 3, none⟩) (Kd.R_far (p := ⟨gb428, 2, none⟩) (Kd.R_far (p := ⟨gb428, 1, none⟩) (Kd.R_far (p := ⟨gb428, 0, none⟩) (Kd.R_types HO_6.out BK428.out (by decide)) (fun _ hk => hk.2) (.int .i64 t436)) (fun _ hk => hk.2) (.int .i64 t437)) (fun _ hk => hk.2) (.int .i64 t438)) (fun _ hk => hk.2) (.int .i64 t439)) (fun _ hk => hk.2) (.int .i64 t440)) (fun _ hk => hk.2) (.slice Ao36 t441.length co36)) (fun _ hk => hk.2) (.slice Ao38 t444.length co38)) (fun _ hk => trivial)⟩, ⟨by (with_reducible repeat (first | apply Kd.R_alloc | apply Kd.R_drewN | apply Kd.R_drew)); exact Kd.R_mono (Kd.R_far (p := ⟨gb428, 6, none⟩) (Kd.R_far (p := ⟨gb428, 5, none⟩) (Kd.R_far (p := ⟨gb428, 4, none⟩) (Kd.R_far (p := ⟨gb428, 3, none⟩) (Kd.R_far (p := ⟨gb428, 2, none⟩) (Kd.R_far (p := ⟨gb428, 1, none⟩) (Kd.R_far (p := ⟨gb428, 0, none⟩) (Kd.R_types HO443.out BK428.out (by decide)) (fun _ hk => hk.2) (.int .i64 t436)) (fun _ hk => hk.2) (.int .i64 t437)) (fun _ hk => hk.2) (.int .i64 t438)) (fun _ hk => hk.2) (.int .i64 t439)) (fun _ hk => hk.2) (.int .i64 t440)) (fun _ hk => hk.2) (.slice Ao36 t441.length co36)) (fun _ hk => hk.2) (.slice Ao38 t444.length co38)) (fun _ hk => trivial)⟩, ⟨by (with_reducible repeat (first | apply Kd.R_alloc | apply Kd.R_drewN | apply Kd.R_drew)); exact Kd.R_mono (Kd.R_far (p := ⟨gb428, 6, none⟩) (Kd.R_far (p := ⟨gb428, 5, none⟩) (Kd.R_far (p := ⟨gb428, 4, none⟩) (Kd.R_far (p := ⟨gb428, 3, none⟩) (Kd.R_far (p := ⟨gb428, 2, none⟩) (Kd.R_far (p := ⟨gb428, 1, none⟩) (Kd.R_far (p := ⟨gb428, 0, none⟩) (Kd.R_types HO446.out BK428.out (by decide)) (fun _ hk => hk.2) (.int .i64 t436)) (fun _ hk => hk.2) (.int .i64 t437)) (fun _ hk => hk.2) (.int .i64 t438)) (fun _ hk => hk.2) (.int .i64 t439)) (fun _ hk => hk.2) (.int .i64 t440)) (fun _ hk => hk.2) (.slice Ao36 t441.length co36)) (fun _ hk => hk.2) (.slice Ao38 t444.length co38)) (fun _ hk => trivial)⟩, ⟨by (with_reducible repeat (first | refine blk_drewN ?_ _ | refine blk_drew ?_ | refine blk_alloc ?_ _)); refine blk_far ?_ NB416_428.out _; (with_reducible repeat (first | refine blk_drewN ?_ _ | refine blk_drew ?_ | refine blk_alloc ?_ _)); refine blk_far ?_ NB416_428.out _; (with_reducible repeat (first | refine blk_drewN ?_ _ | refine blk_drew ?_ | refine blk_alloc ?_ _)); refine blk_far ?_ NB416_428.out _; (with_reducible repeat (first | refine blk_drewN ?_ _ | refine blk_drew ?_ | refine blk_alloc ?_ _)); refine blk_far ?_ NB416_428.out _; (with_reducible repeat (first | refine blk_drewN ?_ _ | refine blk_drew ?_ | refine blk_alloc ?_ _)); refine blk_far ?_ NB416_428.out _; (with_reducible repeat (first | refine blk_drewN ?_ _ | refine blk_drew ?_ | refine blk_alloc ?_ _)); refine blk_far ?_ NB416_428.out _; (with_reducible repeat (first | refine blk_drewN ?_ _ | refine blk_drew ?_ | refine blk_alloc ?_ _)); refine blk_far ?_ NB416_428.out _; (with_reducible repeat (first | refine blk_drewN ?_ _ | refine blk_drew ?_ | refine blk_alloc ?_ _)); exact BK416.out⟩, ⟨by (with_reducible repeat (first | refine blk_drewN ?_ _ | refine blk_drew ?_ | refine blk_alloc ?_ _)); refine blk_put (cs := #[.int .i64 t436, .int .i64 t437, .int .i64 t438, .int .i64 t439, .int .i64 t440, .slice Ao36 t441.length co36, .slice Ao25 x429006_1.length co25]) ?_ 6 _ rfl; (with_reducible repeat (first | refine blk_drewN ?_ _ | refine blk_drew ?_ | refine blk_alloc ?_ _)); refine blk_put (cs := #[.int .i64 t436, .int .i64 t437, .int .i64 t438, .int .i64 t439, .int .i64 t440, .slice Ao24 x429005_1.length co24, .slice Ao25 x429006_1.length co25]) ?_ 5 _ rfl; (with_reducible repeat (first | refine blk_drewN ?_ _ | refine blk_drew ?_ | refine blk_alloc ?_ _)); refine blk_put (cs := #[.int .i64 t436, .int .i64 t437, .int .i64 t438, .int .i64 t439, .int .i64 x429004_1, .slice Ao24 x429005_1.length co24, .slice Ao25 x429006_1.length co25]) ?_ 4 _ rfl; (with_reducible repeat (first | refine blk_drewN ?_ _ | refine blk_drew ?_ | refine blk_alloc ?_ _)); refine blk_put (cs := #[.int .i64 t436, .int .i64 t437, .int .i64 t438, .int .i64 x429003_1, .int .i64 x429004_1, .slice Ao24 x429005_1.length co24, .slice Ao25 x429006_1.length co25]) ?_ 3 _ rfl; (with_reducible repeat (first | refine blk_drewN ?_ _ | refine blk_drew ?_ | refine blk_alloc ?_ _)); refine blk_put (cs := #[.int .i64 t436, .int .i64 t437, .int .i64 x429002_1, .int .i64 x429003_1, .int .i64 x429004_1, .slice Ao24 x429005_1.length co24, .slice Ao25 x429006_1.length co25]) ?_ 2 _ rfl; (with_reducible repeat (first | refine blk_drewN ?_ _ | refine blk_drew ?_ | refine blk_alloc ?_ _)); refine blk_put (cs := #[.int .i64 t436, .int .i64 x429001_1, .int .i64 x429002_1, .int .i64 x429003_1, .int .i64 x429004_1, .slice Ao24 x429005_1.length co24, .slice Ao25 x429006_1.length co25]) ?_ 1 _ rfl; (with_reducible repeat (first | refine blk_drewN ?_ _ | refine blk_drew ?_ | refine blk_alloc ?_ _)); refine blk_put (cs := #[.int .i64 x429000_1, .int .i64 x429001_1, .int .i64 x429002_1, .int .i64 x429003_1, .int .i64 x429004_1, .slice Ao24 x429005_1.length co24, .slice Ao25 x429006_1.length co25]) ?_ 0 _ rfl; (with_reducible repeat (first | refine blk_drewN ?_ _ | refine blk_drew ?_ | refine blk_alloc ?_ _)); exact BK428.out⟩, ⟨by repeat (first | (with_reducible first | exact HB.out | apply below_alloc | apply pw_below_drewN | apply below_drew1 | refine below_set ?_ GE416.out | refine below_set ?_ GE428.out | refine below_set ?_ GE449.out) | exact HB.out)⟩⟩
            · replace c20 := Bool.eq_false_iff.mpr c20
              subst c20
              have H1 : (none) = some r := by rw [if_neg (show ¬ (false = true) by decide)] at H; exact H
              clear H
              have H := H1
              clear H1
              exact absurd H (by simp)
          · replace c18 := Bool.eq_false_iff.mpr c18
            subst c18
            have H1 : (selfstablaw42_DatalinkStays.l0 k1 t429 (wrap64 (x7_1 + 1)) t436 t437 t438 t439 t440 t441 t444) = some r := by rw [if_neg (show ¬ (false = true) by decide)] at H; exact H
            clear H
            have H := H1
            clear H1
            have H' := Aside0.mk H
            clear H
            obtain ⟨Ao46, co46, eo46⟩ := Kd.R_slice HO_6.out
            subst eo46
            have hnb47 := NB428_416.out
            have hnc47 := NB416_428.out
            have hcz48_0 : wr.cell? ⟨gb428, 0, none⟩ = some (.int .i64 x429000_1) := (blk_cell BK428.out 0).trans rfl
            have hcz48_1 : wr.cell? ⟨gb428, 1, none⟩ = some (.int .i64 x429001_1) := (blk_cell BK428.out 1).trans rfl
            have hcz48_2 : wr.cell? ⟨gb428, 2, none⟩ = some (.int .i64 x429002_1) := (blk_cell BK428.out 2).trans rfl
            have hcz48_3 : wr.cell? ⟨gb428, 3, none⟩ = some (.int .i64 x429003_1) := (blk_cell BK428.out 3).trans rfl
            have hcz48_4 : wr.cell? ⟨gb428, 4, none⟩ = some (.int .i64 x429004_1) := (blk_cell BK428.out 4).trans rfl
            have hcz48_5 : wr.cell? ⟨gb428, 5, none⟩ = some (u429005) := (blk_cell BK428.out 5).trans rfl
            have hcz48_6 : wr.cell? ⟨gb428, 6, none⟩ = some (u429006) := (blk_cell BK428.out 6).trans rfl
            have hfz48_0 := blk_frozen BK428.out 0
            have hfz48_1 := blk_frozen BK428.out 1
            have hfz48_2 := blk_frozen BK428.out 2
            have hfz48_3 := blk_frozen BK428.out 3
            have hfz48_4 := blk_frozen BK428.out 4
            have hfz48_5 := blk_frozen BK428.out 5
            have hfz48_6 := blk_frozen BK428.out 6
            obtain ⟨Ao49, co49, eo49⟩ := Kd.R_slice HO_429005.out
            subst eo49
            obtain ⟨Ao50, co50, eo50⟩ := Kd.R_slice HO_429006.out
            subst eo50
            try go_wp2_with (first | ((with_reducible refine gate_callee (f := 21) rfl ?_); refine goesL_ (some 23) rfl rfl Try.func21 (by kernel_rfl) rfl #[.agg #[.int .i64 x429000_1, .int .i64 x429001_1, .int .i64 x429002_1, .int .i64 x429003_1, .int .i64 x429004_1, .slice Ao49 x429005_1.length co49, .slice Ao50 x429006_1.length co50]] rfl (by (try simp only [List.map_toArray, List.map_cons, List.map_nil]); first | done | rfl | (simp only [List.length_drop, List.length_take]; rfl)) ?_; (with_reducible refine (datalink_Aligned.calls x429000_1 x429001_1 x429002_1 x429003_1 x429004_1 _ _ x429005_1 _ _ x429006_1 false _ ?side1 ?side2 ?side3 ?side4 A15.out).mono ?_); (case side1 => repeat (first | exact (Kd.R_reads' HO_429005.out).2.2 | (with_reducible refine Kd.C_alloc ?_ _) | (with_reducible refine Kd.C_drewN ?_ _) | (with_reducible refine Kd.C_drew ?_))); (case side2 => exact (Kd.R_reads' HO_429005.out).2.1); (case side3 => repeat (first | exact (Kd.R_reads' HO_429006.out).2.2 | (with_reducible refine Kd.C_alloc ?_ _) | (with_reducible refine Kd.C_drewN ?_ _) | (with_reducible refine Kd.C_drew ?_))); (case side4 => exact (Kd.R_reads' HO_429006.out).2.1); rintro e w51 ⟨rfl, hb⟩; refine ⟨_, rfl, ?_⟩; have n0_ := Aside0.mk (Kd.R_below (by (with_reducible repeat (first | apply Kd.R_alloc | apply Kd.R_drewN | apply Kd.R_drew)); exact HO_6.out) hb); have n1_ := Aside0.mk (Kd.R_below (by (with_reducible repeat (first | apply Kd.R_alloc | apply Kd.R_drewN | apply Kd.R_drew)); exact HO_429005.out) hb); have n2_ := Aside0.mk (Kd.R_below (by (with_reducible repeat (first | apply Kd.R_alloc | apply Kd.R_drewN | apply Kd.R_drew)); exact HO_429006.out) hb); have n3_ := Aside0.mk (blk_below (g := gb416) (o := .cells #[.int .i64 a0_0, .int .i64 a0_1, .int .i64 a0_2, .int .i64 a0_3, .int .i64 a0_4, .slice A0_5 l0_5.length c0_5, .slice A0_6 l0_6.length c0_6, .slice A0_7 l0_7.length c0_7] 24 (0, 0)) (by (with_reducible repeat (first | refine blk_drewN ?_ _ | refine blk_drew ?_ | refine blk_alloc ?_ _)); exact BK416.out) hb); have n4_ := Aside0.mk (blk_below (g := gb428) (o := .cells #[.int .i64 x429000_1, .int .i64 x429001_1, .int .i64 x429002_1, .int .i64 x429003_1, .int .i64 x429004_1, .slice Ao49 x429005_1.length co49, .slice Ao50 x429006_1.length co50] 29 (0, 0)) (by (with_reducible repeat (first | refine blk_drewN ?_ _ | refine blk_drew ?_ | refine blk_alloc ?_ _)); exact BK428.out) hb); have n5_ := Aside0.mk (below_step (by repeat (first | (with_reducible first | exact HB.out | apply below_alloc | apply pw_below_drewN | apply below_drew1 | refine below_set ?_ GE416.out | refine below_set ?_ GE428.out) | exact HB.out)) hb); clear HO_6; clear HO_429005; clear HO_429006; clear BK416; clear BK428; clear HB; have HO_6 := n0_; have HO_429005 := n1_; have HO_429006 := n2_; have BK416 := n3_; have BK428 := n4_; have HB := n5_; clear n0_ n1_ n2_ n3_ n4_ n5_; (try clear hb); (try clear hb2); (try clear hk); (try clear hi)))
            have n0_ := Aside0.mk (Kd.R_drew HO_6.out)
            have n1_ := Aside0.mk (Kd.R_drew HO_429005.out)
            have n2_ := Aside0.mk (Kd.R_drew HO_429006.out)
            have n3_ := Aside0.mk (blk_drew BK416.out)
            have n4_ := Aside0.mk (blk_drew BK428.out)
            have n5_ := Aside0.mk (below_drew1 HB.out)
            clear HO_6
            clear HO_429005
            clear HO_429006
            clear BK416
            clear BK428
            clear HB
            have HO_6 := n0_
            have HO_429005 := n1_
            have HO_429006 := n2_
            have BK416 := n3_
            have BK428 := n4_
            have HB := n5_
            clear n0_ n1_ n2_ n3_ n4_ n5_
            have p435 : 0 ≤ (x7_1 : Int) := of_decide_eq_true (by first | (with_reducible assumption) | assumption)
            have q435 : x7_1 < (t429.length : Int) := of_decide_eq_true (by first | (with_reducible assumption) | assumption)
            (try (obtain ⟨Az435, cz435, ez435⟩ := Kd.R_slice HO_6.out; subst ez435))
            obtain ⟨ad435, e435, hx435_0, hx435_1⟩ := at_T40 (Kd.R_reads' HO_6.out).2.2 x7_1 p435 q435
            cases e435
            replace p435 := eq_true p435
            replace q435 := eq_true q435
            refine start_ (n := 14) (S := fun w' => w'.cell? ⟨gb428, 0, none⟩ = some (.int .i64 x429000_1) ∧ w'.cell? ⟨gb428, 1, none⟩ = some (.int .i64 x429001_1) ∧ w'.cell? ⟨gb428, 2, none⟩ = some (.int .i64 x429002_1) ∧ w'.cell? ⟨gb428, 3, none⟩ = some (.int .i64 x429003_1) ∧ w'.cell? ⟨gb428, 4, none⟩ = some (.int .i64 x429004_1) ∧ w'.cell? ⟨gb428, 5, none⟩ = some (.slice Ao49 x429005_1.length co49) ∧ w'.cell? ⟨gb428, 6, none⟩ = some (.slice Ao50 x429006_1.length co50) ∧ w'.cell? (ad435.add ((x7_1).toNat * 2)) = some (.int .i64 ((rd_T40 t429 x7_1).f0)) ∧ w'.cell? ⟨(ad435.add ((x7_1).toNat * 2)).block, (ad435.add ((x7_1).toNat * 2)).off + 1, none⟩ = some (.int .i64 ((rd_T40 t429 x7_1).f1))) (ds := []) #[false, false, false, false, false, false, false, false, false, false, false, false, false, false] (by kernel_rfl) rfl rfl ⟨(blk_cell BK428.out 0).trans rfl, (blk_cell BK428.out 1).trans rfl, (blk_cell BK428.out 2).trans rfl, (blk_cell BK428.out 3).trans rfl, (blk_cell BK428.out 4).trans rfl, (blk_cell BK428.out 5).trans rfl, (blk_cell BK428.out 6).trans rfl, hx435_0, hx435_1⟩ (fun hHeld => ?_); refine with_tabW selfstablaw42_DatalinkStays.tab7 selfstablaw42_DatalinkStays.bits7 (fun HT_ HW_ => ?_)
            generalize w51.drew = w52 at HO_6 HO_429005 HO_429006 BK416 BK428 HB hx435_0 hx435_1 hHeld ⊢
            refine pure_ (i := 1) (N := some 26) (v := ?_) (a' := ?_) #[false, true, false, false, false, false, false, false, false, false, false, false, false, false] rfl rfl (any_of HT_.out (by kernel_rfl)) (fun _ _ _ h => h) (Or.inl ⟨by rfl, ?_⟩) ?_ ?_
            rotate_left
            · intro w'
              go_simp
              with_reducible rfl
            rotate_left
            · simp only [Act.put, List.setIfInBounds_toArray, List.set_cons_zero, List.set_cons_succ, i64_w, i32_w]
              rfl
            refine pure_ (i := 2) (N := some 27) (v := ?_) (a' := ?_) #[false, true, true, false, false, false, false, false, false, false, false, false, false, false] rfl rfl (any_of HT_.out (by kernel_rfl)) (fun _ _ _ h => h) (Or.inl ⟨by rfl, ?_⟩) ?_ ?_
            rotate_left
            · intro w'
              go_simp
              with_reducible rfl
            rotate_left
            · simp only [Act.put, List.setIfInBounds_toArray, List.set_cons_zero, List.set_cons_succ, i64_w, i32_w]
              rfl
            refine pure_ (i := 3) (N := some 28) (v := ?_) (a' := ?_) #[false, true, true, true, false, false, false, false, false, false, false, false, false, false] rfl rfl (any_of HT_.out (by kernel_rfl)) (fun _ _ _ h => h) (Or.inl ⟨by rfl, ?_⟩) ?_ ?_
            rotate_left
            · intro w'
              go_simp
              with_reducible rfl
            rotate_left
            · simp only [Act.put, List.setIfInBounds_toArray, List.set_cons_zero, List.set_cons_succ, i64_w, i32_w]
              rfl
            refine take_ (i := 0) (N := some 25) (v := ?_) (a' := ?_) #[true, true, true, true, false, false, false, false, false, false, false, false, false, false] rfl rfl (take_ofW HT_.out HW_.out (by kernel_rfl)) (fun _ _ _ h => h) (Or.inl ⟨by rfl, ?_⟩) hHeld ?_ ?_
            rotate_left
            · rintro w' ⟨s0, s1, s2, s3, s4, s5, s6, s7, s8⟩
              go_simp
              with_reducible rfl
            rotate_left
            · simp only [Act.put, List.setIfInBounds_toArray, List.set_cons_zero, List.set_cons_succ, i64_w, i32_w]
              rfl
            refine take_ (i := 4) (N := some 29) (v := ?_) (a' := ?_) #[true, true, true, true, true, false, false, false, false, false, false, false, false, false] rfl rfl (take_ofW HT_.out HW_.out (by kernel_rfl)) (fun _ _ _ h => h) (Or.inl ⟨by rfl, ?_⟩) hHeld ?_ ?_
            rotate_left
            · rintro w' ⟨s0, s1, s2, s3, s4, s5, s6, s7, s8⟩
              go_simp
              with_reducible rfl
            rotate_left
            · simp only [Act.put, List.setIfInBounds_toArray, List.set_cons_zero, List.set_cons_succ, i64_w, i32_w]
              rfl
            refine join_ (σ := Value × Value × Nat) 3 #[true, true, true, true, true, true, true, true, true, true, true, false, false, false] (fun s_ => [(30, .tuple #[.agg #[.int .i64 t436, .int .i64 t437, .int .i64 t438, .int .i64 t439, .int .i64 t440, s_.1, s_.2.1], .int .i64 t447, .bool t448]), (9, .pointer (some ⟨s_.2.2, 0, none⟩)), (24, .tuple #[.agg #[.int .i64 t436, .int .i64 t437, .int .i64 t438, .int .i64 t439, .int .i64 t440, s_.1, s_.2.1], .int .i64 t447, .bool t448]), (31, .agg #[.int .i64 t436, .int .i64 t437, .int .i64 t438, .int .i64 t439, .int .i64 t440, s_.1, s_.2.1]), (32, .int .i64 t447), (33, .bool t448)]) (fun s_ w' => (w'.cell? ⟨gb428, 0, none⟩ = some (.int .i64 x429000_1) ∧ w'.cell? ⟨gb428, 1, none⟩ = some (.int .i64 x429001_1) ∧ w'.cell? ⟨gb428, 2, none⟩ = some (.int .i64 x429002_1) ∧ w'.cell? ⟨gb428, 3, none⟩ = some (.int .i64 x429003_1) ∧ w'.cell? ⟨gb428, 4, none⟩ = some (.int .i64 x429004_1) ∧ w'.cell? ⟨gb428, 5, none⟩ = some (.slice Ao49 x429005_1.length co49) ∧ w'.cell? ⟨gb428, 6, none⟩ = some (.slice Ao50 x429006_1.length co50) ∧ w'.cell? (ad435.add ((x7_1).toNat * 2)) = some (.int .i64 ((rd_T40 t429 x7_1).f0)) ∧ w'.cell? ⟨(ad435.add ((x7_1).toNat * 2)).block, (ad435.add ((x7_1).toNat * 2)).off + 1, none⟩ = some (.int .i64 ((rd_T40 t429 x7_1).f1))) ∧ (Kd.R k46 46 w' w.heap.size (fun k_ => some k_ ≠ (.slice Ao49 x429005_1.length co49 : Value).ownBlock) s_.1 t441) ∧ (Kd.R (Kd.int .i64) 3 w' w.heap.size (fun k_ => some k_ ≠ (.slice Ao50 x429006_1.length co50 : Value).ownBlock) s_.2.1 t444) ∧ (Kd.R k46 46 w' w.heap.size (fun k_ => some k_ ≠ (s_.1 : Value).ownBlock) (.slice Ao49 x429005_1.length co49) x429005_1) ∧ (Kd.R (Kd.int .i64) 3 w' w.heap.size (fun k_ => some k_ ≠ (s_.2.1 : Value).ownBlock) (.slice Ao50 x429006_1.length co50) x429006_1) ∧ (Kd.R k40 40 w' w.heap.size (fun _ => True) (.slice (some ad435) t429.length co46) t429) ∧ (w'.heap[gb416]? = some (.cells #[.int .i64 a0_0, .int .i64 a0_1, .int .i64 a0_2, .int .i64 a0_3, .int .i64 a0_4, .slice A0_5 l0_5.length c0_5, .slice A0_6 l0_6.length c0_6, .slice A0_7 l0_7.length c0_7] 24 (0, 0))) ∧ (w'.heap[gb428]? = some (.cells #[.int .i64 x429000_1, .int .i64 x429001_1, .int .i64 x429002_1, .int .i64 x429003_1, .int .i64 x429004_1, .slice Ao49 x429005_1.length co49, .slice Ao50 x429006_1.length co50] 29 (0, 0))) ∧ (w'.heap[s_.2.2]? = some (.cells #[.int .i64 0, .int .i64 0, .int .i64 0, .int .i64 0, .int .i64 0, .slice none 0 0, .slice none 0 0] 29 (0, 0))) ∧ (w.heap.size ≤ s_.2.2) ∧ (w.heap.size ≤ s_.2.2) ∧ (gb416 ≠ s_.2.2) ∧ (s_.2.2 ≠ gb416) ∧ (gb428 ≠ s_.2.2) ∧ (s_.2.2 ≠ gb428) ∧ (Below w.heap.size w w')) ?_ ?_
            rotate_left
            · intro hCont
              refine two_ (i := 5) (j := 10) (Ni := some 30) (Nj := some 9) #[true, true, true, true, true, true, false, false, false, false, false, false, false, false] #[true, true, true, true, true, false, false, false, false, false, true, false, false, false] rfl rfl rfl rfl (two_of HT_.out (by kernel_rfl)) (by decide) (by decide) (fun K hK => ?_) (fun K hK => ?_)
              · skip
                refine goes_ Try.func18 (by kernel_rfl) rfl #[.agg #[.int .i64 x429000_1, .int .i64 x429001_1, .int .i64 x429002_1, .int .i64 x429003_1, .int .i64 x429004_1, .slice Ao49 x429005_1.length co49, .slice Ao50 x429006_1.length co50], .agg #[.int .i64 ((rd_T40 t429 x7_1).f0), .int .i64 ((rd_T40 t429 x7_1).f1)]] (by rfl) rfl rfl (by (try simp only [List.map_toArray, List.map_cons, List.map_nil]); first | done | rfl | (simp only [List.length_drop, List.length_take]; rfl)) ?_
                with_reducible refine (datalink_Step.calls x429000_1 x429001_1 x429002_1 x429003_1 x429004_1 _ _ x429005_1 _ _ x429006_1 ((rd_T40 t429 x7_1).f0) ((rd_T40 t429 x7_1).f1) t436 t437 t438 t439 t440 t441 t444 t447 t448 _ ?side1 ?side2 ?side3 ?side4 A17.out).mono ?_
                (case side1 => repeat (first | exact (Kd.R_reads' HO_429005.out).2.2 | (with_reducible refine Kd.C_alloc ?_ _) | (with_reducible refine Kd.C_drewN ?_ _) | (with_reducible refine Kd.C_drew ?_)))
                (case side2 => exact (Kd.R_reads' HO_429005.out).2.1)
                (case side3 => repeat (first | exact (Kd.R_reads' HO_429006.out).2.2 | (with_reducible refine Kd.C_alloc ?_ _) | (with_reducible refine Kd.C_drewN ?_ _) | (with_reducible refine Kd.C_drew ?_)))
                (case side4 => exact (Kd.R_reads' HO_429006.out).2.1)
                rintro e w53 ⟨v442, v445, rfl, ho0, ho1, hb⟩
                have HS7_ := (hb.cell (World.block_lt_of_cell? _ _ (hHeld.2.2.2.2.2.2.2.1))).trans (hHeld.2.2.2.2.2.2.2.1)
                have HS8_ := (hb.cell (World.block_lt_of_cell? _ _ (hHeld.2.2.2.2.2.2.2.2))).trans (hHeld.2.2.2.2.2.2.2.2)
                refine ⟨_, rfl, ?_⟩
                have n0_ := Aside0.mk (Kd.R_below (by (with_reducible repeat (first | apply Kd.R_alloc | apply Kd.R_drewN | apply Kd.R_drew)); exact HO_6.out) hb)
                have n1_ := Aside0.mk (Kd.R_elder' (by (with_reducible repeat (first | apply Kd.R_alloc | apply Kd.R_drewN | apply Kd.R_drew)); exact HO_429005.out) (Kd.R_base ho0) hb)
                have n2_ := Aside0.mk (Kd.R_elder' (by (with_reducible repeat (first | apply Kd.R_alloc | apply Kd.R_drewN | apply Kd.R_drew)); exact HO_429006.out) (Kd.R_base ho1) hb)
                have n3_ := Aside0.mk (Kd.R_lower (Kd.R_new' ho0 (Kd.R_lt (by (with_reducible repeat (first | apply Kd.R_alloc | apply Kd.R_drewN | apply Kd.R_drew)); exact HO_429005.out))) (below_size (by repeat (first | (with_reducible first | exact HB.out | apply below_alloc | apply pw_below_drewN | apply below_drew1 | refine below_set ?_ GE416.out | refine below_set ?_ GE428.out) | exact HB.out))))
                have n4_ := Aside0.mk (Kd.R_lower (Kd.R_new' ho1 (Kd.R_lt (by (with_reducible repeat (first | apply Kd.R_alloc | apply Kd.R_drewN | apply Kd.R_drew)); exact HO_429006.out))) (below_size (by repeat (first | (with_reducible first | exact HB.out | apply below_alloc | apply pw_below_drewN | apply below_drew1 | refine below_set ?_ GE416.out | refine below_set ?_ GE428.out) | exact HB.out))))
                have n5_ := Aside0.mk (blk_below (g := gb416) (o := .cells #[.int .i64 a0_0, .int .i64 a0_1, .int .i64 a0_2, .int .i64 a0_3, .int .i64 a0_4, .slice A0_5 l0_5.length c0_5, .slice A0_6 l0_6.length c0_6, .slice A0_7 l0_7.length c0_7] 24 (0, 0)) (by (with_reducible repeat (first | refine blk_drewN ?_ _ | refine blk_drew ?_ | refine blk_alloc ?_ _)); exact BK416.out) hb)
                have n6_ := Aside0.mk (blk_below (g := gb428) (o := .cells #[.int .i64 x429000_1, .int .i64 x429001_1, .int .i64 x429002_1, .int .i64 x429003_1, .int .i64 x429004_1, .slice Ao49 x429005_1.length co49, .slice Ao50 x429006_1.length co50] 29 (0, 0)) (by (with_reducible repeat (first | refine blk_drewN ?_ _ | refine blk_drew ?_ | refine blk_alloc ?_ _)); exact BK428.out) hb)
                have n7_ := Aside0.mk (below_step (by repeat (first | (with_reducible first | exact HB.out | apply below_alloc | apply pw_below_drewN | apply below_drew1 | refine below_set ?_ GE416.out | refine below_set ?_ GE428.out) | exact HB.out)) hb)
                clear HO_6
                clear HO_429005
                clear HO_429006
                clear BK416
                clear BK428
                clear HB
                have HO_6 := n0_
                have HO_429005 := n1_
                have HO_429006 := n2_
                have HO443 := n3_
                have HO446 := n4_
                have BK416 := n5_
                have BK428 := n6_
                have HB := n7_
                clear n0_ n1_ n2_ n3_ n4_ n5_ n6_ n7_
                (try clear hb)
                (try clear hb2)
                (try clear hk)
                (try clear hi)
                (try clear ho0)
                (try clear ho1)
                refine hK.out _ _ ⟨(blk_cell BK428.out 0).trans rfl, (blk_cell BK428.out 1).trans rfl, (blk_cell BK428.out 2).trans rfl, (blk_cell BK428.out 3).trans rfl, (blk_cell BK428.out 4).trans rfl, (blk_cell BK428.out 5).trans rfl, (blk_cell BK428.out 6).trans rfl, HS7_, HS8_⟩ (fun hHeld => ?_)
                clear hK K
                refine norm_ (a' := ?_) ?_ ?_
                rotate_left
                · show Act.put _ (some 30) _ = _
                  simp only [Act.put, List.setIfInBounds_toArray, List.set_cons_zero, List.set_cons_succ, i64_w, i32_w]
                  rfl
                refine pure_ (i := 6) (N := some 24) (v := ?_) (a' := ?_) #[true, true, true, true, true, true, true, false, false, false, false, false, false, false] rfl rfl (any_of HT_.out (by kernel_rfl)) (fun _ _ _ h => h) (Or.inl ⟨by rfl, ?_⟩) ?_ ?_
                rotate_left
                · intro w'
                  go_simp
                  with_reducible rfl
                rotate_left
                · simp only [Act.put, List.setIfInBounds_toArray, List.set_cons_zero, List.set_cons_succ, i64_w, i32_w]
                  rfl
                refine pure_ (i := 7) (N := some 31) (v := ?_) (a' := ?_) #[true, true, true, true, true, true, true, true, false, false, false, false, false, false] rfl rfl (any_of HT_.out (by kernel_rfl)) (fun _ _ _ h => h) (Or.inl ⟨by rfl, ?_⟩) ?_ ?_
                rotate_left
                · intro w'
                  go_simp
                  with_reducible rfl
                rotate_left
                · simp only [Act.put, List.setIfInBounds_toArray, List.set_cons_zero, List.set_cons_succ, i64_w, i32_w]
                  rfl
                refine pure_ (i := 8) (N := some 32) (v := ?_) (a' := ?_) #[true, true, true, true, true, true, true, true, true, false, false, false, false, false] rfl rfl (any_of HT_.out (by kernel_rfl)) (fun _ _ _ h => h) (Or.inl ⟨by rfl, ?_⟩) ?_ ?_
                rotate_left
                · intro w'
                  go_simp
                  with_reducible rfl
                rotate_left
                · simp only [Act.put, List.setIfInBounds_toArray, List.set_cons_zero, List.set_cons_succ, i64_w, i32_w]
                  rfl
                refine pure_ (i := 9) (N := some 33) (v := ?_) (a' := ?_) #[true, true, true, true, true, true, true, true, true, true, false, false, false, false] rfl rfl (any_of HT_.out (by kernel_rfl)) (fun _ _ _ h => h) (Or.inl ⟨by rfl, ?_⟩) ?_ ?_
                rotate_left
                · intro w'
                  go_simp
                  with_reducible rfl
                rotate_left
                · simp only [Act.put, List.setIfInBounds_toArray, List.set_cons_zero, List.set_cons_succ, i64_w, i32_w]
                  rfl
                refine one_ (i := 10) (N := some 9) #[true, true, true, true, true, true, true, true, true, true, true, false, false, false] rfl rfl (one_of HT_.out (by kernel_rfl)) (by decide) (fun K hK => ?_)
                refine box_step ?hg (N := 9) ?hd (cs := #[.int .i64 0, .int .i64 0, .int .i64 0, .int .i64 0, .int .i64 0, .slice none 0 0, .slice none 0 0]) (t := 29) ?hr ?_; (case hd => rfl); (case hg => rfl); (case hr => first | (go_simp; done) | (go_simp; rfl))
                intro gb449 hg w54 hbox hb
                have HS7_ := (hb.cell (World.block_lt_of_cell? _ _ (hHeld.2.2.2.2.2.2.2.1))).trans (hHeld.2.2.2.2.2.2.2.1)
                have HS8_ := (hb.cell (World.block_lt_of_cell? _ _ (hHeld.2.2.2.2.2.2.2.2))).trans (hHeld.2.2.2.2.2.2.2.2)
                have n0_ := Aside0.mk (Kd.R_below (by (with_reducible repeat (first | apply Kd.R_alloc | apply Kd.R_drewN | apply Kd.R_drew)); exact HO_6.out) hb)
                have n1_ := Aside0.mk (Kd.R_below (by (with_reducible repeat (first | apply Kd.R_alloc | apply Kd.R_drewN | apply Kd.R_drew)); exact HO_429005.out) hb)
                have n2_ := Aside0.mk (Kd.R_below (by (with_reducible repeat (first | apply Kd.R_alloc | apply Kd.R_drewN | apply Kd.R_drew)); exact HO_429006.out) hb)
                have n3_ := Aside0.mk (Kd.R_below (by (with_reducible repeat (first | apply Kd.R_alloc | apply Kd.R_drewN | apply Kd.R_drew)); exact HO443.out) hb)
                have n4_ := Aside0.mk (Kd.R_below (by (with_reducible repeat (first | apply Kd.R_alloc | apply Kd.R_drewN | apply Kd.R_drew)); exact HO446.out) hb)
                have n5_ := Aside0.mk (blk_below (g := gb416) (o := .cells #[.int .i64 a0_0, .int .i64 a0_1, .int .i64 a0_2, .int .i64 a0_3, .int .i64 a0_4, .slice A0_5 l0_5.length c0_5, .slice A0_6 l0_6.length c0_6, .slice A0_7 l0_7.length c0_7] 24 (0, 0)) (by (with_reducible repeat (first | refine blk_drewN ?_ _ | refine blk_drew ?_ | refine blk_alloc ?_ _)); exact BK416.out) hb)
                have n6_ := Aside0.mk (blk_below (g := gb428) (o := .cells #[.int .i64 x429000_1, .int .i64 x429001_1, .int .i64 x429002_1, .int .i64 x429003_1, .int .i64 x429004_1, .slice Ao49 x429005_1.length co49, .slice Ao50 x429006_1.length co50] 29 (0, 0)) (by (with_reducible repeat (first | refine blk_drewN ?_ _ | refine blk_drew ?_ | refine blk_alloc ?_ _)); exact BK428.out) hb)
                have n7_ := Aside0.mk (below_step (by repeat (first | (with_reducible first | exact HB.out | apply below_alloc | apply pw_below_drewN | apply below_drew1 | refine below_set ?_ GE416.out | refine below_set ?_ GE428.out) | exact HB.out)) hb)
                have n8_ := Aside0.mk (hbox)
                have n9_ := Aside0.mk ((by rw [hg]; exact (below_size (by repeat (first | (with_reducible first | exact HB.out | apply below_alloc | apply pw_below_drewN | apply below_drew1 | refine below_set ?_ GE416.out | refine below_set ?_ GE428.out) | exact HB.out))) : w.heap.size ≤ gb449))
                have n10_ := Aside0.mk ((by rw [hg]; exact (below_size (by repeat (first | (with_reducible first | exact HB.out | apply below_alloc | apply pw_below_drewN | apply below_drew1 | refine below_set ?_ GE416.out | refine below_set ?_ GE428.out) | exact HB.out))) : w.heap.size ≤ gb449))
                have n11_ := Aside0.mk ((by rw [hg]; exact Nat.ne_of_lt (blk_lt (g := gb416) (o := .cells #[.int .i64 a0_0, .int .i64 a0_1, .int .i64 a0_2, .int .i64 a0_3, .int .i64 a0_4, .slice A0_5 l0_5.length c0_5, .slice A0_6 l0_6.length c0_6, .slice A0_7 l0_7.length c0_7] 24 (0, 0)) (by (with_reducible repeat (first | refine blk_drewN ?_ _ | refine blk_drew ?_ | refine blk_alloc ?_ _)); exact BK416.out)) : gb416 ≠ gb449))
                have n12_ := Aside0.mk ((by rw [hg]; exact Nat.ne_of_gt (blk_lt (g := gb416) (o := .cells #[.int .i64 a0_0, .int .i64 a0_1, .int .i64 a0_2, .int .i64 a0_3, .int .i64 a0_4, .slice A0_5 l0_5.length c0_5, .slice A0_6 l0_6.length c0_6, .slice A0_7 l0_7.length c0_7] 24 (0, 0)) (by (with_reducible repeat (first | refine blk_drewN ?_ _ | refine blk_drew ?_ | refine blk_alloc ?_ _)); exact BK416.out)) : gb449 ≠ gb416))
                have n13_ := Aside0.mk ((by rw [hg]; exact Nat.ne_of_lt (blk_lt (g := gb428) (o := .cells #[.int .i64 x429000_1, .int .i64 x429001_1, .int .i64 x429002_1, .int .i64 x429003_1, .int .i64 x429004_1, .slice Ao49 x429005_1.length co49, .slice Ao50 x429006_1.length co50] 29 (0, 0)) (by (with_reducible repeat (first | refine blk_drewN ?_ _ | refine blk_drew ?_ | refine blk_alloc ?_ _)); exact BK428.out)) : gb428 ≠ gb449))
                have n14_ := Aside0.mk ((by rw [hg]; exact Nat.ne_of_gt (blk_lt (g := gb428) (o := .cells #[.int .i64 x429000_1, .int .i64 x429001_1, .int .i64 x429002_1, .int .i64 x429003_1, .int .i64 x429004_1, .slice Ao49 x429005_1.length co49, .slice Ao50 x429006_1.length co50] 29 (0, 0)) (by (with_reducible repeat (first | refine blk_drewN ?_ _ | refine blk_drew ?_ | refine blk_alloc ?_ _)); exact BK428.out)) : gb449 ≠ gb428))
                clear HO_6
                clear HO_429005
                clear HO_429006
                clear HO443
                clear HO446
                clear BK416
                clear BK428
                clear HB
                have HO_6 := n0_
                have HO_429005 := n1_
                have HO_429006 := n2_
                have HO443 := n3_
                have HO446 := n4_
                have BK416 := n5_
                have BK428 := n6_
                have HB := n7_
                have BK449 := n8_
                have GW449 := n9_
                have GE449 := n10_
                have NB416_449 := n11_
                have NB449_416 := n12_
                have NB428_449 := n13_
                have NB449_428 := n14_
                clear n0_ n1_ n2_ n3_ n4_ n5_ n6_ n7_ n8_ n9_ n10_ n11_ n12_ n13_ n14_
                clear hb hbox hg
                refine hK.out _ _ ⟨(blk_cell BK428.out 0).trans rfl, (blk_cell BK428.out 1).trans rfl, (blk_cell BK428.out 2).trans rfl, (blk_cell BK428.out 3).trans rfl, (blk_cell BK428.out 4).trans rfl, (blk_cell BK428.out 5).trans rfl, (blk_cell BK428.out 6).trans rfl, HS7_, HS8_⟩ (fun hHeld => ?_)
                clear hK K
                refine norm_ (a' := ?_) ?_ ?_
                rotate_left
                · show Act.put _ (some 9) _ = _
                  simp only [Act.put, List.setIfInBounds_toArray, List.set_cons_zero, List.set_cons_succ, i64_w, i32_w]
                  rfl
                exact norm_ (by simp only [putAll, Act.put, List.setIfInBounds_toArray, List.set_cons_zero, List.set_cons_succ]) (hCont (v442, v445, gb449) _ ⟨hHeld, (by (with_reducible repeat (first | apply Kd.R_alloc | apply Kd.R_drewN | apply Kd.R_drew)); exact Kd.R_mono HO443.out (fun _ hk => hk.2)), (by (with_reducible repeat (first | apply Kd.R_alloc | apply Kd.R_drewN | apply Kd.R_drew)); exact Kd.R_mono HO446.out (fun _ hk => hk.2)), (by (with_reducible repeat (first | apply Kd.R_alloc | apply Kd.R_drewN | apply Kd.R_drew)); exact Kd.R_mono HO_429005.out (fun _ hk => hk.2)), (by (with_reducible repeat (first | apply Kd.R_alloc | apply Kd.R_drewN | apply Kd.R_drew)); exact Kd.R_mono HO_429006.out (fun _ hk => hk.2)), (by (with_reducible repeat (first | apply Kd.R_alloc | apply Kd.R_drewN | apply Kd.R_drew)); exact HO_6.out), (by (with_reducible repeat (first | refine blk_drewN ?_ _ | refine blk_drew ?_ | refine blk_alloc ?_ _)); exact BK416.out), (by (with_reducible repeat (first | refine blk_drewN ?_ _ | refine blk_drew ?_ | refine blk_alloc ?_ _)); exact BK428.out), (by (with_reducible repeat (first | refine blk_drewN ?_ _ | refine blk_drew ?_ | refine blk_alloc ?_ _)); exact BK449.out), GW449.out, GE449.out, NB416_449.out, NB449_416.out, NB428_449.out, NB449_428.out, (by repeat (first | (with_reducible first | exact HB.out | apply below_alloc | apply pw_below_drewN | apply below_drew1 | refine below_set ?_ GE416.out | refine below_set ?_ GE428.out | refine below_set ?_ GE449.out) | exact HB.out))⟩)
              · skip
                refine box_step ?hg (N := 9) ?hd (cs := #[.int .i64 0, .int .i64 0, .int .i64 0, .int .i64 0, .int .i64 0, .slice none 0 0, .slice none 0 0]) (t := 29) ?hr ?_; (case hd => rfl); (case hg => rfl); (case hr => first | (go_simp; done) | (go_simp; rfl))
                intro gb449 hg w53 hbox hb
                have HS7_ := (hb.cell (World.block_lt_of_cell? _ _ (hHeld.2.2.2.2.2.2.2.1))).trans (hHeld.2.2.2.2.2.2.2.1)
                have HS8_ := (hb.cell (World.block_lt_of_cell? _ _ (hHeld.2.2.2.2.2.2.2.2))).trans (hHeld.2.2.2.2.2.2.2.2)
                have n0_ := Aside0.mk (Kd.R_below (by (with_reducible repeat (first | apply Kd.R_alloc | apply Kd.R_drewN | apply Kd.R_drew)); exact HO_6.out) hb)
                have n1_ := Aside0.mk (Kd.R_below (by (with_reducible repeat (first | apply Kd.R_alloc | apply Kd.R_drewN | apply Kd.R_drew)); exact HO_429005.out) hb)
                have n2_ := Aside0.mk (Kd.R_below (by (with_reducible repeat (first | apply Kd.R_alloc | apply Kd.R_drewN | apply Kd.R_drew)); exact HO_429006.out) hb)
                have n3_ := Aside0.mk (blk_below (g := gb416) (o := .cells #[.int .i64 a0_0, .int .i64 a0_1, .int .i64 a0_2, .int .i64 a0_3, .int .i64 a0_4, .slice A0_5 l0_5.length c0_5, .slice A0_6 l0_6.length c0_6, .slice A0_7 l0_7.length c0_7] 24 (0, 0)) (by (with_reducible repeat (first | refine blk_drewN ?_ _ | refine blk_drew ?_ | refine blk_alloc ?_ _)); exact BK416.out) hb)
                have n4_ := Aside0.mk (blk_below (g := gb428) (o := .cells #[.int .i64 x429000_1, .int .i64 x429001_1, .int .i64 x429002_1, .int .i64 x429003_1, .int .i64 x429004_1, .slice Ao49 x429005_1.length co49, .slice Ao50 x429006_1.length co50] 29 (0, 0)) (by (with_reducible repeat (first | refine blk_drewN ?_ _ | refine blk_drew ?_ | refine blk_alloc ?_ _)); exact BK428.out) hb)
                have n5_ := Aside0.mk (below_step (by repeat (first | (with_reducible first | exact HB.out | apply below_alloc | apply pw_below_drewN | apply below_drew1 | refine below_set ?_ GE416.out | refine below_set ?_ GE428.out) | exact HB.out)) hb)
                have n6_ := Aside0.mk (hbox)
                have n7_ := Aside0.mk ((by rw [hg]; exact (below_size (by repeat (first | (with_reducible first | exact HB.out | apply below_alloc | apply pw_below_drewN | apply below_drew1 | refine below_set ?_ GE416.out | refine below_set ?_ GE428.out) | exact HB.out))) : w.heap.size ≤ gb449))
                have n8_ := Aside0.mk ((by rw [hg]; exact (below_size (by repeat (first | (with_reducible first | exact HB.out | apply below_alloc | apply pw_below_drewN | apply below_drew1 | refine below_set ?_ GE416.out | refine below_set ?_ GE428.out) | exact HB.out))) : w.heap.size ≤ gb449))
                have n9_ := Aside0.mk ((by rw [hg]; exact Nat.ne_of_lt (blk_lt (g := gb416) (o := .cells #[.int .i64 a0_0, .int .i64 a0_1, .int .i64 a0_2, .int .i64 a0_3, .int .i64 a0_4, .slice A0_5 l0_5.length c0_5, .slice A0_6 l0_6.length c0_6, .slice A0_7 l0_7.length c0_7] 24 (0, 0)) (by (with_reducible repeat (first | refine blk_drewN ?_ _ | refine blk_drew ?_ | refine blk_alloc ?_ _)); exact BK416.out)) : gb416 ≠ gb449))
                have n10_ := Aside0.mk ((by rw [hg]; exact Nat.ne_of_gt (blk_lt (g := gb416) (o := .cells #[.int .i64 a0_0, .int .i64 a0_1, .int .i64 a0_2, .int .i64 a0_3, .int .i64 a0_4, .slice A0_5 l0_5.length c0_5, .slice A0_6 l0_6.length c0_6, .slice A0_7 l0_7.length c0_7] 24 (0, 0)) (by (with_reducible repeat (first | refine blk_drewN ?_ _ | refine blk_drew ?_ | refine blk_alloc ?_ _)); exact BK416.out)) : gb449 ≠ gb416))
                have n11_ := Aside0.mk ((by rw [hg]; exact Nat.ne_of_lt (blk_lt (g := gb428) (o := .cells #[.int .i64 x429000_1, .int .i64 x429001_1, .int .i64 x429002_1, .int .i64 x429003_1, .int .i64 x429004_1, .slice Ao49 x429005_1.length co49, .slice Ao50 x429006_1.length co50] 29 (0, 0)) (by (with_reducible repeat (first | refine blk_drewN ?_ _ | refine blk_drew ?_ | refine blk_alloc ?_ _)); exact BK428.out)) : gb428 ≠ gb449))
                have n12_ := Aside0.mk ((by rw [hg]; exact Nat.ne_of_gt (blk_lt (g := gb428) (o := .cells #[.int .i64 x429000_1, .int .i64 x429001_1, .int .i64 x429002_1, .int .i64 x429003_1, .int .i64 x429004_1, .slice Ao49 x429005_1.length co49, .slice Ao50 x429006_1.length co50] 29 (0, 0)) (by (with_reducible repeat (first | refine blk_drewN ?_ _ | refine blk_drew ?_ | refine blk_alloc ?_ _)); exact BK428.out)) : gb449 ≠ gb428))
                clear HO_6
                clear HO_429005
                clear HO_429006
                clear BK416
                clear BK428
                clear HB
                have HO_6 := n0_
                have HO_429005 := n1_
                have HO_429006 := n2_
                have BK416 := n3_
                have BK428 := n4_
                have HB := n5_
                have BK449 := n6_
                have GW449 := n7_
                have GE449 := n8_
                have NB416_449 := n9_
                have NB449_416 := n10_
                have NB428_449 := n11_
                have NB449_428 := n12_
                clear n0_ n1_ n2_ n3_ n4_ n5_ n6_ n7_ n8_ n9_ n10_ n11_ n12_
                clear hb hbox hg
                refine hK.out _ _ ⟨(blk_cell BK428.out 0).trans rfl, (blk_cell BK428.out 1).trans rfl, (blk_cell BK428.out 2).trans rfl, (blk_cell BK428.out 3).trans rfl, (blk_cell BK428.out 4).trans rfl, (blk_cell BK428.out 5).trans rfl, (blk_cell BK428.out 6).trans rfl, HS7_, HS8_⟩ (fun hHeld => ?_)
                clear hK K
                refine norm_ (a' := ?_) ?_ ?_
                rotate_left
                · show Act.put _ (some 9) _ = _
                  simp only [Act.put, List.setIfInBounds_toArray, List.set_cons_zero, List.set_cons_succ, i64_w, i32_w]
                  rfl
                refine one_ (i := 5) (N := some 30) #[true, true, true, true, true, true, false, false, false, false, true, false, false, false] rfl rfl (one_of HT_.out (by kernel_rfl)) (by decide) (fun K hK => ?_)
                refine goes_ Try.func18 (by kernel_rfl) rfl #[.agg #[.int .i64 x429000_1, .int .i64 x429001_1, .int .i64 x429002_1, .int .i64 x429003_1, .int .i64 x429004_1, .slice Ao49 x429005_1.length co49, .slice Ao50 x429006_1.length co50], .agg #[.int .i64 ((rd_T40 t429 x7_1).f0), .int .i64 ((rd_T40 t429 x7_1).f1)]] (by rfl) rfl rfl (by (try simp only [List.map_toArray, List.map_cons, List.map_nil]); first | done | rfl | (simp only [List.length_drop, List.length_take]; rfl)) ?_
                with_reducible refine (datalink_Step.calls x429000_1 x429001_1 x429002_1 x429003_1 x429004_1 _ _ x429005_1 _ _ x429006_1 ((rd_T40 t429 x7_1).f0) ((rd_T40 t429 x7_1).f1) t436 t437 t438 t439 t440 t441 t444 t447 t448 _ ?side1 ?side2 ?side3 ?side4 A17.out).mono ?_
                (case side1 => repeat (first | exact (Kd.R_reads' HO_429005.out).2.2 | (with_reducible refine Kd.C_alloc ?_ _) | (with_reducible refine Kd.C_drewN ?_ _) | (with_reducible refine Kd.C_drew ?_)))
                (case side2 => exact (Kd.R_reads' HO_429005.out).2.1)
                (case side3 => repeat (first | exact (Kd.R_reads' HO_429006.out).2.2 | (with_reducible refine Kd.C_alloc ?_ _) | (with_reducible refine Kd.C_drewN ?_ _) | (with_reducible refine Kd.C_drew ?_)))
                (case side4 => exact (Kd.R_reads' HO_429006.out).2.1)
                rintro e w54 ⟨v442, v445, rfl, ho0, ho1, hb⟩
                have HS7_ := (hb.cell (World.block_lt_of_cell? _ _ (hHeld.2.2.2.2.2.2.2.1))).trans (hHeld.2.2.2.2.2.2.2.1)
                have HS8_ := (hb.cell (World.block_lt_of_cell? _ _ (hHeld.2.2.2.2.2.2.2.2))).trans (hHeld.2.2.2.2.2.2.2.2)
                refine ⟨_, rfl, ?_⟩
                have n0_ := Aside0.mk (Kd.R_below (by (with_reducible repeat (first | apply Kd.R_alloc | apply Kd.R_drewN | apply Kd.R_drew)); exact HO_6.out) hb)
                have n1_ := Aside0.mk (Kd.R_elder' (by (with_reducible repeat (first | apply Kd.R_alloc | apply Kd.R_drewN | apply Kd.R_drew)); exact HO_429005.out) (Kd.R_base ho0) hb)
                have n2_ := Aside0.mk (Kd.R_elder' (by (with_reducible repeat (first | apply Kd.R_alloc | apply Kd.R_drewN | apply Kd.R_drew)); exact HO_429006.out) (Kd.R_base ho1) hb)
                have n3_ := Aside0.mk (Kd.R_lower (Kd.R_new' ho0 (Kd.R_lt (by (with_reducible repeat (first | apply Kd.R_alloc | apply Kd.R_drewN | apply Kd.R_drew)); exact HO_429005.out))) (below_size (by repeat (first | (with_reducible first | exact HB.out | apply below_alloc | apply pw_below_drewN | apply below_drew1 | refine below_set ?_ GE416.out | refine below_set ?_ GE428.out | refine below_set ?_ GE449.out) | exact HB.out))))
                have n4_ := Aside0.mk (Kd.R_lower (Kd.R_new' ho1 (Kd.R_lt (by (with_reducible repeat (first | apply Kd.R_alloc | apply Kd.R_drewN | apply Kd.R_drew)); exact HO_429006.out))) (below_size (by repeat (first | (with_reducible first | exact HB.out | apply below_alloc | apply pw_below_drewN | apply below_drew1 | refine below_set ?_ GE416.out | refine below_set ?_ GE428.out | refine below_set ?_ GE449.out) | exact HB.out))))
                have n5_ := Aside0.mk (blk_below (g := gb416) (o := .cells #[.int .i64 a0_0, .int .i64 a0_1, .int .i64 a0_2, .int .i64 a0_3, .int .i64 a0_4, .slice A0_5 l0_5.length c0_5, .slice A0_6 l0_6.length c0_6, .slice A0_7 l0_7.length c0_7] 24 (0, 0)) (by (with_reducible repeat (first | refine blk_drewN ?_ _ | refine blk_drew ?_ | refine blk_alloc ?_ _)); exact BK416.out) hb)
                have n6_ := Aside0.mk (blk_below (g := gb428) (o := .cells #[.int .i64 x429000_1, .int .i64 x429001_1, .int .i64 x429002_1, .int .i64 x429003_1, .int .i64 x429004_1, .slice Ao49 x429005_1.length co49, .slice Ao50 x429006_1.length co50] 29 (0, 0)) (by (with_reducible repeat (first | refine blk_drewN ?_ _ | refine blk_drew ?_ | refine blk_alloc ?_ _)); exact BK428.out) hb)
                have n7_ := Aside0.mk (blk_below (g := gb449) (o := .cells #[.int .i64 0, .int .i64 0, .int .i64 0, .int .i64 0, .int .i64 0, .slice none 0 0, .slice none 0 0] 29 (0, 0)) (by (with_reducible repeat (first | refine blk_drewN ?_ _ | refine blk_drew ?_ | refine blk_alloc ?_ _)); exact BK449.out) hb)
                have n8_ := Aside0.mk (below_step (by repeat (first | (with_reducible first | exact HB.out | apply below_alloc | apply pw_below_drewN | apply below_drew1 | refine below_set ?_ GE416.out | refine below_set ?_ GE428.out | refine below_set ?_ GE449.out) | exact HB.out)) hb)
                clear HO_6
                clear HO_429005
                clear HO_429006
                clear BK416
                clear BK428
                clear BK449
                clear HB
                have HO_6 := n0_
                have HO_429005 := n1_
                have HO_429006 := n2_
                have HO443 := n3_
                have HO446 := n4_
                have BK416 := n5_
                have BK428 := n6_
                have BK449 := n7_
                have HB := n8_
                clear n0_ n1_ n2_ n3_ n4_ n5_ n6_ n7_ n8_
                (try clear hb)
                (try clear hb2)
                (try clear hk)
                (try clear hi)
                (try clear ho0)
                (try clear ho1)
                refine hK.out _ _ ⟨(blk_cell BK428.out 0).trans rfl, (blk_cell BK428.out 1).trans rfl, (blk_cell BK428.out 2).trans rfl, (blk_cell BK428.out 3).trans rfl, (blk_cell BK428.out 4).trans rfl, (blk_cell BK428.out 5).trans rfl, (blk_cell BK428.out 6).trans rfl, HS7_, HS8_⟩ (fun hHeld => ?_)
                clear hK K
                refine norm_ (a' := ?_) ?_ ?_
                rotate_left
                · show Act.put _ (some 30) _ = _
                  simp only [Act.put, List.setIfInBounds_toArray, List.set_cons_zero, List.set_cons_succ, i64_w, i32_w]
                  rfl
                refine pure_ (i := 6) (N := some 24) (v := ?_) (a' := ?_) #[true, true, true, true, true, true, true, false, false, false, true, false, false, false] rfl rfl (any_of HT_.out (by kernel_rfl)) (fun _ _ _ h => h) (Or.inl ⟨by rfl, ?_⟩) ?_ ?_
                rotate_left
                · intro w'
                  go_simp
                  with_reducible rfl
                rotate_left
                · simp only [Act.put, List.setIfInBounds_toArray, List.set_cons_zero, List.set_cons_succ, i64_w, i32_w]
                  rfl
                refine pure_ (i := 7) (N := some 31) (v := ?_) (a' := ?_) #[true, true, true, true, true, true, true, true, false, false, true, false, false, false] rfl rfl (any_of HT_.out (by kernel_rfl)) (fun _ _ _ h => h) (Or.inl ⟨by rfl, ?_⟩) ?_ ?_
                rotate_left
                · intro w'
                  go_simp
                  with_reducible rfl
                rotate_left
                · simp only [Act.put, List.setIfInBounds_toArray, List.set_cons_zero, List.set_cons_succ, i64_w, i32_w]
                  rfl
                refine pure_ (i := 8) (N := some 32) (v := ?_) (a' := ?_) #[true, true, true, true, true, true, true, true, true, false, true, false, false, false] rfl rfl (any_of HT_.out (by kernel_rfl)) (fun _ _ _ h => h) (Or.inl ⟨by rfl, ?_⟩) ?_ ?_
                rotate_left
                · intro w'
                  go_simp
                  with_reducible rfl
                rotate_left
                · simp only [Act.put, List.setIfInBounds_toArray, List.set_cons_zero, List.set_cons_succ, i64_w, i32_w]
                  rfl
                refine pure_ (i := 9) (N := some 33) (v := ?_) (a' := ?_) #[true, true, true, true, true, true, true, true, true, true, true, false, false, false] rfl rfl (any_of HT_.out (by kernel_rfl)) (fun _ _ _ h => h) (Or.inl ⟨by rfl, ?_⟩) ?_ ?_
                rotate_left
                · intro w'
                  go_simp
                  with_reducible rfl
                rotate_left
                · simp only [Act.put, List.setIfInBounds_toArray, List.set_cons_zero, List.set_cons_succ, i64_w, i32_w]
                  rfl
                exact norm_ (by simp only [putAll, Act.put, List.setIfInBounds_toArray, List.set_cons_zero, List.set_cons_succ]) (hCont (v442, v445, gb449) _ ⟨hHeld, (by (with_reducible repeat (first | apply Kd.R_alloc | apply Kd.R_drewN | apply Kd.R_drew)); exact Kd.R_mono HO443.out (fun _ hk => hk.2)), (by (with_reducible repeat (first | apply Kd.R_alloc | apply Kd.R_drewN | apply Kd.R_drew)); exact Kd.R_mono HO446.out (fun _ hk => hk.2)), (by (with_reducible repeat (first | apply Kd.R_alloc | apply Kd.R_drewN | apply Kd.R_drew)); exact Kd.R_mono HO_429005.out (fun _ hk => hk.2)), (by (with_reducible repeat (first | apply Kd.R_alloc | apply Kd.R_drewN | apply Kd.R_drew)); exact Kd.R_mono HO_429006.out (fun _ hk => hk.2)), (by (with_reducible repeat (first | apply Kd.R_alloc | apply Kd.R_drewN | apply Kd.R_drew)); exact HO_6.out), (by (with_reducible repeat (first | refine blk_drewN ?_ _ | refine blk_drew ?_ | refine blk_alloc ?_ _)); exact BK416.out), (by (with_reducible repeat (first | refine blk_drewN ?_ _ | refine blk_drew ?_ | refine blk_alloc ?_ _)); exact BK428.out), (by (with_reducible repeat (first | refine blk_drewN ?_ _ | refine blk_drew ?_ | refine blk_alloc ?_ _)); exact BK449.out), GW449.out, GE449.out, NB416_449.out, NB449_416.out, NB428_449.out, NB449_428.out, (by repeat (first | (with_reducible first | exact HB.out | apply below_alloc | apply pw_below_drewN | apply below_drew1 | refine below_set ?_ GE416.out | refine below_set ?_ GE428.out | refine below_set ?_ GE449.out) | exact HB.out))⟩)
            rintro ⟨v442, v445, gb449⟩ w55 ⟨hS_, h0_, h1_, h2_, h3_, h4_, h5_, h6_, h7_, h8_, h9_, h10_, h11_, h12_, h13_, h14_⟩
            have n0_ : Aside0 (Kd.R k46 46 w55 w.heap.size (fun k_ => some k_ ≠ (.slice Ao49 x429005_1.length co49 : Value).ownBlock) v442 t441) := ⟨h0_⟩
            have n1_ : Aside0 (Kd.R (Kd.int .i64) 3 w55 w.heap.size (fun k_ => some k_ ≠ (.slice Ao50 x429006_1.length co50 : Value).ownBlock) v445 t444) := ⟨h1_⟩
            have n2_ : Aside0 (Kd.R k46 46 w55 w.heap.size (fun k_ => some k_ ≠ (v442 : Value).ownBlock) (.slice Ao49 x429005_1.length co49) x429005_1) := ⟨h2_⟩
            have n3_ : Aside0 (Kd.R (Kd.int .i64) 3 w55 w.heap.size (fun k_ => some k_ ≠ (v445 : Value).ownBlock) (.slice Ao50 x429006_1.length co50) x429006_1) := ⟨h3_⟩
            have n4_ : Aside0 (Kd.R k40 40 w55 w.heap.size (fun _ => True) (.slice (some ad435) t429.length co46) t429) := ⟨h4_⟩
            have n5_ : Aside0 (w55.heap[gb416]? = some (.cells #[.int .i64 a0_0, .int .i64 a0_1, .int .i64 a0_2, .int .i64 a0_3, .int .i64 a0_4, .slice A0_5 l0_5.length c0_5, .slice A0_6 l0_6.length c0_6, .slice A0_7 l0_7.length c0_7] 24 (0, 0))) := ⟨h5_⟩
            have n6_ : Aside0 (w55.heap[gb428]? = some (.cells #[.int .i64 x429000_1, .int .i64 x429001_1, .int .i64 x429002_1, .int .i64 x429003_1, .int .i64 x429004_1, .slice Ao49 x429005_1.length co49, .slice Ao50 x429006_1.length co50] 29 (0, 0))) := ⟨h6_⟩
            have n7_ : Aside0 (w55.heap[gb449]? = some (.cells #[.int .i64 0, .int .i64 0, .int .i64 0, .int .i64 0, .int .i64 0, .slice none 0 0, .slice none 0 0] 29 (0, 0))) := ⟨h7_⟩
            have n8_ : Aside0 (w.heap.size ≤ gb449) := ⟨h8_⟩
            have n9_ : Aside0 (w.heap.size ≤ gb449) := ⟨h9_⟩
            have n10_ : Aside0 (gb416 ≠ gb449) := ⟨h10_⟩
            have n11_ : Aside0 (gb449 ≠ gb416) := ⟨h11_⟩
            have n12_ : Aside0 (gb428 ≠ gb449) := ⟨h12_⟩
            have n13_ : Aside0 (gb449 ≠ gb428) := ⟨h13_⟩
            have n14_ : Aside0 (Below w.heap.size w w55) := ⟨h14_⟩
            clear HO_6
            clear HO_429005
            clear HO_429006
            clear BK416
            clear BK428
            clear HB
            clear h0_ h1_ h2_ h3_ h4_ h5_ h6_ h7_ h8_ h9_ h10_ h11_ h12_ h13_ h14_
            have HO443 := n0_
            have HO446 := n1_
            have HO_429005 := n2_
            have HO_429006 := n3_
            have HO_6 := n4_
            have BK416 := n5_
            have BK428 := n6_
            have BK449 := n7_
            have GW449 := n8_
            have GE449 := n9_
            have NB416_449 := n10_
            have NB449_416 := n11_
            have NB428_449 := n12_
            have NB449_428 := n13_
            have HB := n14_
            clear n0_ n1_ n2_ n3_ n4_ n5_ n6_ n7_ n8_ n9_ n10_ n11_ n12_ n13_ n14_
            have hHeld : w55.cell? ⟨gb428, 0, none⟩ = some (.int .i64 x429000_1) ∧ w55.cell? ⟨gb428, 1, none⟩ = some (.int .i64 x429001_1) ∧ w55.cell? ⟨gb428, 2, none⟩ = some (.int .i64 x429002_1) ∧ w55.cell? ⟨gb428, 3, none⟩ = some (.int .i64 x429003_1) ∧ w55.cell? ⟨gb428, 4, none⟩ = some (.int .i64 x429004_1) ∧ w55.cell? ⟨gb428, 5, none⟩ = some (.slice Ao49 x429005_1.length co49) ∧ w55.cell? ⟨gb428, 6, none⟩ = some (.slice Ao50 x429006_1.length co50) ∧ w55.cell? (ad435.add ((x7_1).toNat * 2)) = some (.int .i64 ((rd_T40 t429 x7_1).f0)) ∧ w55.cell? ⟨(ad435.add ((x7_1).toNat * 2)).block, (ad435.add ((x7_1).toNat * 2)).off + 1, none⟩ = some (.int .i64 ((rd_T40 t429 x7_1).f1)) := hS_
            obtain ⟨Ao61, co61, eo61⟩ := Kd.R_slice HO443.out
            (first | subst eo61 | (injection eo61 with f1_ f2_ f3_; have f4_ := f1_.symm; have f5_ := f3_.symm; clear f1_ f2_ f3_; subst f4_; subst f5_))
            obtain ⟨Ao63, co63, eo63⟩ := Kd.R_slice HO446.out
            (first | subst eo63 | (injection eo63 with f1_ f2_ f3_; have f4_ := f1_.symm; have f5_ := f3_.symm; clear f1_ f2_ f3_; subst f4_; subst f5_))
            refine norm_ (a' := ?_) ?_ ?_
            rotate_left
            · simp only [putAll, Act.put, List.setIfInBounds_toArray, List.set_cons_zero, List.set_cons_succ]
              rfl
            refine one_ (i := 11) (N := none) #[true, true, true, true, true, true, true, true, true, true, true, true, false, false] rfl rfl (one_of HT_.out (by kernel_rfl)) (by decide) (fun K hK => ?_)
            have hs56 : w55.cell? ⟨gb449, 0, none⟩ = some (.int .i64 0) := (blk_cell BK449.out 0).trans rfl
            have hfs56 := blk_frozen BK449.out 0
            have hns56_0 := NB416_449.out
            have hns56_1 := NB428_449.out
            have hms56_0 := NB449_416.out
            have hms56_1 := NB449_428.out
            have hs57 : w55.cell? ⟨gb449, 1, none⟩ = some (.int .i64 0) := (blk_cell BK449.out 1).trans rfl
            have hfs57 := blk_frozen BK449.out 1
            have hns57_0 := NB416_449.out
            have hns57_1 := NB428_449.out
            have hms57_0 := NB449_416.out
            have hms57_1 := NB449_428.out
            have hs58 : w55.cell? ⟨gb449, 2, none⟩ = some (.int .i64 0) := (blk_cell BK449.out 2).trans rfl
            have hfs58 := blk_frozen BK449.out 2
            have hns58_0 := NB416_449.out
            have hns58_1 := NB428_449.out
            have hms58_0 := NB449_416.out
            have hms58_1 := NB449_428.out
            have hs59 : w55.cell? ⟨gb449, 3, none⟩ = some (.int .i64 0) := (blk_cell BK449.out 3).trans rfl
            have hfs59 := blk_frozen BK449.out 3
            have hns59_0 := NB416_449.out
            have hns59_1 := NB428_449.out
            have hms59_0 := NB449_416.out
            have hms59_1 := NB449_428.out
            have hs60 : w55.cell? ⟨gb449, 4, none⟩ = some (.int .i64 0) := (blk_cell BK449.out 4).trans rfl
            have hfs60 := blk_frozen BK449.out 4
            have hns60_0 := NB416_449.out
            have hns60_1 := NB428_449.out
            have hms60_0 := NB449_416.out
            have hms60_1 := NB449_428.out
            have hs62 : w55.cell? ⟨gb449, 5, none⟩ = some (.slice none 0 0) := (blk_cell BK449.out 5).trans rfl
            have hfs62 := blk_frozen BK449.out 5
            have hns62_0 := NB416_449.out
            have hns62_1 := NB428_449.out
            have hms62_0 := NB449_416.out
            have hms62_1 := NB449_428.out
            have hs64 : w55.cell? ⟨gb449, 6, none⟩ = some (.slice none 0 0) := (blk_cell BK449.out 6).trans rfl
            have hfs64 := blk_frozen BK449.out 6
            have hns64_0 := NB416_449.out
            have hns64_1 := NB428_449.out
            have hms64_0 := NB449_416.out
            have hms64_1 := NB449_428.out
            refine skip_ (w1 := ?_) (by rfl) rfl ?_ ?_
            rotate_left
            · go_simp
              rfl
            refine hK.out _ _ ⟨((cell_far (p := ⟨gb449, _, none⟩) NB428_449.out _).trans (((cell_far (p := ⟨gb449, _, none⟩) NB428_449.out _).trans (((cell_far (p := ⟨gb449, _, none⟩) NB428_449.out _).trans (((cell_far (p := ⟨gb449, _, none⟩) NB428_449.out _).trans (((cell_far (p := ⟨gb449, _, none⟩) NB428_449.out _).trans (((cell_far (p := ⟨gb449, _, none⟩) NB428_449.out _).trans (((cell_far (p := ⟨gb449, _, none⟩) NB428_449.out _).trans (hHeld.1)))))))))))))), ((cell_far (p := ⟨gb449, _, none⟩) NB428_449.out _).trans (((cell_far (p := ⟨gb449, _, none⟩) NB428_449.out _).trans (((cell_far (p := ⟨gb449, _, none⟩) NB428_449.out _).trans (((cell_far (p := ⟨gb449, _, none⟩) NB428_449.out _).trans (((cell_far (p := ⟨gb449, _, none⟩) NB428_449.out _).trans (((cell_far (p := ⟨gb449, _, none⟩) NB428_449.out _).trans (((cell_far (p := ⟨gb449, _, none⟩) NB428_449.out _).trans (hHeld.2.1)))))))))))))), ((cell_far (p := ⟨gb449, _, none⟩) NB428_449.out _).trans (((cell_far (p := ⟨gb449, _, none⟩) NB428_449.out _).trans (((cell_far (p := ⟨gb449, _, none⟩) NB428_449.out _).trans (((cell_far (p := ⟨gb449, _, none⟩) NB428_449.out _).trans (((cell_far (p := ⟨gb449, _, none⟩) NB428_449.out _).trans (((cell_far (p := ⟨gb449, _, none⟩) NB428_449.out _).trans (((cell_far (p := ⟨gb449, _, none⟩) NB428_449.out _).trans (hHeld.2.2.1)))))))))))))), ((cell_far (p := ⟨gb449, _, none⟩) NB428_449.out _).trans (((cell_far (p := ⟨gb449, _, none⟩) NB428_449.out _).trans (((cell_far (p := ⟨gb449, _, none⟩) NB428_449.out _).trans (((cell_far (p := ⟨gb449, _, none⟩) NB428_449.out _).trans (((cell_far (p := ⟨gb449, _, none⟩) NB428_449.out _).trans (((cell_far (p := ⟨gb449, _, none⟩) NB428_449.out _).trans (((cell_far (p := ⟨gb449, _, none⟩) NB428_449.out _).trans (hHeld.2.2.2.1)))))))))))))), ((cell_far (p := ⟨gb449, _, none⟩) NB428_449.out _).trans (((cell_far (p := ⟨gb449, _, none⟩) NB428_449.out _).trans (((cell_far (p := ⟨gb449, _, none⟩) NB428_449.out _).trans (((cell_far (p := ⟨gb449, _, none⟩) NB428_449.out _).trans (((cell_far (p := ⟨gb449, _, none⟩) NB428_449.out _).trans (((cell_far (p := ⟨gb449, _, none⟩) NB428_449.out _).trans (((cell_far (p := ⟨gb449, _, none⟩) NB428_449.out _).trans (hHeld.2.2.2.2.1)))))))))))))), ((cell_far (p := ⟨gb449, _, none⟩) NB428_449.out _).trans (((cell_far (p := ⟨gb449, _, none⟩) NB428_449.out _).trans (((cell_far (p := ⟨gb449, _, none⟩) NB428_449.out _).trans (((cell_far (p := ⟨gb449, _, none⟩) NB428_449.out _).trans (((cell_far (p := ⟨gb449, _, none⟩) NB428_449.out _).trans (((cell_far (p := ⟨gb449, _, none⟩) NB428_449.out _).trans (((cell_far (p := ⟨gb449, _, none⟩) NB428_449.out _).trans (hHeld.2.2.2.2.2.1)))))))))))))), ((cell_far (p := ⟨gb449, _, none⟩) NB428_449.out _).trans (((cell_far (p := ⟨gb449, _, none⟩) NB428_449.out _).trans (((cell_far (p := ⟨gb449, _, none⟩) NB428_449.out _).trans (((cell_far (p := ⟨gb449, _, none⟩) NB428_449.out _).trans (((cell_far (p := ⟨gb449, _, none⟩) NB428_449.out _).trans (((cell_far (p := ⟨gb449, _, none⟩) NB428_449.out _).trans (((cell_far (p := ⟨gb449, _, none⟩) NB428_449.out _).trans (hHeld.2.2.2.2.2.2.1)))))))))))))), ((cell_far (p := ⟨gb449, _, none⟩) (by first | exact Kd.own_blk (Kd.R_ne HO_6.out BK449.out (by decide)) | (rw [add_block]; exact Kd.own_blk (Kd.R_ne HO_6.out BK449.out (by decide))) | (show (Addr.add _ _).block ≠ _; rw [add_block]; exact Kd.own_blk (Kd.R_ne HO_6.out BK449.out (by decide))) | (dsimp only; exact Kd.own_blk (Kd.R_ne HO_6.out BK449.out (by decide)))) _).trans (((cell_far (p := ⟨gb449, _, none⟩) (by first | exact Kd.own_blk (Kd.R_ne HO_6.out BK449.out (by decide)) | (rw [add_block]; exact Kd.own_blk (Kd.R_ne HO_6.out BK449.out (by decide))) | (show (Addr.add _ _).block ≠ _; rw [add_block]; exact Kd.own_blk (Kd.R_ne HO_6.out BK449.out (by decide))) | (dsimp only; exact Kd.own_blk (Kd.R_ne HO_6.out BK449.out (by decide)))) _).trans (((cell_far (p := ⟨gb449, _, none⟩) (by first | exact Kd.own_blk (Kd.R_ne HO_6.out BK449.out (by decide)) | (rw [add_block]; exact Kd.own_blk (Kd.R_ne HO_6.out BK449.out (by decide))) | (show (Addr.add _ _).block ≠ _; rw [add_block]; exact Kd.own_blk (Kd.R_ne HO_6.out BK449.out (by decide))) | (dsimp only; exact Kd.own_blk (Kd.R_ne HO_6.out BK449.out (by decide)))) _).trans (((cell_far (p := ⟨gb449, _, none⟩) (by first | exact Kd.own_blk (Kd.R_ne HO_6.out BK449.out (by decide)) | (rw [add_block]; exact Kd.own_blk (Kd.R_ne HO_6.out BK449.out (by decide))) | (show (Addr.add _ _).block ≠ _; rw [add_block]; exact Kd.own_blk (Kd.R_ne HO_6.out BK449.out (by decide))) | (dsimp only; exact Kd.own_blk (Kd.R_ne HO_6.out BK449.out (by decide)))) _).trans (((cell_far (p := ⟨gb449, _, none⟩) (by first | exact Kd.own_blk (Kd.R_ne HO_6.out BK449.out (by decide)) | (rw [add_block]; exact Kd.own_blk (Kd.R_ne HO_6.out BK449.out (by decide))) | (show (Addr.add _ _).block ≠ _; rw [add_block]; exact Kd.own_blk (Kd.R_ne HO_6.out BK449.out (by decide))) | (dsimp only; exact Kd.own_blk (Kd.R_ne HO_6.out BK449.out (by decide)))) _).trans (((cell_far (p := ⟨gb449, _, none⟩) (by first | exact Kd.own_blk (Kd.R_ne HO_6.out BK449.out (by decide)) | (rw [add_block]; exact Kd.own_blk (Kd.R_ne HO_6.out BK449.out (by decide))) | (show (Addr.add _ _).block ≠ _; rw [add_block]; exact Kd.own_blk (Kd.R_ne HO_6.out BK449.out (by decide))) | (dsimp only; exact Kd.own_blk (Kd.R_ne HO_6.out BK449.out (by decide)))) _).trans (((cell_far (p := ⟨gb449, _, none⟩) (by first | exact Kd.own_blk (Kd.R_ne HO_6.out BK449.out (by decide)) | (rw [add_block]; exact Kd.own_blk (Kd.R_ne HO_6.out BK449.out (by decide))) | (show (Addr.add _ _).block ≠ _; rw [add_block]; exact Kd.own_blk (Kd.R_ne HO_6.out BK449.out (by decide))) | (dsimp only; exact Kd.own_blk (Kd.R_ne HO_6.out BK449.out (by decide)))) _).trans (hHeld.2.2.2.2.2.2.2.1)))))))))))))), ((cell_far (p := ⟨gb449, _, none⟩) (by first | exact Kd.own_blk (Kd.R_ne HO_6.out BK449.out (by decide)) | (rw [add_block]; exact Kd.own_blk (Kd.R_ne HO_6.out BK449.out (by decide))) | (show (Addr.add _ _).block ≠ _; rw [add_block]; exact Kd.own_blk (Kd.R_ne HO_6.out BK449.out (by decide))) | (dsimp only; exact Kd.own_blk (Kd.R_ne HO_6.out BK449.out (by decide)))) _).trans (((cell_far (p := ⟨gb449, _, none⟩) (by first | exact Kd.own_blk (Kd.R_ne HO_6.out BK449.out (by decide)) | (rw [add_block]; exact Kd.own_blk (Kd.R_ne HO_6.out BK449.out (by decide))) | (show (Addr.add _ _).block ≠ _; rw [add_block]; exact Kd.own_blk (Kd.R_ne HO_6.out BK449.out (by decide))) | (dsimp only; exact Kd.own_blk (Kd.R_ne HO_6.out BK449.out (by decide)))) _).trans (((cell_far (p := ⟨gb449, _, none⟩) (by first | exact Kd.own_blk (Kd.R_ne HO_6.out BK449.out (by decide)) | (rw [add_block]; exact Kd.own_blk (Kd.R_ne HO_6.out BK449.out (by decide))) | (show (Addr.add _ _).block ≠ _; rw [add_block]; exact Kd.own_blk (Kd.R_ne HO_6.out BK449.out (by decide))) | (dsimp only; exact Kd.own_blk (Kd.R_ne HO_6.out BK449.out (by decide)))) _).trans (((cell_far (p := ⟨gb449, _, none⟩) (by first | exact Kd.own_blk (Kd.R_ne HO_6.out BK449.out (by decide)) | (rw [add_block]; exact Kd.own_blk (Kd.R_ne HO_6.out BK449.out (by decide))) | (show (Addr.add _ _).block ≠ _; rw [add_block]; exact Kd.own_blk (Kd.R_ne HO_6.out BK449.out (by decide))) | (dsimp only; exact Kd.own_blk (Kd.R_ne HO_6.out BK449.out (by decide)))) _).trans (((cell_far (p := ⟨gb449, _, none⟩) (by first | exact Kd.own_blk (Kd.R_ne HO_6.out BK449.out (by decide)) | (rw [add_block]; exact Kd.own_blk (Kd.R_ne HO_6.out BK449.out (by decide))) | (show (Addr.add _ _).block ≠ _; rw [add_block]; exact Kd.own_blk (Kd.R_ne HO_6.out BK449.out (by decide))) | (dsimp only; exact Kd.own_blk (Kd.R_ne HO_6.out BK449.out (by decide)))) _).trans (((cell_far (p := ⟨gb449, _, none⟩) (by first | exact Kd.own_blk (Kd.R_ne HO_6.out BK449.out (by decide)) | (rw [add_block]; exact Kd.own_blk (Kd.R_ne HO_6.out BK449.out (by decide))) | (show (Addr.add _ _).block ≠ _; rw [add_block]; exact Kd.own_blk (Kd.R_ne HO_6.out BK449.out (by decide))) | (dsimp only; exact Kd.own_blk (Kd.R_ne HO_6.out BK449.out (by decide)))) _).trans (((cell_far (p := ⟨gb449, _, none⟩) (by first | exact Kd.own_blk (Kd.R_ne HO_6.out BK449.out (by decide)) | (rw [add_block]; exact Kd.own_blk (Kd.R_ne HO_6.out BK449.out (by decide))) | (show (Addr.add _ _).block ≠ _; rw [add_block]; exact Kd.own_blk (Kd.R_ne HO_6.out BK449.out (by decide))) | (dsimp only; exact Kd.own_blk (Kd.R_ne HO_6.out BK449.out (by decide)))) _).trans (hHeld.2.2.2.2.2.2.2.2))))))))))))))⟩ (fun hHeld => ?_)
            clear hK K
            refine pure_ (i := 12) (N := some 10) (v := ?_) (a' := ?_) #[true, true, true, true, true, true, true, true, true, true, true, true, true, false] rfl rfl (any_of HT_.out (by kernel_rfl)) (fun _ _ _ h => h) (Or.inl ⟨by rfl, ?_⟩) ?_ ?_
            rotate_left
            · intro w'
              go_simp
              with_reducible rfl
            rotate_left
            · simp only [Act.put, List.setIfInBounds_toArray, List.set_cons_zero, List.set_cons_succ, i64_w, i32_w]
              rfl
            refine pure_ (i := 13) (N := some 11) (v := ?_) (a' := ?_) #[true, true, true, true, true, true, true, true, true, true, true, true, true, true] rfl rfl (any_of HT_.out (by kernel_rfl)) (fun _ _ _ h => h) (Or.inl ⟨by rfl, ?_⟩) ?_ ?_
            rotate_left
            · intro w'
              go_simp
              with_reducible rfl
            rotate_left
            · simp only [Act.put, List.setIfInBounds_toArray, List.set_cons_zero, List.set_cons_succ, i64_w, i32_w]
              rfl
            refine done_ (done_of HT_.out (by kernel_rfl)) ?_
            have hnb65 := NB449_416.out
            have hnc65 := NB416_449.out
            have hnb66 := NB449_428.out
            have hnc66 := NB428_449.out
            have hcz67_0 : w55.cell? ⟨gb449, 0, none⟩ = some (.int .i64 0) := (blk_cell BK449.out 0).trans rfl
            have hcz67_1 : w55.cell? ⟨gb449, 1, none⟩ = some (.int .i64 0) := (blk_cell BK449.out 1).trans rfl
            have hcz67_2 : w55.cell? ⟨gb449, 2, none⟩ = some (.int .i64 0) := (blk_cell BK449.out 2).trans rfl
            have hcz67_3 : w55.cell? ⟨gb449, 3, none⟩ = some (.int .i64 0) := (blk_cell BK449.out 3).trans rfl
            have hcz67_4 : w55.cell? ⟨gb449, 4, none⟩ = some (.int .i64 0) := (blk_cell BK449.out 4).trans rfl
            have hcz67_5 : w55.cell? ⟨gb449, 5, none⟩ = some (.slice none 0 0) := (blk_cell BK449.out 5).trans rfl
            have hcz67_6 : w55.cell? ⟨gb449, 6, none⟩ = some (.slice none 0 0) := (blk_cell BK449.out 6).trans rfl
            have hfz67_0 := blk_frozen BK449.out 0
            have hfz67_1 := blk_frozen BK449.out 1
            have hfz67_2 := blk_frozen BK449.out 2
            have hfz67_3 := blk_frozen BK449.out 3
            have hfz67_4 := blk_frozen BK449.out 4
            have hfz67_5 := blk_frozen BK449.out 5
            have hfz67_6 := blk_frozen BK449.out 6
            have hcz68_0 : w55.cell? ⟨gb428, 0, none⟩ = some (.int .i64 x429000_1) := (blk_cell BK428.out 0).trans rfl
            have hcz68_1 : w55.cell? ⟨gb428, 1, none⟩ = some (.int .i64 x429001_1) := (blk_cell BK428.out 1).trans rfl
            have hcz68_2 : w55.cell? ⟨gb428, 2, none⟩ = some (.int .i64 x429002_1) := (blk_cell BK428.out 2).trans rfl
            have hcz68_3 : w55.cell? ⟨gb428, 3, none⟩ = some (.int .i64 x429003_1) := (blk_cell BK428.out 3).trans rfl
            have hcz68_4 : w55.cell? ⟨gb428, 4, none⟩ = some (.int .i64 x429004_1) := (blk_cell BK428.out 4).trans rfl
            have hcz68_5 : w55.cell? ⟨gb428, 5, none⟩ = some (.slice Ao49 x429005_1.length co49) := (blk_cell BK428.out 5).trans rfl
            have hcz68_6 : w55.cell? ⟨gb428, 6, none⟩ = some (.slice Ao50 x429006_1.length co50) := (blk_cell BK428.out 6).trans rfl
            have hfz68_0 := blk_frozen BK428.out 0
            have hfz68_1 := blk_frozen BK428.out 1
            have hfz68_2 := blk_frozen BK428.out 2
            have hfz68_3 := blk_frozen BK428.out 3
            have hfz68_4 := blk_frozen BK428.out 4
            have hfz68_5 := blk_frozen BK428.out 5
            have hfz68_6 := blk_frozen BK428.out 6
            try go_wp2
            go_roundg k1
            case measure => have := HK1.out; omega
            case rel => exact ⟨(wrap64 (x7_1 + 1)), (t436), (t437), (t438), (t439), (t440), (t441), (t444), (.slice Ao61 t441.length co61), (.slice Ao63 t444.length co63), (by first | rfl | (simp; done) | (simp [*]; done)), H', ⟨by have := HK1.out; omega⟩, ⟨by (with_reducible repeat (first | apply Kd.R_alloc | apply Kd.R_drewN | apply Kd.R_drew)); exact Kd.R_mono (Kd.R_far (p := ⟨gb428, 6, none⟩) (Kd.R_far (p := ⟨gb428, 5, none⟩) (Kd.R_far (p := ⟨gb428, 4, none⟩) (Kd.R_far (p := ⟨gb428, 3, none⟩) (Kd.R_far (p := ⟨gb428, 2, none⟩) (Kd.R_far (p := ⟨gb428, 1, none⟩) (Kd.R_far (p := ⟨gb428, 0, none⟩) (Kd.R_far (p := ⟨gb449, 6, none⟩) (Kd.R_far (p := ⟨gb449, 5, none⟩) (Kd.R_far (p := ⟨gb449, 4, none⟩) (Kd.R_far (p := ⟨gb449, 3, none⟩) (Kd.R_far (p := ⟨gb449, 2, none⟩) (Kd.R_far (p := ⟨gb449, 1, none⟩) (Kd.R_far (p := ⟨gb449, 0, none⟩) (Kd.R_types (Kd.R_types HO_6.out BK449.out (by decide)) BK428.out (by decide)) (fun _ hk => hk.1.2) (.int .i64 t436)) (fun _ hk => hk.1.2) (.int .i64 t437)) (fun _ hk => hk.1.2) (.int .i64 t438)) (fun _ hk => hk.1.2) (.int .i64 t439)) (fun _ hk => hk.1.2) (.int .i64 t440)) (fun _ hk => hk.1.2) (.slice Ao61 t441.length co61)) (fun _ hk => hk.1.2) (.slice Ao63 t444.length co63)) (fun _ hk => hk.2) (.int .i64 t436)) (fun _ hk => hk.2) (.int .i64 t437)) (fun _ hk => hk.2) (.int .i64 t438)) (fun _ hk => hk.2) (.int .i64 t439)) (fun _ hk => hk.2) (.int .i64 t440)) (fun _ hk => hk.2) (.slice Ao61 t441.length co61)) (fun _ hk => hk.2) (.slice Ao63 t444.length co63)) (fun _ hk => trivial)⟩, ⟨by (with_reducible repeat (first | apply Kd.R_alloc | apply Kd.R_drewN | apply Kd.R_drew)); exact Kd.R_mono (Kd.R_far (p := ⟨gb428, 6, none⟩) (Kd.R_far (p := ⟨gb428, 5, none⟩) (Kd.R_far (p := ⟨gb428, 4, none⟩) (Kd.R_far (p := ⟨gb428, 3, none⟩) (Kd.R_far (p := ⟨gb428, 2, none⟩) (Kd.R_far (p := ⟨gb428, 1, none⟩) (Kd.R_far (p := ⟨gb428, 0, none⟩) (Kd.R_far (p := ⟨gb449, 6, none⟩) (Kd.R_far (p := ⟨gb449, 5, none⟩) (Kd.R_far (p := ⟨gb449, 4, none⟩) (Kd.R_far (p := ⟨gb449, 3, none⟩) (Kd.R_far (p := ⟨gb449, 2, none⟩) (Kd.R_far (p := ⟨gb449, 1, none⟩) (Kd.R_far (p := ⟨gb449, 0, none⟩) (Kd.R_types (Kd.R_types HO443.out BK449.out (by decide)) BK428.out (by decide)) (fun _ hk => hk.1.2) (.int .i64 t436)) (fun _ hk => hk.1.2) (.int .i64 t437)) (fun _ hk => hk.1.2) (.int .i64 t438)) (fun _ hk => hk.1.2) (.int .i64 t439)) (fun _ hk => hk.1.2) (.int .i64 t440)) (fun _ hk => hk.1.2) (.slice Ao61 t441.length co61)) (fun _ hk => hk.1.2) (.slice Ao63 t444.length co63)) (fun _ hk => hk.2) (.int .i64 t436)) (fun _ hk => hk.2) (.int .i64 t437)) (fun _ hk => hk.2) (.int .i64 t438)) (fun _ hk => hk.2) (.int .i64 t439)) (fun _ hk => hk.2) (.int .i64 t440)) (fun _ hk => hk.2) (.slice Ao61 t441.length co61)) (fun _ hk => hk.2) (.slice Ao63 t444.length co63)) (fun _ hk => trivial)⟩, ⟨by (with_reducible repeat (first | apply Kd.R_alloc | apply Kd.R_drewN | apply Kd.R_drew)); exact Kd.R_mono (Kd.R_far (p := ⟨gb428, 6, none⟩) (Kd.R_far (p := ⟨gb428, 5, none⟩) (Kd.R_far (p := ⟨gb428, 4, none⟩) (Kd.R_far (p := ⟨gb428, 3, none⟩) (Kd.R_far (p := ⟨gb428, 2, none⟩) (Kd.R_far (p := ⟨gb428, 1, none⟩) (Kd.R_far (p := ⟨gb428, 0, none⟩) (Kd.R_far (p := ⟨gb449, 6, none⟩) (Kd.R_far (p := ⟨gb449, 5, none⟩) (Kd.R_far (p := ⟨gb449, 4, none⟩) (Kd.R_far (p := ⟨gb449, 3, none⟩) (Kd.R_far (p := ⟨gb449, 2, none⟩) (Kd.R_far (p := ⟨gb449, 1, none⟩) (Kd.R_far (p := ⟨gb449, 0, none⟩) (Kd.R_types (Kd.R_types HO446.out BK449.out (by decide)) BK428.out (by decide)) (fun _ hk => hk.1.2) (.int .i64 t436)) (fun _ hk => hk.1.2) (.int .i64 t437)) (fun _ hk => hk.1.2) (.int .i64 t438)) (fun _ hk => hk.1.2) (.int .i64 t439)) (fun _ hk => hk.1.2) (.int .i64 t440)) (fun _ hk => hk.1.2) (.slice Ao61 t441.length co61)) (fun _ hk => hk.1.2) (.slice Ao63 t444.length co63)) (fun _ hk => hk.2) (.int .i64 t436)) (fun _ hk => hk.2) (.int .i64 t437)) (fun _ hk => hk.2) (.int .i64 t438)) (fun _ hk => hk.2) (.int .i64 t439)) (fun _ hk => hk.2) (.int .i64 t440)) (fun _ hk => hk.2) (.slice Ao61 t441.length co61)) (fun _ hk => hk.2) (.slice Ao63 t444.length co63)) (fun _ hk => trivial)⟩, ⟨by (with_reducible repeat (first | refine blk_drewN ?_ _ | refine blk_drew ?_ | refine blk_alloc ?_ _)); refine blk_far ?_ NB416_428.out _; (with_reducible repeat (first | refine blk_drewN ?_ _ | refine blk_drew ?_ | refine blk_alloc ?_ _)); refine blk_far ?_ NB416_428.out _; (with_reducible repeat (first | refine blk_drewN ?_ _ | refine blk_drew ?_ | refine blk_alloc ?_ _)); refine blk_far ?_ NB416_428.out _; (with_reducible repeat (first | refine blk_drewN ?_ _ | refine blk_drew ?_ | refine blk_alloc ?_ _)); refine blk_far ?_ NB416_428.out _; (with_reducible repeat (first | refine blk_drewN ?_ _ | refine blk_drew ?_ | refine blk_alloc ?_ _)); refine blk_far ?_ NB416_428.out _; (with_reducible repeat (first | refine blk_drewN ?_ _ | refine blk_drew ?_ | refine blk_alloc ?_ _)); refine blk_far ?_ NB416_428.out _; (with_reducible repeat (first | refine blk_drewN ?_ _ | refine blk_drew ?_ | refine blk_alloc ?_ _)); refine blk_far ?_ NB416_428.out _; (with_reducible repeat (first | refine blk_drewN ?_ _ | refine blk_drew ?_ | refine blk_alloc ?_ _)); refine blk_far ?_ NB416_449.out _; (with_reducible repeat (first | refine blk_drewN ?_ _ | refine blk_drew ?_ | refine blk_alloc ?_ _)); refine blk_far ?_ NB416_449.out _; (with_reducible repeat (first | refine blk_drewN ?_ _ | refine blk_drew ?_ | refine blk_alloc ?_ _)); refine blk_far ?_ NB416_449.out _; (with_reducible repeat (first | refine blk_drewN ?_ _ | refine blk_drew ?_ | refine blk_alloc ?_ _)); refine blk_far ?_ NB416_449.out _; (with_reducible repeat (first | refine blk_drewN ?_ _ | refine blk_drew ?_ | refine blk_alloc ?_ _)); refine blk_far ?_ NB416_449.out _; (with_reducible repeat (first | refine blk_drewN ?_ _ | refine blk_drew ?_ | refine blk_alloc ?_ _)); refine blk_far ?_ NB416_449.out _; (with_reducible repeat (first | refine blk_drewN ?_ _ | refine blk_drew ?_ | refine blk_alloc ?_ _)); refine blk_far ?_ NB416_449.out _; (with_reducible repeat (first | refine blk_drewN ?_ _ | refine blk_drew ?_ | refine blk_alloc ?_ _)); exact BK416.out⟩, ⟨by (with_reducible repeat (first | refine blk_drewN ?_ _ | refine blk_drew ?_ | refine blk_alloc ?_ _)); refine blk_put (cs := #[.int .i64 t436, .int .i64 t437, .int .i64 t438, .int .i64 t439, .int .i64 t440, .slice Ao61 t441.length co61, .slice Ao50 x429006_1.length co50]) ?_ 6 _ rfl; (with_reducible repeat (first | refine blk_drewN ?_ _ | refine blk_drew ?_ | refine blk_alloc ?_ _)); refine blk_put (cs := #[.int .i64 t436, .int .i64 t437, .int .i64 t438, .int .i64 t439, .int .i64 t440, .slice Ao49 x429005_1.length co49, .slice Ao50 x429006_1.length co50]) ?_ 5 _ rfl; (with_reducible repeat (first | refine blk_drewN ?_ _ | refine blk_drew ?_ | refine blk_alloc ?_ _)); refine blk_put (cs := #[.int .i64 t436, .int .i64 t437, .int .i64 t438, .int .i64 t439, .int .i64 x429004_1, .slice Ao49 x429005_1.length co49, .slice Ao50 x429006_1.length co50]) ?_ 4 _ rfl; (with_reducible repeat (first | refine blk_drewN ?_ _ | refine blk_drew ?_ | refine blk_alloc ?_ _)); refine blk_put (cs := #[.int .i64 t436, .int .i64 t437, .int .i64 t438, .int .i64 x429003_1, .int .i64 x429004_1, .slice Ao49 x429005_1.length co49, .slice Ao50 x429006_1.length co50]) ?_ 3 _ rfl; (with_reducible repeat (first | refine blk_drewN ?_ _ | refine blk_drew ?_ | refine blk_alloc ?_ _)); refine blk_put (cs := #[.int .i64 t436, .int .i64 t437, .int .i64 x429002_1, .int .i64 x429003_1, .int .i64 x429004_1, .slice Ao49 x429005_1.length co49, .slice Ao50 x429006_1.length co50]) ?_ 2 _ rfl; (with_reducible repeat (first | refine blk_drewN ?_ _ | refine blk_drew ?_ | refine blk_alloc ?_ _)); refine blk_put (cs := #[.int .i64 t436, .int .i64 x429001_1, .int .i64 x429002_1, .int .i64 x429003_1, .int .i64 x429004_1, .slice Ao49 x429005_1.length co49, .slice Ao50 x429006_1.length co50]) ?_ 1 _ rfl; (with_reducible repeat (first | refine blk_drewN ?_ _ | refine blk_drew ?_ | refine blk_alloc ?_ _)); refine blk_put (cs := #[.int .i64 x429000_1, .int .i64 x429001_1, .int .i64 x429002_1, .int .i64 x429003_1, .int .i64 x429004_1, .slice Ao49 x429005_1.length co49, .slice Ao50 x429006_1.length co50]) ?_ 0 _ rfl; (with_reducible repeat (first | refine blk_drewN ?_ _ | refine blk_drew ?_ | refine blk_alloc ?_ _)); refine blk_far ?_ NB428_449.out _; (with_reducible repeat (first | refine blk_drewN ?_ _ | refine blk_drew ?_ | refine blk_alloc ?_ _)); refine blk_far ?_ NB428_449.out _; (with_reducible repeat (first | refine blk_drewN ?_ _ | refine blk_drew ?_ | refine blk_alloc ?_ _)); refine blk_far ?_ NB428_449.out _; (with_reducible repeat (first | refine blk_drewN ?_ _ | refine blk_drew ?_ | refine blk_alloc ?_ _)); refine blk_far ?_ NB428_449.out _; (with_reducible repeat (first | refine blk_drewN ?_ _ | refine blk_drew ?_ | refine blk_alloc ?_ _)); refine blk_far ?_ NB428_449.out _; (with_reducible repeat (first | refine blk_drewN ?_ _ | refine blk_drew ?_ | refine blk_alloc ?_ _)); refine blk_far ?_ NB428_449.out _; (with_reducible repeat (first | refine blk_drewN ?_ _ | refine blk_drew ?_ | refine blk_alloc ?_ _)); refine blk_far ?_ NB428_449.out _; (with_reducible repeat (first | refine blk_drewN ?_ _ | refine blk_drew ?_ | refine blk_alloc ?_ _)); exact BK428.out⟩, ⟨by repeat (first | (with_reducible first | exact HB.out | apply below_alloc | apply pw_below_drewN | apply below_drew1 | refine below_set ?_ GE416.out | refine below_set ?_ GE428.out | refine below_set ?_ GE449.out) | exact HB.out)⟩⟩
        · rw [if_neg c16] at H
          exact absurd H (by simp)
      · rw [if_neg c14] at H
        have c14b0 : decide (x7_1 < (t429.length : Int)) = false := decide_eq_false c14
        clear c14
        replace H := Option.bind_eq_some_iff.mp H
        obtain ⟨t432, A690, H⟩ := H
        replace H : (if t432 = true then ((datalink_Valid.f x429000_1 x429001_1 x429002_1 x429003_1 x429004_1 x429005_1 x429006_1).bind fun t433 => (some t433)) else (none)) = some r := H
        have A69 := Aside0.mk A690
        clear A690
        by_cases c70 : t432 = true
        · subst c70
          have H1 : ((datalink_Valid.f x429000_1 x429001_1 x429002_1 x429003_1 x429004_1 x429005_1 x429006_1).bind fun t433 => (some t433)) = some r := by rw [if_pos rfl] at H; exact H
          clear H
          have H := H1
          clear H1
          replace H := Option.bind_eq_some_iff.mp H
          obtain ⟨t433, A710, H⟩ := H
          replace H : (some t433) = some r := H
          have A71 := Aside0.mk A710
          clear A710
          obtain rfl := Option.some.inj H
          obtain ⟨Ao72, co72, eo72⟩ := Kd.R_slice HO_6.out
          subst eo72
          go_wp2_with (first | ((with_reducible refine gate_callee (f := 9) rfl ?_); refine goesL_ (some 41) rfl rfl Try.func9 (by kernel_rfl) rfl #[] rfl (by (try simp only [List.map_toArray, List.map_cons, List.map_nil]); first | done | rfl | (simp only [List.length_drop, List.length_take]; rfl)) ?_; (with_reducible refine (selfstablaw42_known.calls k1  true _ A69.out).mono ?_); rintro e w73 ⟨rfl, hb⟩; refine ⟨_, rfl, ?_⟩; have n0_ := Aside0.mk (Kd.R_below (by (with_reducible repeat (first | apply Kd.R_alloc | apply Kd.R_drewN | apply Kd.R_drew)); exact HO_6.out) hb); have n1_ := Aside0.mk (Kd.R_below (by (with_reducible repeat (first | apply Kd.R_alloc | apply Kd.R_drewN | apply Kd.R_drew)); exact HO_429005.out) hb); have n2_ := Aside0.mk (Kd.R_below (by (with_reducible repeat (first | apply Kd.R_alloc | apply Kd.R_drewN | apply Kd.R_drew)); exact HO_429006.out) hb); have n3_ := Aside0.mk (blk_below (g := gb416) (o := .cells #[.int .i64 a0_0, .int .i64 a0_1, .int .i64 a0_2, .int .i64 a0_3, .int .i64 a0_4, .slice A0_5 l0_5.length c0_5, .slice A0_6 l0_6.length c0_6, .slice A0_7 l0_7.length c0_7] 24 (0, 0)) (by (with_reducible repeat (first | refine blk_drewN ?_ _ | refine blk_drew ?_ | refine blk_alloc ?_ _)); exact BK416.out) hb); have n4_ := Aside0.mk (blk_below (g := gb428) (o := .cells #[.int .i64 x429000_1, .int .i64 x429001_1, .int .i64 x429002_1, .int .i64 x429003_1, .int .i64 x429004_1, u429005, u429006] 29 (0, 0)) (by (with_reducible repeat (first | refine blk_drewN ?_ _ | refine blk_drew ?_ | refine blk_alloc ?_ _)); exact BK428.out) hb); have n5_ := Aside0.mk (below_step (by repeat (first | (with_reducible first | exact HB.out | apply below_alloc | apply pw_below_drewN | apply below_drew1 | refine below_set ?_ GE416.out | refine below_set ?_ GE428.out) | exact HB.out)) hb); clear HO_6; clear HO_429005; clear HO_429006; clear BK416; clear BK428; clear HB; have HO_6 := n0_; have HO_429005 := n1_; have HO_429006 := n2_; have BK416 := n3_; have BK428 := n4_; have HB := n5_; clear n0_ n1_ n2_ n3_ n4_ n5_; (try clear hb); (try clear hb2); (try clear hk); (try clear hi); have hnb74 := NB428_416.out; have hnc74 := NB416_428.out; have hcz75_0 : w73.cell? ⟨gb428, 0, none⟩ = some (.int .i64 x429000_1) := (blk_cell BK428.out 0).trans rfl; have hcz75_1 : w73.cell? ⟨gb428, 1, none⟩ = some (.int .i64 x429001_1) := (blk_cell BK428.out 1).trans rfl; have hcz75_2 : w73.cell? ⟨gb428, 2, none⟩ = some (.int .i64 x429002_1) := (blk_cell BK428.out 2).trans rfl; have hcz75_3 : w73.cell? ⟨gb428, 3, none⟩ = some (.int .i64 x429003_1) := (blk_cell BK428.out 3).trans rfl; have hcz75_4 : w73.cell? ⟨gb428, 4, none⟩ = some (.int .i64 x429004_1) := (blk_cell BK428.out 4).trans rfl; have hcz75_5 : w73.cell? ⟨gb428, 5, none⟩ = some (u429005) := (blk_cell BK428.out 5).trans rfl; have hcz75_6 : w73.cell? ⟨gb428, 6, none⟩ = some (u429006) := (blk_cell BK428.out 6).trans rfl; have hfz75_0 := blk_frozen BK428.out 0; have hfz75_1 := blk_frozen BK428.out 1; have hfz75_2 := blk_frozen BK428.out 2; have hfz75_3 := blk_frozen BK428.out 3; have hfz75_4 := blk_frozen BK428.out 4; have hfz75_5 := blk_frozen BK428.out 5; have hfz75_6 := blk_frozen BK428.out 6; obtain ⟨Ao76, co76, eo76⟩ := Kd.R_slice HO_429005.out; subst eo76; obtain ⟨Ao77, co77, eo77⟩ := Kd.R_slice HO_429006.out; subst eo77) | (go_at_call 14; (with_reducible refine (datalink_Valid.calls x429000_1 x429001_1 x429002_1 x429003_1 x429004_1 _ _ x429005_1 _ _ x429006_1 t433 _ ?side1 ?side2 ?side3 ?side4 A71.out).mono ?_); (case side1 => repeat (first | exact (Kd.R_reads' HO_429005.out).2.2 | (with_reducible refine Kd.C_alloc ?_ _) | (with_reducible refine Kd.C_drewN ?_ _) | (with_reducible refine Kd.C_drew ?_))); (case side2 => exact (Kd.R_reads' HO_429005.out).2.1); (case side3 => repeat (first | exact (Kd.R_reads' HO_429006.out).2.2 | (with_reducible refine Kd.C_alloc ?_ _) | (with_reducible refine Kd.C_drewN ?_ _) | (with_reducible refine Kd.C_drew ?_))); (case side4 => exact (Kd.R_reads' HO_429006.out).2.1); rintro e w78 ⟨rfl, hb⟩; have n0_ := Aside0.mk (Kd.R_below (by (with_reducible repeat (first | apply Kd.R_alloc | apply Kd.R_drewN | apply Kd.R_drew)); exact HO_6.out) hb); have n1_ := Aside0.mk (Kd.R_below (by (with_reducible repeat (first | apply Kd.R_alloc | apply Kd.R_drewN | apply Kd.R_drew)); exact HO_429005.out) hb); have n2_ := Aside0.mk (Kd.R_below (by (with_reducible repeat (first | apply Kd.R_alloc | apply Kd.R_drewN | apply Kd.R_drew)); exact HO_429006.out) hb); have n3_ := Aside0.mk (blk_below (g := gb416) (o := .cells #[.int .i64 a0_0, .int .i64 a0_1, .int .i64 a0_2, .int .i64 a0_3, .int .i64 a0_4, .slice A0_5 l0_5.length c0_5, .slice A0_6 l0_6.length c0_6, .slice A0_7 l0_7.length c0_7] 24 (0, 0)) (by (with_reducible repeat (first | refine blk_drewN ?_ _ | refine blk_drew ?_ | refine blk_alloc ?_ _)); exact BK416.out) hb); have n4_ := Aside0.mk (blk_below (g := gb428) (o := .cells #[.int .i64 x429000_1, .int .i64 x429001_1, .int .i64 x429002_1, .int .i64 x429003_1, .int .i64 x429004_1, .slice Ao76 x429005_1.length co76, .slice Ao77 x429006_1.length co77] 29 (0, 0)) (by (with_reducible repeat (first | refine blk_drewN ?_ _ | refine blk_drew ?_ | refine blk_alloc ?_ _)); exact BK428.out) hb); have n5_ := Aside0.mk (below_step (by repeat (first | (with_reducible first | exact HB.out | apply below_alloc | apply pw_below_drewN | apply below_drew1 | refine below_set ?_ GE416.out | refine below_set ?_ GE428.out) | exact HB.out)) hb); clear HO_6; clear HO_429005; clear HO_429006; clear BK416; clear BK428; clear HB; have HO_6 := n0_; have HO_429005 := n1_; have HO_429006 := n2_; have BK416 := n3_; have BK428 := n4_; have HB := n5_; clear n0_ n1_ n2_ n3_ n4_ n5_; (try clear hb); (try clear hb2); (try clear hk); (try clear hi)))
          go_ret
          exact ⟨by first | rfl | (simp [errW_none, errW_some] <;> rfl) | (simp [*, errW_none, errW_some] <;> rfl), by repeat (first | (with_reducible first | exact HB.out | apply below_alloc | apply pw_below_drewN | apply below_drew1 | refine below_set ?_ GE416.out | refine below_set ?_ GE428.out) | exact HB.out)⟩
        · replace c70 := Bool.eq_false_iff.mpr c70
          subst c70
          have H1 : (none) = some r := by rw [if_neg (show ¬ (false = true) by decide)] at H; exact H
          clear H
          have H := H1
          clear H1
          exact absurd H (by simp)

end Go.Proofs.Ytdhkplfkbdldfaa.P
