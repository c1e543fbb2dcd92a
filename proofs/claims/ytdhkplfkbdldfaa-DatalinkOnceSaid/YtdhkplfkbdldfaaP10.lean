-- By a program of this session (wip/tools/myprint.py over the kit's printer). Not trusted: Lean checks it.
import Derived.Test.YtdhkplfkbdldfaaP0
import Derived.Test.YtdhkplfkbdldfaaP2
import Derived.Test.YtdhkplfkbdldfaaP4
import Derived.Test.YtdhkplfkbdldfaaP5
import Derived.Test.YtdhkplfkbdldfaaGDRun
namespace Go.Proofs.Ytdhkplfkbdldfaa.P
open Go.RowKit Go.Proofs.YtdhkplfkbdldfaaW.PrintWords Go.Proofs.YtdhkplfkbdldfaaW.PrintLast Go.Proofs.YtdhkplfkbdldfaaW.PrintMore
attribute [local go_sem] max2_int min2_int max_two min_two max_three min_three max_four min_four   -- for this text's walks alone
set_option linter.unusedVariables false
set_option linter.unusedSimpArgs false

/-! ### selfstablaw42_DatalinkOnce: function 4 -/
def selfstablaw42_DatalinkOnce.l0 : Nat → List Int → Int → Int → Int → Int → Int → Int → Int → Int → List (S46) → List Int → Option (Bool)
  | 0, _, _, _, _, _, _, _, _, _, _, _ => none
  | k + 1, x7, x8, x9, x10, x324000, x324001, x324002, x324003, x324004, x324005, x324006 => if x10 < (x7.length : Int) then (if 0 ≤ x10 then (if (rd x7 x10) ≥ x8 then (if (rd x7 x10) = x9 then (selfstablaw42_DatalinkOnce.l0 k x7 x8 (wrap64 (x9 + 1)) (wrap64 (x10 + 1)) x324000 x324001 x324002 x324003 x324004 x324005 x324006) else (none)) else (selfstablaw42_DatalinkOnce.l0 k x7 x8 x9 (wrap64 (x10 + 1)) x324000 x324001 x324002 x324003 x324004 x324005 x324006)) else (none)) else (if x324003 ≤ x8 then ((selfstablaw42_known.f k).bind fun t326 => (if t326 = true then (some (decide (x9 ≤ (wrap64 (x8 + 1))))) else (none))) else ((selfstablaw42_known.f k).bind fun t327 => (if t327 = true then (if x9 = x324003 then (some true) else (some (x9 == (wrap64 (x324003 + 1))))) else (none))))
def selfstablaw42_DatalinkOnce.f (k : Nat) (a0_0 : Int) (a0_1 : Int) (a0_2 : Int) (a0_3 : Int) (a0_4 : Int) (l0_5 : List Int) (l0_6 : List Int) (l0_7 : List Int) (l1 : List (S40)) : Option (Bool) := (selfstablaw42_Raw_Link.f k a0_0 a0_1 a0_2 a0_3 a0_4 l0_5 l0_6 l0_7).bind fun bt294 => ((selfstablaw42_events.f k l1 250).bind fun t306 => ((datalink_Run.f bt294.1 bt294.2.1 bt294.2.2.1 bt294.2.2.2.1 bt294.2.2.2.2.1 bt294.2.2.2.2.2.1 bt294.2.2.2.2.2.2 t306).bind fun bt309 => (selfstablaw42_DatalinkOnce.l0 k bt309.2.2.2.2.2.2.2 (wrap64 ((wrap64 (bt294.2.2.2.1 + bt294.2.1)) - 1)) (wrap64 ((wrap64 (bt294.2.2.2.1 + bt294.2.1)) - 1)) 0 bt309.1 bt309.2.1 bt309.2.2.1 bt309.2.2.2.1 bt309.2.2.2.2.1 bt309.2.2.2.2.2.1 bt309.2.2.2.2.2.2.1)))
theorem selfstablaw42_DatalinkOnce.mono_l : ∀ k, (∀ y0 y1 y2 y3 y4 y5 y6 y7 y8 y9 y10, LeO (selfstablaw42_DatalinkOnce.l0 k y0 y1 y2 y3 y4 y5 y6 y7 y8 y9 y10) (selfstablaw42_DatalinkOnce.l0 (k + 1) y0 y1 y2 y3 y4 y5 y6 y7 y8 y9 y10))
  | 0 => fun _ _ _ _ _ _ _ _ _ _ _ r h => by simp [selfstablaw42_DatalinkOnce.l0] at h
  | k + 1 => by
    have ih0 := selfstablaw42_DatalinkOnce.mono_l k
    · intro y0 y1 y2 y3 y4 y5 y6 y7 y8 y9 y10
      unfold selfstablaw42_DatalinkOnce.l0
      repeat' first
      | (with_reducible exact ih0 _ _ _ _ _ _ _ _ _ _ _)
      | (with_reducible exact selfstablaw42_Raw_Link.mono _ _ _ _ _ _ _ _ _)
      | (with_reducible exact selfstablaw42_events.mono _ _ _)
      | (with_reducible exact selfstablaw42_known.mono _)
      | (with_reducible exact LeO.refl _)
      | (with_reducible exact LeO.none _)
      | (with_reducible refine LeO.ite ?_ ?_)
      | (with_reducible refine LeO.bind ?_ (fun _ => ?_))
      | exact ih0 _ _ _ _ _ _ _ _ _ _ _
      | exact selfstablaw42_Raw_Link.mono _ _ _ _ _ _ _ _ _
      | exact selfstablaw42_events.mono _ _ _
      | exact selfstablaw42_known.mono _
      | exact LeO.none _
      | refine LeO.ite ?_ ?_
      | refine LeO.bind ?_ (fun _ => ?_)
theorem selfstablaw42_DatalinkOnce.mono : ∀ a0 a1 a2 a3 a4 a5 a6 a7 a8 k, LeO (selfstablaw42_DatalinkOnce.f k a0 a1 a2 a3 a4 a5 a6 a7 a8) (selfstablaw42_DatalinkOnce.f (k + 1) a0 a1 a2 a3 a4 a5 a6 a7 a8) := by
  intro a0 a1 a2 a3 a4 a5 a6 a7 a8 k
  have ih0 := selfstablaw42_DatalinkOnce.mono_l k
  unfold selfstablaw42_DatalinkOnce.f
  repeat' first
      | (with_reducible exact ih0 _ _ _ _ _ _ _ _ _ _ _)
      | (with_reducible exact selfstablaw42_Raw_Link.mono _ _ _ _ _ _ _ _ _)
      | (with_reducible exact selfstablaw42_events.mono _ _ _)
      | (with_reducible exact selfstablaw42_known.mono _)
      | (with_reducible exact LeO.refl _)
      | (with_reducible exact LeO.none _)
      | (with_reducible refine LeO.ite ?_ ?_)
      | (with_reducible refine LeO.bind ?_ (fun _ => ?_))
      | exact ih0 _ _ _ _ _ _ _ _ _ _ _
      | exact selfstablaw42_Raw_Link.mono _ _ _ _ _ _ _ _ _
      | exact selfstablaw42_events.mono _ _ _
      | exact selfstablaw42_known.mono _
      | exact LeO.none _
      | refine LeO.ite ?_ ?_
      | refine LeO.bind ?_ (fun _ => ?_)
def selfstablaw42_DatalinkOnce.T2 : Bool × List (List Nat × List Nat) := (true, [([], []), ([], []), ([1], [1]), ([0, 2, 2], [0, 2]), ([3], [3]), ([4], [4]), ([4], [4]), ([], []), ([7, 5, 3, 0, 1, 2, 3, 4, 5, 7], [5, 7]), ([6, 8, 0, 1, 2, 3, 4, 5, 6, 7, 8], [6])])
def selfstablaw42_DatalinkOnce.B2 : List Nat := [0, 0, 2, 7, 15, 31, 31, 0, 191, 511]
theorem selfstablaw42_DatalinkOnce.tab2 : rtab .any (opsOf Try.f4 2) = selfstablaw42_DatalinkOnce.T2 := by kernel_rfl
theorem selfstablaw42_DatalinkOnce.bits2 : waitsOk selfstablaw42_DatalinkOnce.T2.2 selfstablaw42_DatalinkOnce.B2 = true := by kernel_rfl
set_option maxHeartbeats 8000000 in
set_option maxRecDepth 100000 in
theorem selfstablaw42_DatalinkOnce.calls (k : Nat) (a0_0 : Int) (a0_1 : Int) (a0_2 : Int) (a0_3 : Int) (a0_4 : Int) (A0_5 : Option Addr) (c0_5 : Nat) (l0_5 : List Int) (A0_6 : Option Addr) (c0_6 : Nat) (l0_6 : List Int) (A0_7 : Option Addr) (c0_7 : Nat) (l0_7 : List Int) (A1 : Option Addr) (c1 : Nat) (l1 : List (S40)) (r : Bool) (w : World) (hr0_5 : Kd.C (Kd.int .i64) w A0_5 l0_5.length l0_5) (hc0_5 : l0_5.length ≤ c0_5) (hr0_6 : Kd.C (Kd.int .i64) w A0_6 l0_6.length l0_6) (hc0_6 : l0_6.length ≤ c0_6) (hr0_7 : Kd.C (Kd.int .i64) w A0_7 l0_7.length l0_7) (hc0_7 : l0_7.length ≤ c0_7) (hr1 : Kd.C k40 w A1 l1.length l1) (hc1 : l1.length ≤ c1) (h : selfstablaw42_DatalinkOnce.f k a0_0 a0_1 a0_2 a0_3 a0_4 l0_5 l0_6 l0_7 l1 = some r) :
    Calls Try.prog 4 #[.agg #[.int .i64 a0_0, .int .i64 a0_1, .int .i64 a0_2, .int .i64 a0_3, .int .i64 a0_4, .slice A0_5 l0_5.length c0_5, .slice A0_6 l0_6.length c0_6, .slice A0_7 l0_7.length c0_7], .slice A1 l1.length c1] w fun e w' => e = .returned (.bool r) ∧ Below w.heap.size w w' := by
  have hu24 := Try.underlying24
  have hu29 := Try.underlying29
  have HR0_5 := Aside0.mk hr0_5
  have HC0_5 := Aside0.mk hc0_5
  clear hr0_5 hc0_5
  have HR0_6 := Aside0.mk hr0_6
  have HC0_6 := Aside0.mk hc0_6
  clear hr0_6 hc0_6
  have HR0_7 := Aside0.mk hr0_7
  have HC0_7 := Aside0.mk hc0_7
  clear hr0_7 hc0_7
  have HR1 := Aside0.mk hr1
  have HC1 := Aside0.mk hc1
  clear hr1 hc1
  have HB := Aside0.mk (Below.refl w.heap.size w)
  have H : ((selfstablaw42_Raw_Link.f k a0_0 a0_1 a0_2 a0_3 a0_4 l0_5 l0_6 l0_7).bind fun bt294 => ((selfstablaw42_events.f k l1 250).bind fun t306 => ((datalink_Run.f bt294.1 bt294.2.1 bt294.2.2.1 bt294.2.2.2.1 bt294.2.2.2.2.1 bt294.2.2.2.2.2.1 bt294.2.2.2.2.2.2 t306).bind fun bt309 => (selfstablaw42_DatalinkOnce.l0 k bt309.2.2.2.2.2.2.2 (wrap64 ((wrap64 (bt294.2.2.2.1 + bt294.2.1)) - 1)) (wrap64 ((wrap64 (bt294.2.2.2.1 + bt294.2.1)) - 1)) 0 bt309.1 bt309.2.1 bt309.2.2.1 bt309.2.2.2.1 bt309.2.2.2.2.1 bt309.2.2.2.2.2.1 bt309.2.2.2.2.2.2.1)))) = some r := h
  clear h
  replace H := Option.bind_eq_some_iff.mp H
  obtain ⟨⟨t294, t295, t296, t297, t298, t299, t302⟩, A30, H⟩ := H
  replace H : ((selfstablaw42_events.f k l1 250).bind fun t306 => ((datalink_Run.f t294 t295 t296 t297 t298 t299 t302 t306).bind fun bt309 => (selfstablaw42_DatalinkOnce.l0 k bt309.2.2.2.2.2.2.2 (wrap64 ((wrap64 (t297 + t295)) - 1)) (wrap64 ((wrap64 (t297 + t295)) - 1)) 0 bt309.1 bt309.2.1 bt309.2.2.1 bt309.2.2.2.1 bt309.2.2.2.2.1 bt309.2.2.2.2.2.1 bt309.2.2.2.2.2.2.1))) = some r := H
  have A3 := Aside0.mk A30
  clear A30
  replace H := Option.bind_eq_some_iff.mp H
  obtain ⟨t306, A40, H⟩ := H
  replace H : ((datalink_Run.f t294 t295 t296 t297 t298 t299 t302 t306).bind fun bt309 => (selfstablaw42_DatalinkOnce.l0 k bt309.2.2.2.2.2.2.2 (wrap64 ((wrap64 (t297 + t295)) - 1)) (wrap64 ((wrap64 (t297 + t295)) - 1)) 0 bt309.1 bt309.2.1 bt309.2.2.1 bt309.2.2.2.1 bt309.2.2.2.2.1 bt309.2.2.2.2.2.1 bt309.2.2.2.2.2.2.1)) = some r := H
  have A4 := Aside0.mk A40
  clear A40
  replace H := Option.bind_eq_some_iff.mp H
  obtain ⟨⟨t309, t310, t311, t312, t313, t314, t317, t320⟩, A50, H⟩ := H
  replace H : (selfstablaw42_DatalinkOnce.l0 k t320 (wrap64 ((wrap64 (t297 + t295)) - 1)) (wrap64 ((wrap64 (t297 + t295)) - 1)) 0 t309 t310 t311 t312 t313 t314 t317) = some r := H
  have A5 := Aside0.mk A50
  clear A50
  have H' := Aside0.mk H
  clear H
  go_enter Try.func4, Try.ntmps4
  try go_wp2_with (first | ((with_reducible refine gate_dst (N := 2) rfl ?_); refine box_event ?hg (N := 2) ?hd (cs := #[.int .i64 a0_0, .int .i64 a0_1, .int .i64 a0_2, .int .i64 a0_3, .int .i64 a0_4, .slice A0_5 l0_5.length c0_5, .slice A0_6 l0_6.length c0_6, .slice A0_7 l0_7.length c0_7]) (t := 24) ?hr ?_; (case hd => rfl); (case hg => rfl); (case hr => first | (go_simp; done) | (go_simp; rfl)); intro gb293 hg w6 hbox hb; have n0_ := Aside0.mk (below_step (by repeat (first | (with_reducible first | exact HB.out | apply below_alloc | apply pw_below_drewN | apply below_drew1) | exact HB.out)) hb); have n1_ := Aside0.mk (hbox); have n2_ := Aside0.mk ((by rw [hg]; exact (below_size (by repeat (first | (with_reducible first | exact HB.out | apply below_alloc | apply pw_below_drewN | apply below_drew1) | exact HB.out))) : w.heap.size ≤ gb293)); have n3_ := Aside0.mk ((by rw [hg]; exact (below_size (by repeat (first | (with_reducible first | exact HB.out | apply below_alloc | apply pw_below_drewN | apply below_drew1) | exact HB.out))) : w.heap.size ≤ gb293)); clear HB; have HB := n0_; have BK293 := n1_; have GW293 := n2_; have GE293 := n3_; clear n0_ n1_ n2_ n3_; clear hb hbox hg; have hcz7_0 : w6.cell? ⟨gb293, 0, none⟩ = some (.int .i64 a0_0) := (blk_cell BK293.out 0).trans rfl; have hcz7_1 : w6.cell? ⟨gb293, 1, none⟩ = some (.int .i64 a0_1) := (blk_cell BK293.out 1).trans rfl; have hcz7_2 : w6.cell? ⟨gb293, 2, none⟩ = some (.int .i64 a0_2) := (blk_cell BK293.out 2).trans rfl; have hcz7_3 : w6.cell? ⟨gb293, 3, none⟩ = some (.int .i64 a0_3) := (blk_cell BK293.out 3).trans rfl; have hcz7_4 : w6.cell? ⟨gb293, 4, none⟩ = some (.int .i64 a0_4) := (blk_cell BK293.out 4).trans rfl; have hcz7_5 : w6.cell? ⟨gb293, 5, none⟩ = some (.slice A0_5 l0_5.length c0_5) := (blk_cell BK293.out 5).trans rfl; have hcz7_6 : w6.cell? ⟨gb293, 6, none⟩ = some (.slice A0_6 l0_6.length c0_6) := (blk_cell BK293.out 6).trans rfl; have hcz7_7 : w6.cell? ⟨gb293, 7, none⟩ = some (.slice A0_7 l0_7.length c0_7) := (blk_cell BK293.out 7).trans rfl; have hfz7_0 := blk_frozen BK293.out 0; have hfz7_1 := blk_frozen BK293.out 1; have hfz7_2 := blk_frozen BK293.out 2; have hfz7_3 := blk_frozen BK293.out 3; have hfz7_4 := blk_frozen BK293.out 4; have hfz7_5 := blk_frozen BK293.out 5; have hfz7_6 := blk_frozen BK293.out 6; have hfz7_7 := blk_frozen BK293.out 7) | ((with_reducible refine gate_callee (f := 10) rfl ?_); refine goesL_ (some 12) rfl rfl Try.func10 (by kernel_rfl) rfl #[.agg #[.int .i64 a0_0, .int .i64 a0_1, .int .i64 a0_2, .int .i64 a0_3, .int .i64 a0_4, .slice A0_5 l0_5.length c0_5, .slice A0_6 l0_6.length c0_6, .slice A0_7 l0_7.length c0_7]] rfl (by (try simp only [List.map_toArray, List.map_cons, List.map_nil]); first | done | rfl | (simp only [List.length_drop, List.length_take]; rfl)) ?_; (with_reducible refine (selfstablaw42_Raw_Link.calls k a0_0 a0_1 a0_2 a0_3 a0_4 _ _ l0_5 _ _ l0_6 _ _ l0_7 t294 t295 t296 t297 t298 t299 t302 _ ?side1 ?side2 ?side3 ?side4 ?side5 ?side6 A3.out).mono ?_); (case side1 => repeat (first | exact (Kd.C_below HR0_5.out HB.out) | (with_reducible refine Kd.C_alloc ?_ _) | (with_reducible refine Kd.C_drewN ?_ _) | (with_reducible refine Kd.C_drew ?_))); (case side2 => exact HC0_5.out); (case side3 => repeat (first | exact (Kd.C_below HR0_6.out HB.out) | (with_reducible refine Kd.C_alloc ?_ _) | (with_reducible refine Kd.C_drewN ?_ _) | (with_reducible refine Kd.C_drew ?_))); (case side4 => exact HC0_6.out); (case side5 => repeat (first | exact (Kd.C_below HR0_7.out HB.out) | (with_reducible refine Kd.C_alloc ?_ _) | (with_reducible refine Kd.C_drewN ?_ _) | (with_reducible refine Kd.C_drew ?_))); (case side6 => exact HC0_7.out); rintro e w8 ⟨v300, v303, rfl, ho0, ho1, hb⟩; refine ⟨_, rfl, ?_⟩; have n0_ := Aside0.mk (Kd.R_lower ho0 (below_size (by repeat (first | (with_reducible first | exact HB.out | apply below_alloc | apply pw_below_drewN | apply below_drew1 | refine below_set ?_ GE293.out) | exact HB.out)))); have n1_ := Aside0.mk (Kd.R_lower ho1 (below_size (by repeat (first | (with_reducible first | exact HB.out | apply below_alloc | apply pw_below_drewN | apply below_drew1 | refine below_set ?_ GE293.out) | exact HB.out)))); have n2_ := Aside0.mk (blk_below (g := gb293) (o := .cells #[.int .i64 a0_0, .int .i64 a0_1, .int .i64 a0_2, .int .i64 a0_3, .int .i64 a0_4, .slice A0_5 l0_5.length c0_5, .slice A0_6 l0_6.length c0_6, .slice A0_7 l0_7.length c0_7] 24 (0, 0)) (by (with_reducible repeat (first | refine blk_drewN ?_ _ | refine blk_drew ?_ | refine blk_alloc ?_ _)); exact BK293.out) hb); have n3_ := Aside0.mk (below_step (by repeat (first | (with_reducible first | exact HB.out | apply below_alloc | apply pw_below_drewN | apply below_drew1 | refine below_set ?_ GE293.out) | exact HB.out)) hb); clear BK293; clear HB; have HO301 := n0_; have HO304 := n1_; have BK293 := n2_; have HB := n3_; clear n0_ n1_ n2_ n3_; (try clear hb); (try clear hb2); (try clear hk); (try clear hi); (try clear ho0); (try clear ho1)) | ((with_reducible refine gate_dst (N := 5) rfl ?_); refine box_event ?hg (N := 5) ?hd (cs := #[.int .i64 0, .int .i64 0, .int .i64 0, .int .i64 0, .int .i64 0, .slice none 0 0, .slice none 0 0]) (t := 29) ?hr ?_; (case hd => rfl); (case hg => rfl); (case hr => first | (go_simp; done) | (go_simp; rfl)); intro gb305 hg w9 hbox hb; have n0_ := Aside0.mk (Kd.R_below (by (with_reducible repeat (first | apply Kd.R_alloc | apply Kd.R_drewN | apply Kd.R_drew)); exact HO301.out) hb); have n1_ := Aside0.mk (Kd.R_below (by (with_reducible repeat (first | apply Kd.R_alloc | apply Kd.R_drewN | apply Kd.R_drew)); exact HO304.out) hb); have n2_ := Aside0.mk (blk_below (g := gb293) (o := .cells #[.int .i64 a0_0, .int .i64 a0_1, .int .i64 a0_2, .int .i64 a0_3, .int .i64 a0_4, .slice A0_5 l0_5.length c0_5, .slice A0_6 l0_6.length c0_6, .slice A0_7 l0_7.length c0_7] 24 (0, 0)) (by (with_reducible repeat (first | refine blk_drewN ?_ _ | refine blk_drew ?_ | refine blk_alloc ?_ _)); exact BK293.out) hb); have n3_ := Aside0.mk (below_step (by repeat (first | (with_reducible first | exact HB.out | apply below_alloc | apply pw_below_drewN | apply below_drew1 | refine below_set ?_ GE293.out) | exact HB.out)) hb); have n4_ := Aside0.mk (hbox); have n5_ := Aside0.mk ((by rw [hg]; exact (below_size (by repeat (first | (with_reducible first | exact HB.out | apply below_alloc | apply pw_below_drewN | apply below_drew1 | refine below_set ?_ GE293.out) | exact HB.out))) : w.heap.size ≤ gb305)); have n6_ := Aside0.mk ((by rw [hg]; exact (below_size (by repeat (first | (with_reducible first | exact HB.out | apply below_alloc | apply pw_below_drewN | apply below_drew1 | refine below_set ?_ GE293.out) | exact HB.out))) : w.heap.size ≤ gb305)); have n7_ := Aside0.mk ((by rw [hg]; exact Nat.ne_of_lt (blk_lt (g := gb293) (o := .cells #[.int .i64 a0_0, .int .i64 a0_1, .int .i64 a0_2, .int .i64 a0_3, .int .i64 a0_4, .slice A0_5 l0_5.length c0_5, .slice A0_6 l0_6.length c0_6, .slice A0_7 l0_7.length c0_7] 24 (0, 0)) (by (with_reducible repeat (first | refine blk_drewN ?_ _ | refine blk_drew ?_ | refine blk_alloc ?_ _)); exact BK293.out)) : gb293 ≠ gb305)); have n8_ := Aside0.mk ((by rw [hg]; exact Nat.ne_of_gt (blk_lt (g := gb293) (o := .cells #[.int .i64 a0_0, .int .i64 a0_1, .int .i64 a0_2, .int .i64 a0_3, .int .i64 a0_4, .slice A0_5 l0_5.length c0_5, .slice A0_6 l0_6.length c0_6, .slice A0_7 l0_7.length c0_7] 24 (0, 0)) (by (with_reducible repeat (first | refine blk_drewN ?_ _ | refine blk_drew ?_ | refine blk_alloc ?_ _)); exact BK293.out)) : gb305 ≠ gb293)); clear HO301; clear HO304; clear BK293; clear HB; have HO301 := n0_; have HO304 := n1_; have BK293 := n2_; have HB := n3_; have BK305 := n4_; have GW305 := n5_; have GE305 := n6_; have NB293_305 := n7_; have NB305_293 := n8_; clear n0_ n1_ n2_ n3_ n4_ n5_ n6_ n7_ n8_; clear hb hbox hg; have hnb10 := NB305_293.out; have hnc10 := NB293_305.out; have hcz11_0 : w9.cell? ⟨gb305, 0, none⟩ = some (.int .i64 0) := (blk_cell BK305.out 0).trans rfl; have hcz11_1 : w9.cell? ⟨gb305, 1, none⟩ = some (.int .i64 0) := (blk_cell BK305.out 1).trans rfl; have hcz11_2 : w9.cell? ⟨gb305, 2, none⟩ = some (.int .i64 0) := (blk_cell BK305.out 2).trans rfl; have hcz11_3 : w9.cell? ⟨gb305, 3, none⟩ = some (.int .i64 0) := (blk_cell BK305.out 3).trans rfl; have hcz11_4 : w9.cell? ⟨gb305, 4, none⟩ = some (.int .i64 0) := (blk_cell BK305.out 4).trans rfl; have hcz11_5 : w9.cell? ⟨gb305, 5, none⟩ = some (.slice none 0 0) := (blk_cell BK305.out 5).trans rfl; have hcz11_6 : w9.cell? ⟨gb305, 6, none⟩ = some (.slice none 0 0) := (blk_cell BK305.out 6).trans rfl; have hfz11_0 := blk_frozen BK305.out 0; have hfz11_1 := blk_frozen BK305.out 1; have hfz11_2 := blk_frozen BK305.out 2; have hfz11_3 := blk_frozen BK305.out 3; have hfz11_4 := blk_frozen BK305.out 4; have hfz11_5 := blk_frozen BK305.out 5; have hfz11_6 := blk_frozen BK305.out 6; obtain ⟨Ao12, co12, eo12⟩ := Kd.R_slice HO301.out; subst eo12; obtain ⟨Ao13, co13, eo13⟩ := Kd.R_slice HO304.out; subst eo13))
  have n0_ : Aside0 (Kd.R k46 46 (((((((w9.setCell ⟨gb305, 0, none⟩ (.int .i64 t294)).setCell ⟨gb305, 1, none⟩ (.int .i64 t295)).setCell ⟨gb305, 2, none⟩ (.int .i64 t296)).setCell ⟨gb305, 3, none⟩ (.int .i64 t297)).setCell ⟨gb305, 4, none⟩ (.int .i64 t298)).setCell ⟨gb305, 5, none⟩ (.slice Ao12 t299.length co12)).setCell ⟨gb305, 6, none⟩ (.slice Ao13 t302.length co13)) w.heap.size (fun _ => True) (.slice Ao12 t299.length co12) t299) := ⟨by (with_reducible repeat (first | apply Kd.R_alloc | apply Kd.R_drewN | apply Kd.R_drew)); exact Kd.R_mono (Kd.R_far (p := ⟨gb305, 6, none⟩) (Kd.R_far (p := ⟨gb305, 5, none⟩) (Kd.R_far (p := ⟨gb305, 4, none⟩) (Kd.R_far (p := ⟨gb305, 3, none⟩) (Kd.R_far (p := ⟨gb305, 2, none⟩) (Kd.R_far (p := ⟨gb305, 1, none⟩) (Kd.R_far (p := ⟨gb305, 0, none⟩) (Kd.R_types HO301.out BK305.out (by decide)) (fun _ hk => hk.2) (.int .i64 t294)) (fun _ hk => hk.2) (.int .i64 t295)) (fun _ hk => hk.2) (.int .i64 t296)) (fun _ hk => hk.2) (.int .i64 t297)) (fun _ hk => hk.2) (.int .i64 t298)) (fun _ hk => hk.2) (.slice Ao12 t299.length co12)) (fun _ hk => hk.2) (.slice Ao13 t302.length co13)) (fun _ hk => trivial)⟩
  have n1_ : Aside0 (Kd.R (Kd.int .i64) 3 (((((((w9.setCell ⟨gb305, 0, none⟩ (.int .i64 t294)).setCell ⟨gb305, 1, none⟩ (.int .i64 t295)).setCell ⟨gb305, 2, none⟩ (.int .i64 t296)).setCell ⟨gb305, 3, none⟩ (.int .i64 t297)).setCell ⟨gb305, 4, none⟩ (.int .i64 t298)).setCell ⟨gb305, 5, none⟩ (.slice Ao12 t299.length co12)).setCell ⟨gb305, 6, none⟩ (.slice Ao13 t302.length co13)) w.heap.size (fun _ => True) (.slice Ao13 t302.length co13) t302) := ⟨by (with_reducible repeat (first | apply Kd.R_alloc | apply Kd.R_drewN | apply Kd.R_drew)); exact Kd.R_mono (Kd.R_far (p := ⟨gb305, 6, none⟩) (Kd.R_far (p := ⟨gb305, 5, none⟩) (Kd.R_far (p := ⟨gb305, 4, none⟩) (Kd.R_far (p := ⟨gb305, 3, none⟩) (Kd.R_far (p := ⟨gb305, 2, none⟩) (Kd.R_far (p := ⟨gb305, 1, none⟩) (Kd.R_far (p := ⟨gb305, 0, none⟩) (Kd.R_types HO304.out BK305.out (by decide)) (fun _ hk => hk.2) (.int .i64 t294)) (fun _ hk => hk.2) (.int .i64 t295)) (fun _ hk => hk.2) (.int .i64 t296)) (fun _ hk => hk.2) (.int .i64 t297)) (fun _ hk => hk.2) (.int .i64 t298)) (fun _ hk => hk.2) (.slice Ao12 t299.length co12)) (fun _ hk => hk.2) (.slice Ao13 t302.length co13)) (fun _ hk => trivial)⟩
  have n2_ : Aside0 ((((((((w9.setCell ⟨gb305, 0, none⟩ (.int .i64 t294)).setCell ⟨gb305, 1, none⟩ (.int .i64 t295)).setCell ⟨gb305, 2, none⟩ (.int .i64 t296)).setCell ⟨gb305, 3, none⟩ (.int .i64 t297)).setCell ⟨gb305, 4, none⟩ (.int .i64 t298)).setCell ⟨gb305, 5, none⟩ (.slice Ao12 t299.length co12)).setCell ⟨gb305, 6, none⟩ (.slice Ao13 t302.length co13)).heap[gb293]? = some (.cells #[.int .i64 a0_0, .int .i64 a0_1, .int .i64 a0_2, .int .i64 a0_3, .int .i64 a0_4, .slice A0_5 l0_5.length c0_5, .slice A0_6 l0_6.length c0_6, .slice A0_7 l0_7.length c0_7] 24 (0, 0))) := ⟨by (with_reducible repeat (first | refine blk_drewN ?_ _ | refine blk_drew ?_ | refine blk_alloc ?_ _)); refine blk_far ?_ NB293_305.out _; (with_reducible repeat (first | refine blk_drewN ?_ _ | refine blk_drew ?_ | refine blk_alloc ?_ _)); refine blk_far ?_ NB293_305.out _; (with_reducible repeat (first | refine blk_drewN ?_ _ | refine blk_drew ?_ | refine blk_alloc ?_ _)); refine blk_far ?_ NB293_305.out _; (with_reducible repeat (first | refine blk_drewN ?_ _ | refine blk_drew ?_ | refine blk_alloc ?_ _)); refine blk_far ?_ NB293_305.out _; (with_reducible repeat (first | refine blk_drewN ?_ _ | refine blk_drew ?_ | refine blk_alloc ?_ _)); refine blk_far ?_ NB293_305.out _; (with_reducible repeat (first | refine blk_drewN ?_ _ | refine blk_drew ?_ | refine blk_alloc ?_ _)); refine blk_far ?_ NB293_305.out _; (with_reducible repeat (first | refine blk_drewN ?_ _ | refine blk_drew ?_ | refine blk_alloc ?_ _)); refine blk_far ?_ NB293_305.out _; (with_reducible repeat (first | refine blk_drewN ?_ _ | refine blk_drew ?_ | refine blk_alloc ?_ _)); exact BK293.out⟩
  have n3_ : Aside0 ((((((((w9.setCell ⟨gb305, 0, none⟩ (.int .i64 t294)).setCell ⟨gb305, 1, none⟩ (.int .i64 t295)).setCell ⟨gb305, 2, none⟩ (.int .i64 t296)).setCell ⟨gb305, 3, none⟩ (.int .i64 t297)).setCell ⟨gb305, 4, none⟩ (.int .i64 t298)).setCell ⟨gb305, 5, none⟩ (.slice Ao12 t299.length co12)).setCell ⟨gb305, 6, none⟩ (.slice Ao13 t302.length co13)).heap[gb305]? = some (.cells #[.int .i64 t294, .int .i64 t295, .int .i64 t296, .int .i64 t297, .int .i64 t298, .slice Ao12 t299.length co12, .slice Ao13 t302.length co13] 29 (0, 0))) := ⟨by (with_reducible repeat (first | refine blk_drewN ?_ _ | refine blk_drew ?_ | refine blk_alloc ?_ _)); refine blk_put (cs := #[.int .i64 t294, .int .i64 t295, .int .i64 t296, .int .i64 t297, .int .i64 t298, .slice Ao12 t299.length co12, .slice none 0 0]) ?_ 6 _ rfl; (with_reducible repeat (first | refine blk_drewN ?_ _ | refine blk_drew ?_ | refine blk_alloc ?_ _)); refine blk_put (cs := #[.int .i64 t294, .int .i64 t295, .int .i64 t296, .int .i64 t297, .int .i64 t298, .slice none 0 0, .slice none 0 0]) ?_ 5 _ rfl; (with_reducible repeat (first | refine blk_drewN ?_ _ | refine blk_drew ?_ | refine blk_alloc ?_ _)); refine blk_put (cs := #[.int .i64 t294, .int .i64 t295, .int .i64 t296, .int .i64 t297, .int .i64 0, .slice none 0 0, .slice none 0 0]) ?_ 4 _ rfl; (with_reducible repeat (first | refine blk_drewN ?_ _ | refine blk_drew ?_ | refine blk_alloc ?_ _)); refine blk_put (cs := #[.int .i64 t294, .int .i64 t295, .int .i64 t296, .int .i64 0, .int .i64 0, .slice none 0 0, .slice none 0 0]) ?_ 3 _ rfl; (with_reducible repeat (first | refine blk_drewN ?_ _ | refine blk_drew ?_ | refine blk_alloc ?_ _)); refine blk_put (cs := #[.int .i64 t294, .int .i64 t295, .int .i64 0, .int .i64 0, .int .i64 0, .slice none 0 0, .slice none 0 0]) ?_ 2 _ rfl; (with_reducible repeat (first | refine blk_drewN ?_ _ | refine blk_drew ?_ | refine blk_alloc ?_ _)); refine blk_put (cs := #[.int .i64 t294, .int .i64 0, .int .i64 0, .int .i64 0, .int .i64 0, .slice none 0 0, .slice none 0 0]) ?_ 1 _ rfl; (with_reducible repeat (first | refine blk_drewN ?_ _ | refine blk_drew ?_ | refine blk_alloc ?_ _)); refine blk_put (cs := #[.int .i64 0, .int .i64 0, .int .i64 0, .int .i64 0, .int .i64 0, .slice none 0 0, .slice none 0 0]) ?_ 0 _ rfl; (with_reducible repeat (first | refine blk_drewN ?_ _ | refine blk_drew ?_ | refine blk_alloc ?_ _)); exact BK305.out⟩
  have n4_ : Aside0 (Below w.heap.size w (((((((w9.setCell ⟨gb305, 0, none⟩ (.int .i64 t294)).setCell ⟨gb305, 1, none⟩ (.int .i64 t295)).setCell ⟨gb305, 2, none⟩ (.int .i64 t296)).setCell ⟨gb305, 3, none⟩ (.int .i64 t297)).setCell ⟨gb305, 4, none⟩ (.int .i64 t298)).setCell ⟨gb305, 5, none⟩ (.slice Ao12 t299.length co12)).setCell ⟨gb305, 6, none⟩ (.slice Ao13 t302.length co13))) := ⟨by repeat (first | (with_reducible first | exact HB.out | apply below_alloc | apply pw_below_drewN | apply below_drew1 | refine below_set ?_ GE293.out | refine below_set ?_ GE305.out) | exact HB.out)⟩
  (try clear HO301)
  (try clear HO304)
  (try clear BK293)
  (try clear BK305)
  (try clear HB)
  generalize (((((((w9.setCell ⟨gb305, 0, none⟩ (.int .i64 t294)).setCell ⟨gb305, 1, none⟩ (.int .i64 t295)).setCell ⟨gb305, 2, none⟩ (.int .i64 t296)).setCell ⟨gb305, 3, none⟩ (.int .i64 t297)).setCell ⟨gb305, 4, none⟩ (.int .i64 t298)).setCell ⟨gb305, 5, none⟩ (.slice Ao12 t299.length co12)).setCell ⟨gb305, 6, none⟩ (.slice Ao13 t302.length co13)) = w14 at n0_ n1_ n2_ n3_ n4_ ⊢
  have HO301 := n0_
  have HO304 := n1_
  have BK293 := n2_
  have BK305 := n3_
  have HB := n4_
  clear n0_ n1_ n2_ n3_ n4_
  have n0_ := Aside0.mk (Kd.R_drew HO301.out)
  have n1_ := Aside0.mk (Kd.R_drew HO304.out)
  have n2_ := Aside0.mk (blk_drew BK293.out)
  have n3_ := Aside0.mk (blk_drew BK305.out)
  have n4_ := Aside0.mk (below_drew1 HB.out)
  clear HO301
  clear HO304
  clear BK293
  clear BK305
  clear HB
  have HO301 := n0_
  have HO304 := n1_
  have BK293 := n2_
  have BK305 := n3_
  have HB := n4_
  clear n0_ n1_ n2_ n3_ n4_
  refine start_ (n := 10) (S := fun w' => w'.cell? ⟨gb305, 0, none⟩ = some (.int .i64 t294) ∧ w'.cell? ⟨gb305, 1, none⟩ = some (.int .i64 t295) ∧ w'.cell? ⟨gb305, 2, none⟩ = some (.int .i64 t296) ∧ w'.cell? ⟨gb305, 3, none⟩ = some (.int .i64 t297) ∧ w'.cell? ⟨gb305, 4, none⟩ = some (.int .i64 t298) ∧ w'.cell? ⟨gb305, 5, none⟩ = some (.slice Ao12 t299.length co12) ∧ w'.cell? ⟨gb305, 6, none⟩ = some (.slice Ao13 t302.length co13)) (ds := []) #[false, false, false, false, false, false, false, false, false, false] (by kernel_rfl) rfl rfl ⟨(blk_cell BK305.out 0).trans rfl, (blk_cell BK305.out 1).trans rfl, (blk_cell BK305.out 2).trans rfl, (blk_cell BK305.out 3).trans rfl, (blk_cell BK305.out 4).trans rfl, (blk_cell BK305.out 5).trans rfl, (blk_cell BK305.out 6).trans rfl⟩ (fun hHeld => ?_); refine with_tabW selfstablaw42_DatalinkOnce.tab2 selfstablaw42_DatalinkOnce.bits2 (fun HT_ HW_ => ?_)
  generalize w14.drew = w15 at HO301 HO304 BK293 BK305 HB hHeld ⊢
  refine pure_ (i := 1) (N := some 15) (v := ?_) (a' := ?_) #[false, true, false, false, false, false, false, false, false, false] rfl rfl (any_of HT_.out (by kernel_rfl)) (fun _ _ _ h => h) (Or.inl ⟨by rfl, ?_⟩) ?_ ?_
  rotate_left
  · intro w'
    go_simp
    with_reducible rfl
  rotate_left
  · simp only [Act.put, List.setIfInBounds_toArray, List.set_cons_zero, List.set_cons_succ, i64_w, i32_w]
    rfl
  refine take_ (i := 0) (N := some 14) (v := ?_) (a' := ?_) #[true, true, false, false, false, false, false, false, false, false] rfl rfl (take_ofW HT_.out HW_.out (by kernel_rfl)) (fun _ _ _ h => h) (Or.inl ⟨by rfl, ?_⟩) hHeld ?_ ?_
  rotate_left
  · rintro w' ⟨s0, s1, s2, s3, s4, s5, s6⟩
    go_simp
    with_reducible rfl
  rotate_left
  · simp only [Act.put, List.setIfInBounds_toArray, List.set_cons_zero, List.set_cons_succ, i64_w, i32_w]
    rfl
  refine join_ (σ := Value × Value × Value × Value × Nat) 2 #[true, true, true, true, true, true, true, true, false, false] (fun s_ => [(16, s_.1), (17, .tuple #[.agg #[.int .i64 t309, .int .i64 t310, .int .i64 t311, .int .i64 t312, .int .i64 t313, s_.2.1, s_.2.2.1], s_.2.2.2.1]), (6, .pointer (some ⟨s_.2.2.2.2, 0, none⟩)), (13, .tuple #[.agg #[.int .i64 t309, .int .i64 t310, .int .i64 t311, .int .i64 t312, .int .i64 t313, s_.2.1, s_.2.2.1], s_.2.2.2.1]), (18, .agg #[.int .i64 t309, .int .i64 t310, .int .i64 t311, .int .i64 t312, .int .i64 t313, s_.2.1, s_.2.2.1]), (19, s_.2.2.2.1)]) (fun s_ w' => (w'.cell? ⟨gb305, 0, none⟩ = some (.int .i64 t294) ∧ w'.cell? ⟨gb305, 1, none⟩ = some (.int .i64 t295) ∧ w'.cell? ⟨gb305, 2, none⟩ = some (.int .i64 t296) ∧ w'.cell? ⟨gb305, 3, none⟩ = some (.int .i64 t297) ∧ w'.cell? ⟨gb305, 4, none⟩ = some (.int .i64 t298) ∧ w'.cell? ⟨gb305, 5, none⟩ = some (.slice Ao12 t299.length co12) ∧ w'.cell? ⟨gb305, 6, none⟩ = some (.slice Ao13 t302.length co13)) ∧ (Kd.R k46 46 w' w.heap.size (fun k_ => some k_ ≠ (s_.2.1 : Value).ownBlock) (.slice Ao12 t299.length co12) t299) ∧ (Kd.R (Kd.int .i64) 3 w' w.heap.size (fun k_ => some k_ ≠ (s_.2.2.1 : Value).ownBlock ∧ some k_ ≠ (s_.2.2.2.1 : Value).ownBlock) (.slice Ao13 t302.length co13) t302) ∧ (Kd.R k40 40 w' w.heap.size (fun _ => True) s_.1 t306) ∧ (Kd.R k46 46 w' w.heap.size (fun k_ => some k_ ≠ (.slice Ao12 t299.length co12 : Value).ownBlock) s_.2.1 t314) ∧ (Kd.R (Kd.int .i64) 3 w' w.heap.size (fun k_ => some k_ ≠ (.slice Ao13 t302.length co13 : Value).ownBlock ∧ some k_ ≠ (s_.2.2.2.1 : Value).ownBlock) s_.2.2.1 t317) ∧ (Kd.R (Kd.int .i64) 3 w' w.heap.size (fun k_ => some k_ ≠ (.slice Ao13 t302.length co13 : Value).ownBlock ∧ some k_ ≠ (s_.2.2.1 : Value).ownBlock) s_.2.2.2.1 t320) ∧ (w'.heap[gb293]? = some (.cells #[.int .i64 a0_0, .int .i64 a0_1, .int .i64 a0_2, .int .i64 a0_3, .int .i64 a0_4, .slice A0_5 l0_5.length c0_5, .slice A0_6 l0_6.length c0_6, .slice A0_7 l0_7.length c0_7] 24 (0, 0))) ∧ (w'.heap[gb305]? = some (.cells #[.int .i64 t294, .int .i64 t295, .int .i64 t296, .int .i64 t297, .int .i64 t298, .slice Ao12 t299.length co12, .slice Ao13 t302.length co13] 29 (0, 0))) ∧ (w'.heap[s_.2.2.2.2]? = some (.cells #[.int .i64 0, .int .i64 0, .int .i64 0, .int .i64 0, .int .i64 0, .slice none 0 0, .slice none 0 0] 29 (0, 0))) ∧ (w.heap.size ≤ s_.2.2.2.2) ∧ (w.heap.size ≤ s_.2.2.2.2) ∧ (gb293 ≠ s_.2.2.2.2) ∧ (s_.2.2.2.2 ≠ gb293) ∧ (gb305 ≠ s_.2.2.2.2) ∧ (s_.2.2.2.2 ≠ gb305) ∧ (Below w.heap.size w w')) ?_ ?_
  rotate_left
  · intro hCont
    refine two_ (i := 2) (j := 7) (Ni := some 16) (Nj := some 6) #[true, true, true, false, false, false, false, false, false, false] #[true, true, false, false, false, false, false, true, false, false] rfl rfl rfl rfl (two_of HT_.out (by kernel_rfl)) (by decide) (by decide) (fun K hK => ?_) (fun K hK => ?_)
    · skip
      refine goes_ Try.func13 (by kernel_rfl) rfl #[.slice A1 l1.length c1, .int .i64 250] (by rfl) rfl rfl (by (try simp only [List.map_toArray, List.map_cons, List.map_nil]); first | done | rfl | (simp only [List.length_drop, List.length_take]; rfl)) ?_
      with_reducible refine (selfstablaw42_events.calls k _ _ l1 250 t306 _ ?side1 ?side2 A4.out).mono ?_
      (case side1 => repeat (first | exact (Kd.C_below HR1.out HB.out) | (with_reducible refine Kd.C_alloc ?_ _) | (with_reducible refine Kd.C_drewN ?_ _) | (with_reducible refine Kd.C_drew ?_)))
      (case side2 => exact HC1.out)
      rintro e w16 ⟨v307, rfl, ho0, hb⟩
      refine ⟨_, rfl, ?_⟩
      have n0_ := Aside0.mk (Kd.R_below (by (with_reducible repeat (first | apply Kd.R_alloc | apply Kd.R_drewN | apply Kd.R_drew)); exact HO301.out) hb)
      have n1_ := Aside0.mk (Kd.R_below (by (with_reducible repeat (first | apply Kd.R_alloc | apply Kd.R_drewN | apply Kd.R_drew)); exact HO304.out) hb)
      have n2_ := Aside0.mk (Kd.R_lower ho0 (below_size (by repeat (first | (with_reducible first | exact HB.out | apply below_alloc | apply pw_below_drewN | apply below_drew1 | refine below_set ?_ GE293.out | refine below_set ?_ GE305.out) | exact HB.out))))
      have n3_ := Aside0.mk (blk_below (g := gb293) (o := .cells #[.int .i64 a0_0, .int .i64 a0_1, .int .i64 a0_2, .int .i64 a0_3, .int .i64 a0_4, .slice A0_5 l0_5.length c0_5, .slice A0_6 l0_6.length c0_6, .slice A0_7 l0_7.length c0_7] 24 (0, 0)) (by (with_reducible repeat (first | refine blk_drewN ?_ _ | refine blk_drew ?_ | refine blk_alloc ?_ _)); exact BK293.out) hb)
      have n4_ := Aside0.mk (blk_below (g := gb305) (o := .cells #[.int .i64 t294, .int .i64 t295, .int .i64 t296, .int .i64 t297, .int .i64 t298, .slice Ao12 t299.length co12, .slice Ao13 t302.length co13] 29 (0, 0)) (by (with_reducible repeat (first | refine blk_drewN ?_ _ | refine blk_drew ?_ | refine blk_alloc ?_ _)); exact BK305.out) hb)
      have n5_ := Aside0.mk (below_step (by repeat (first | (with_reducible first | exact HB.out | apply below_alloc | apply pw_below_drewN | apply below_drew1 | refine below_set ?_ GE293.out | refine below_set ?_ GE305.out) | exact HB.out)) hb)
      clear HO301
      clear HO304
      clear BK293
      clear BK305
      clear HB
      have HO301 := n0_
      have HO304 := n1_
      have HO308 := n2_
      have BK293 := n3_
      have BK305 := n4_
      have HB := n5_
      clear n0_ n1_ n2_ n3_ n4_ n5_
      (try clear hb)
      (try clear hb2)
      (try clear hk)
      (try clear hi)
      (try clear ho0)
      obtain ⟨Ao17, co17, eo17⟩ := Kd.R_slice HO308.out
      (first | subst eo17 | (injection eo17 with f1_ f2_ f3_; have f4_ := f1_.symm; have f5_ := f3_.symm; clear f1_ f2_ f3_; subst f4_; subst f5_))
      refine hK.out _ _ ⟨(blk_cell BK305.out 0).trans rfl, (blk_cell BK305.out 1).trans rfl, (blk_cell BK305.out 2).trans rfl, (blk_cell BK305.out 3).trans rfl, (blk_cell BK305.out 4).trans rfl, (blk_cell BK305.out 5).trans rfl, (blk_cell BK305.out 6).trans rfl⟩ (fun hHeld => ?_)
      clear hK K
      refine norm_ (a' := ?_) ?_ ?_
      rotate_left
      · show Act.put _ (some 16) _ = _
        simp only [Act.put, List.setIfInBounds_toArray, List.set_cons_zero, List.set_cons_succ, i64_w, i32_w]
        rfl
      refine two_ (i := 3) (j := 7) (Ni := some 17) (Nj := some 6) #[true, true, true, true, false, false, false, false, false, false] #[true, true, true, false, false, false, false, true, false, false] rfl rfl rfl rfl (two_of HT_.out (by kernel_rfl)) (by decide) (by decide) (fun K hK => ?_) (fun K hK => ?_)
      · skip
        refine goes_ Try.func11 (by kernel_rfl) rfl #[.agg #[.int .i64 t294, .int .i64 t295, .int .i64 t296, .int .i64 t297, .int .i64 t298, .slice Ao12 t299.length co12, .slice Ao13 t302.length co13], .slice Ao17 t306.length co17] (by rfl) rfl rfl (by (try simp only [List.map_toArray, List.map_cons, List.map_nil]); first | done | rfl | (simp only [List.length_drop, List.length_take]; rfl)) ?_
        with_reducible refine (datalink_Run.calls t294 t295 t296 t297 t298 _ _ t299 _ _ t302 _ _ t306 t309 t310 t311 t312 t313 t314 t317 t320 _ ?side1 ?side2 ?side3 ?side4 ?side5 ?side6 A5.out).mono ?_
        (case side1 => repeat (first | exact (Kd.R_reads' HO301.out).2.2 | (with_reducible refine Kd.C_alloc ?_ _) | (with_reducible refine Kd.C_drewN ?_ _) | (with_reducible refine Kd.C_drew ?_)))
        (case side2 => exact (Kd.R_reads' HO301.out).2.1)
        (case side3 => repeat (first | exact (Kd.R_reads' HO304.out).2.2 | (with_reducible refine Kd.C_alloc ?_ _) | (with_reducible refine Kd.C_drewN ?_ _) | (with_reducible refine Kd.C_drew ?_)))
        (case side4 => exact (Kd.R_reads' HO304.out).2.1)
        (case side5 => repeat (first | exact (Kd.R_reads' HO308.out).2.2 | (with_reducible refine Kd.C_alloc ?_ _) | (with_reducible refine Kd.C_drewN ?_ _) | (with_reducible refine Kd.C_drew ?_)))
        (case side6 => exact (Kd.R_reads' HO308.out).2.1)
        rintro e w18 ⟨v315, v318, v321, rfl, ho0, ho1, ho2, hb⟩
        refine ⟨_, rfl, ?_⟩
        have n0_ := Aside0.mk (Kd.R_elder' (by (with_reducible repeat (first | apply Kd.R_alloc | apply Kd.R_drewN | apply Kd.R_drew)); exact HO301.out) (Kd.R_base ho0) hb)
        have n1_ := Aside0.mk (Kd.R_mono (Kd.R_told (Kd.R_told (Kd.R_old (by (with_reducible repeat (first | apply Kd.R_alloc | apply Kd.R_drewN | apply Kd.R_drew)); exact HO304.out) hb) (Kd.R_base ho1)) (Kd.R_base ho2)) (fun _ h_ => h_.1))
        have n2_ := Aside0.mk (Kd.R_below (by (with_reducible repeat (first | apply Kd.R_alloc | apply Kd.R_drewN | apply Kd.R_drew)); exact HO308.out) hb)
        have n3_ := Aside0.mk (Kd.R_lower (Kd.R_new' ho0 (Kd.R_lt (by (with_reducible repeat (first | apply Kd.R_alloc | apply Kd.R_drewN | apply Kd.R_drew)); exact HO301.out))) (below_size (by repeat (first | (with_reducible first | exact HB.out | apply below_alloc | apply pw_below_drewN | apply below_drew1 | refine below_set ?_ GE293.out | refine below_set ?_ GE305.out) | exact HB.out))))
        have n4_ := Aside0.mk (Kd.R_lower (Kd.R_new' ho1 (Kd.R_lt (by (with_reducible repeat (first | apply Kd.R_alloc | apply Kd.R_drewN | apply Kd.R_drew)); exact HO304.out))) (below_size (by repeat (first | (with_reducible first | exact HB.out | apply below_alloc | apply pw_below_drewN | apply below_drew1 | refine below_set ?_ GE293.out | refine below_set ?_ GE305.out) | exact HB.out))))
        have n5_ := Aside0.mk (Kd.R_lower (Kd.R_new' ho2 (Kd.R_lt (by (with_reducible repeat (first | apply Kd.R_alloc | apply Kd.R_drewN | apply Kd.R_drew)); exact HO304.out))) (below_size (by repeat (first | (with_reducible first | exact HB.out | apply below_alloc | apply pw_below_drewN | apply below_drew1 | refine below_set ?_ GE293.out | refine below_set ?_ GE305.out) | exact HB.out))))
        have n6_ := Aside0.mk (blk_below (g := gb293) (o := .cells #[.int .i64 a0_0, .int .i64 a0_1, .int .i64 a0_2, .int .i64 a0_3, .int .i64 a0_4, .slice A0_5 l0_5.length c0_5, .slice A0_6 l0_6.length c0_6, .slice A0_7 l0_7.length c0_7] 24 (0, 0)) (by (with_reducible repeat (first | refine blk_drewN ?_ _ | refine blk_drew ?_ | refine blk_alloc ?_ _)); exact BK293.out) hb)
        have n7_ := Aside0.mk (blk_below (g := gb305) (o := .cells #[.int .i64 t294, .int .i64 t295, .int .i64 t296, .int .i64 t297, .int .i64 t298, .slice Ao12 t299.length co12, .slice Ao13 t302.length co13] 29 (0, 0)) (by (with_reducible repeat (first | refine blk_drewN ?_ _ | refine blk_drew ?_ | refine blk_alloc ?_ _)); exact BK305.out) hb)
        have n8_ := Aside0.mk (below_step (by repeat (first | (with_reducible first | exact HB.out | apply below_alloc | apply pw_below_drewN | apply below_drew1 | refine below_set ?_ GE293.out | refine below_set ?_ GE305.out) | exact HB.out)) hb)
        clear HO301
        clear HO304
        clear HO308
        clear BK293
        clear BK305
        clear HB
        have HO301 := n0_
        have HO304 := n1_
        have HO308 := n2_
        have HO316 := n3_
        have HO319 := n4_
        have HO322 := n5_
        have BK293 := n6_
        have BK305 := n7_
        have HB := n8_
        clear n0_ n1_ n2_ n3_ n4_ n5_ n6_ n7_ n8_
        (try clear hb)
        (try clear hb2)
        (try clear hk)
        (try clear hi)
        (try clear ho0)
        (try clear ho1)
        (try clear ho2)
        refine hK.out _ _ ⟨(blk_cell BK305.out 0).trans rfl, (blk_cell BK305.out 1).trans rfl, (blk_cell BK305.out 2).trans rfl, (blk_cell BK305.out 3).trans rfl, (blk_cell BK305.out 4).trans rfl, (blk_cell BK305.out 5).trans rfl, (blk_cell BK305.out 6).trans rfl⟩ (fun hHeld => ?_)
        clear hK K
        refine norm_ (a' := ?_) ?_ ?_
        rotate_left
        · show Act.put _ (some 17) _ = _
          simp only [Act.put, List.setIfInBounds_toArray, List.set_cons_zero, List.set_cons_succ, i64_w, i32_w]
          rfl
        refine pure_ (i := 4) (N := some 13) (v := ?_) (a' := ?_) #[true, true, true, true, true, false, false, false, false, false] rfl rfl (any_of HT_.out (by kernel_rfl)) (fun _ _ _ h => h) (Or.inl ⟨by rfl, ?_⟩) ?_ ?_
        rotate_left
        · intro w'
          go_simp
          with_reducible rfl
        rotate_left
        · simp only [Act.put, List.setIfInBounds_toArray, List.set_cons_zero, List.set_cons_succ, i64_w, i32_w]
          rfl
        refine pure_ (i := 5) (N := some 18) (v := ?_) (a' := ?_) #[true, true, true, true, true, true, false, false, false, false] rfl rfl (any_of HT_.out (by kernel_rfl)) (fun _ _ _ h => h) (Or.inl ⟨by rfl, ?_⟩) ?_ ?_
        rotate_left
        · intro w'
          go_simp
          with_reducible rfl
        rotate_left
        · simp only [Act.put, List.setIfInBounds_toArray, List.set_cons_zero, List.set_cons_succ, i64_w, i32_w]
          rfl
        refine pure_ (i := 6) (N := some 19) (v := ?_) (a' := ?_) #[true, true, true, true, true, true, true, false, false, false] rfl rfl (any_of HT_.out (by kernel_rfl)) (fun _ _ _ h => h) (Or.inl ⟨by rfl, ?_⟩) ?_ ?_
        rotate_left
        · intro w'
          go_simp
          with_reducible rfl
        rotate_left
        · simp only [Act.put, List.setIfInBounds_toArray, List.set_cons_zero, List.set_cons_succ, i64_w, i32_w]
          rfl
        refine one_ (i := 7) (N := some 6) #[true, true, true, true, true, true, true, true, false, false] rfl rfl (one_of HT_.out (by kernel_rfl)) (by decide) (fun K hK => ?_)
        refine box_step ?hg (N := 6) ?hd (cs := #[.int .i64 0, .int .i64 0, .int .i64 0, .int .i64 0, .int .i64 0, .slice none 0 0, .slice none 0 0]) (t := 29) ?hr ?_; (case hd => rfl); (case hg => rfl); (case hr => first | (go_simp; done) | (go_simp; rfl))
        intro gb323 hg w19 hbox hb
        have n0_ := Aside0.mk (Kd.R_below (by (with_reducible repeat (first | apply Kd.R_alloc | apply Kd.R_drewN | apply Kd.R_drew)); exact HO301.out) hb)
        have n1_ := Aside0.mk (Kd.R_below (by (with_reducible repeat (first | apply Kd.R_alloc | apply Kd.R_drewN | apply Kd.R_drew)); exact HO304.out) hb)
        have n2_ := Aside0.mk (Kd.R_below (by (with_reducible repeat (first | apply Kd.R_alloc | apply Kd.R_drewN | apply Kd.R_drew)); exact HO308.out) hb)
        have n3_ := Aside0.mk (Kd.R_below (by (with_reducible repeat (first | apply Kd.R_alloc | apply Kd.R_drewN | apply Kd.R_drew)); exact HO316.out) hb)
        have n4_ := Aside0.mk (Kd.R_below (by (with_reducible repeat (first | apply Kd.R_alloc | apply Kd.R_drewN | apply Kd.R_drew)); exact HO319.out) hb)
        have n5_ := Aside0.mk (Kd.R_below (by (with_reducible repeat (first | apply Kd.R_alloc | apply Kd.R_drewN | apply Kd.R_drew)); exact HO322.out) hb)
        have n6_ := Aside0.mk (blk_below (g := gb293) (o := .cells #[.int .i64 a0_0, .int .i64 a0_1, .int .i64 a0_2, .int .i64 a0_3, .int .i64 a0_4, .slice A0_5 l0_5.length c0_5, .slice A0_6 l0_6.length c0_6, .slice A0_7 l0_7.length c0_7] 24 (0, 0)) (by (with_reducible repeat (first | refine blk_drewN ?_ _ | refine blk_drew ?_ | refine blk_alloc ?_ _)); exact BK293.out) hb)
        have n7_ := Aside0.mk (blk_below (g := gb305) (o := .cells #[.int .i64 t294, .int .i64 t295, .int .i64 t296, .int .i64 t297, .int .i64 t298, .slice Ao12 t299.length co12, .slice Ao13 t302.length co13] 29 (0, 0)) (by (with_reducible repeat (first | refine blk_drewN ?_ _ | refine blk_drew ?_ | refine blk_alloc ?_ _)); exact BK305.out) hb)
        have n8_ := Aside0.mk (below_step (by repeat (first | (with_reducible first | exact HB.out | apply below_alloc | apply pw_below_drewN | apply below_drew1 | refine below_set ?_ GE293.out | refine below_set ?_ GE305.out) | exact HB.out)) hb)
        have n9_ := Aside0.mk (hbox)
        have n10_ := Aside0.mk ((by rw [hg]; exact (below_size (by repeat (first | (with_reducible first | exact HB.out | apply below_alloc | apply pw_below_drewN | apply below_drew1 | refine below_set ?_ GE293.out | refine below_set ?_ GE305.out) | exact HB.out))) : w.heap.size ≤ gb323))
        have n11_ := Aside0.mk ((by rw [hg]; exact (below_size (by repeat (first | (with_reducible first | exact HB.out | apply below_alloc | apply pw_below_drewN | apply below_drew1 | refine below_set ?_ GE293.out | refine below_set ?_ GE305.out) | exact HB.out))) : w.heap.size ≤ gb323))
        have n12_ := Aside0.mk ((by rw [hg]; exact Nat.ne_of_lt (blk_lt (g := gb293) (o := .cells #[.int .i64 a0_0, .int .i64 a0_1, .int .i64 a0_2, .int .i64 a0_3, .int .i64 a0_4, .slice A0_5 l0_5.length c0_5, .slice A0_6 l0_6.length c0_6, .slice A0_7 l0_7.length c0_7] 24 (0, 0)) (by (with_reducible repeat (first | refine blk_drewN ?_ _ | refine blk_drew ?_ | refine blk_alloc ?_ _)); exact BK293.out)) : gb293 ≠ gb323))
        have n13_ := Aside0.mk ((by rw [hg]; exact Nat.ne_of_gt (blk_lt (g := gb293) (o := .cells #[.int .i64 a0_0, .int .i64 a0_1, .int .i64 a0_2, .int .i64 a0_3, .int .i64 a0_4, .slice A0_5 l0_5.length c0_5, .slice A0_6 l0_6.length c0_6, .slice A0_7 l0_7.length c0_7] 24 (0, 0)) (by (with_reducible repeat (first | refine blk_drewN ?_ _ | refine blk_drew ?_ | refine blk_alloc ?_ _)); exact BK293.out)) : gb323 ≠ gb293))
        have n14_ := Aside0.mk ((by rw [hg]; exact Nat.ne_of_lt (blk_lt (g := gb305) (o := .cells #[.int .i64 t294, .int .i64 t295, .int .i64 t296, .int .i64 t297, .int .i64 t298, .slice Ao12 t299.length co12, .slice Ao13 t302.length co13] 29 (0, 0)) (by (with_reducible repeat (first | refine blk_drewN ?_ _ | refine blk_drew ?_ | refine blk_alloc ?_ _)); exact BK305.out)) : gb305 ≠ gb323))
        have n15_ := Aside0.mk ((by rw [hg]; exact Nat.ne_of_gt (blk_lt (g := gb305) (o := .cells #[.int .i64 t294, .int .i64 t295, .int .i64 t296, .int .i64 t297, .int .i64 t298, .slice Ao12 t299.length co12, .slice Ao13 t302.length co13] 29 (0, 0)) (by (with_reducible repeat (first | refine blk_drewN ?_ _ | refine blk_drew ?_ | refine blk_alloc ?_ _)); exact BK305.out)) : gb323 ≠ gb305))
        clear HO301
        clear HO304
        clear HO308
        clear HO316
        clear HO319
        clear HO322
        clear BK293
        clear BK305
        clear HB
        have HO301 := n0_
        have HO304 := n1_
        have HO308 := n2_
        have HO316 := n3_
        have HO319 := n4_
        have HO322 := n5_
        have BK293 := n6_
        have BK305 := n7_
        have HB := n8_
        have BK323 := n9_
        have GW323 := n10_
        have GE323 := n11_
        have NB293_323 := n12_
        have NB323_293 := n13_
        have NB305_323 := n14_
        have NB323_305 := n15_
        clear n0_ n1_ n2_ n3_ n4_ n5_ n6_ n7_ n8_ n9_ n10_ n11_ n12_ n13_ n14_ n15_
        clear hb hbox hg
        refine hK.out _ _ ⟨(blk_cell BK305.out 0).trans rfl, (blk_cell BK305.out 1).trans rfl, (blk_cell BK305.out 2).trans rfl, (blk_cell BK305.out 3).trans rfl, (blk_cell BK305.out 4).trans rfl, (blk_cell BK305.out 5).trans rfl, (blk_cell BK305.out 6).trans rfl⟩ (fun hHeld => ?_)
        clear hK K
        refine norm_ (a' := ?_) ?_ ?_
        rotate_left
        · show Act.put _ (some 6) _ = _
          simp only [Act.put, List.setIfInBounds_toArray, List.set_cons_zero, List.set_cons_succ, i64_w, i32_w]
          rfl
        exact norm_ (by simp only [putAll, Act.put, List.setIfInBounds_toArray, List.set_cons_zero, List.set_cons_succ]) (hCont (.slice Ao17 t306.length co17, v315, v318, v321, gb323) _ ⟨hHeld, (by (with_reducible repeat (first | apply Kd.R_alloc | apply Kd.R_drewN | apply Kd.R_drew)); exact Kd.R_mono HO301.out (fun _ hk => hk.2)), (by (with_reducible repeat (first | apply Kd.R_alloc | apply Kd.R_drewN | apply Kd.R_drew)); exact Kd.R_mono HO304.out (fun _ hk => ⟨hk.1.2, hk.2⟩)), (by (with_reducible repeat (first | apply Kd.R_alloc | apply Kd.R_drewN | apply Kd.R_drew)); exact HO308.out), (by (with_reducible repeat (first | apply Kd.R_alloc | apply Kd.R_drewN | apply Kd.R_drew)); exact Kd.R_mono HO316.out (fun _ hk => hk.2)), (by (with_reducible repeat (first | apply Kd.R_alloc | apply Kd.R_drewN | apply Kd.R_drew)); exact Kd.R_mono HO319.out (fun _ hk => ⟨hk.2, hk.1⟩)), (by (with_reducible repeat (first | apply Kd.R_alloc | apply Kd.R_drewN | apply Kd.R_drew)); exact Kd.R_mono HO322.out (fun _ hk => ⟨hk.2, hk.1⟩)), (by (with_reducible repeat (first | refine blk_drewN ?_ _ | refine blk_drew ?_ | refine blk_alloc ?_ _)); exact BK293.out), (by (with_reducible repeat (first | refine blk_drewN ?_ _ | refine blk_drew ?_ | refine blk_alloc ?_ _)); exact BK305.out), (by (with_reducible repeat (first | refine blk_drewN ?_ _ | refine blk_drew ?_ | refine blk_alloc ?_ _)); exact BK323.out), GW323.out, GE323.out, NB293_323.out, NB323_293.out, NB305_323.out, NB323_305.out, (by repeat (first | (with_reducible first | exact HB.out | apply below_alloc | apply pw_below_drewN | apply below_drew1 | refine below_set ?_ GE293.out | refine below_set ?_ GE305.out | refine below_set ?_ GE323.out) | exact HB.out))⟩)
      · skip
        refine box_step ?hg (N := 6) ?hd (cs := #[.int .i64 0, .int .i64 0, .int .i64 0, .int .i64 0, .int .i64 0, .slice none 0 0, .slice none 0 0]) (t := 29) ?hr ?_; (case hd => rfl); (case hg => rfl); (case hr => first | (go_simp; done) | (go_simp; rfl))
        intro gb323 hg w17 hbox hb
        have n0_ := Aside0.mk (Kd.R_below (by (with_reducible repeat (first | apply Kd.R_alloc | apply Kd.R_drewN | apply Kd.R_drew)); exact HO301.out) hb)
        have n1_ := Aside0.mk (Kd.R_below (by (with_reducible repeat (first | apply Kd.R_alloc | apply Kd.R_drewN | apply Kd.R_drew)); exact HO304.out) hb)
        have n2_ := Aside0.mk (Kd.R_below (by (with_reducible repeat (first | apply Kd.R_alloc | apply Kd.R_drewN | apply Kd.R_drew)); exact HO308.out) hb)
        have n3_ := Aside0.mk (blk_below (g := gb293) (o := .cells #[.int .i64 a0_0, .int .i64 a0_1, .int .i64 a0_2, .int .i64 a0_3, .int .i64 a0_4, .slice A0_5 l0_5.length c0_5, .slice A0_6 l0_6.length c0_6, .slice A0_7 l0_7.length c0_7] 24 (0, 0)) (by (with_reducible repeat (first | refine blk_drewN ?_ _ | refine blk_drew ?_ | refine blk_alloc ?_ _)); exact BK293.out) hb)
        have n4_ := Aside0.mk (blk_below (g := gb305) (o := .cells #[.int .i64 t294, .int .i64 t295, .int .i64 t296, .int .i64 t297, .int .i64 t298, .slice Ao12 t299.length co12, .slice Ao13 t302.length co13] 29 (0, 0)) (by (with_reducible repeat (first | refine blk_drewN ?_ _ | refine blk_drew ?_ | refine blk_alloc ?_ _)); exact BK305.out) hb)
        have n5_ := Aside0.mk (below_step (by repeat (first | (with_reducible first | exact HB.out | apply below_alloc | apply pw_below_drewN | apply below_drew1 | refine below_set ?_ GE293.out | refine below_set ?_ GE305.out) | exact HB.out)) hb)
        have n6_ := Aside0.mk (hbox)
        have n7_ := Aside0.mk ((by rw [hg]; exact (below_size (by repeat (first | (with_reducible first | exact HB.out | apply below_alloc | apply pw_below_drewN | apply below_drew1 | refine below_set ?_ GE293.out | refine below_set ?_ GE305.out) | exact HB.out))) : w.heap.size ≤ gb323))
        have n8_ := Aside0.mk ((by rw [hg]; exact (below_size (by repeat (first | (with_reducible first | exact HB.out | apply below_alloc | apply pw_below_drewN | apply below_drew1 | refine below_set ?_ GE293.out | refine below_set ?_ GE305.out) | exact HB.out))) : w.heap.size ≤ gb323))
        have n9_ := Aside0.mk ((by rw [hg]; exact Nat.ne_of_lt (blk_lt (g := gb293) (o := .cells #[.int .i64 a0_0, .int .i64 a0_1, .int .i64 a0_2, .int .i64 a0_3, .int .i64 a0_4, .slice A0_5 l0_5.length c0_5, .slice A0_6 l0_6.length c0_6, .slice A0_7 l0_7.length c0_7] 24 (0, 0)) (by (with_reducible repeat (first | refine blk_drewN ?_ _ | refine blk_drew ?_ | refine blk_alloc ?_ _)); exact BK293.out)) : gb293 ≠ gb323))
        have n10_ := Aside0.mk ((by rw [hg]; exact Nat.ne_of_gt (blk_lt (g := gb293) (o := .cells #[.int .i64 a0_0, .int .i64 a0_1, .int .i64 a0_2, .int .i64 a0_3, .int .i64 a0_4, .slice A0_5 l0_5.length c0_5, .slice A0_6 l0_6.length c0_6, .slice A0_7 l0_7.length c0_7] 24 (0, 0)) (by (with_reducible repeat (first | refine blk_drewN ?_ _ | refine blk_drew ?_ | refine blk_alloc ?_ _)); exact BK293.out)) : gb323 ≠ gb293))
        have n11_ := Aside0.mk ((by rw [hg]; exact Nat.ne_of_lt (blk_lt (g := gb305) (o := .cells #[.int .i64 t294, .int .i64 t295, .int .i64 t296, .int .i64 t297, .int .i64 t298, .slice Ao12 t299.length co12, .slice Ao13 t302.length co13] 29 (0, 0)) (by (with_reducible repeat (first | refine blk_drewN ?_ _ | refine blk_drew ?_ | refine blk_alloc ?_ _)); exact BK305.out)) : gb305 ≠ gb323))
        have n12_ := Aside0.mk ((by rw [hg]; exact Nat.ne_of_gt (blk_lt (g := gb305) (o := .cells #[.int .i64 t294, .int .i64 t295, .int .i64 t296, .int .i64 t297, .int .i64 t298, .slice Ao12 t299.length co12, .slice Ao13 t302.length co13] 29 (0, 0)) (by (with_reducible repeat (first | refine blk_drewN ?_ _ | refine blk_drew ?_ | refine blk_alloc ?_ _)); exact BK305.out)) : gb323 ≠ gb305))
        clear HO301
        clear HO304
        clear HO308
        clear BK293
        clear BK305
        clear HB
        have HO301 := n0_
        have HO304 := n1_
        have HO308 := n2_
        have BK293 := n3_
        have BK305 := n4_
        have HB := n5_
        have BK323 := n6_
        have GW323 := n7_
        have GE323 := n8_
        have NB293_323 := n9_
        have NB323_293 := n10_
        have NB305_323 := n11_
        have NB323_305 := n12_
        clear n0_ n1_ n2_ n3_ n4_ n5_ n6_ n7_ n8_ n9_ n10_ n11_ n12_
        clear hb hbox hg
        obtain ⟨Ao18, co18, eo18⟩ := Kd.R_slice HO308.out
        (first | subst eo18 | (injection eo18 with f1_ f2_ f3_; have f4_ := f1_.symm; have f5_ := f3_.symm; clear f1_ f2_ f3_; subst f4_; subst f5_))
        refine hK.out _ _ ⟨(blk_cell BK305.out 0).trans rfl, (blk_cell BK305.out 1).trans rfl, (blk_cell BK305.out 2).trans rfl, (blk_cell BK305.out 3).trans rfl, (blk_cell BK305.out 4).trans rfl, (blk_cell BK305.out 5).trans rfl, (blk_cell BK305.out 6).trans rfl⟩ (fun hHeld => ?_)
        clear hK K
        refine norm_ (a' := ?_) ?_ ?_
        rotate_left
        · show Act.put _ (some 6) _ = _
          simp only [Act.put, List.setIfInBounds_toArray, List.set_cons_zero, List.set_cons_succ, i64_w, i32_w]
          rfl
        refine one_ (i := 3) (N := some 17) #[true, true, true, true, false, false, false, true, false, false] rfl rfl (one_of HT_.out (by kernel_rfl)) (by decide) (fun K hK => ?_)
        refine goes_ Try.func11 (by kernel_rfl) rfl #[.agg #[.int .i64 t294, .int .i64 t295, .int .i64 t296, .int .i64 t297, .int .i64 t298, .slice Ao12 t299.length co12, .slice Ao13 t302.length co13], .slice Ao18 t306.length co18] (by rfl) rfl rfl (by (try simp only [List.map_toArray, List.map_cons, List.map_nil]); first | done | rfl | (simp only [List.length_drop, List.length_take]; rfl)) ?_
        with_reducible refine (datalink_Run.calls t294 t295 t296 t297 t298 _ _ t299 _ _ t302 _ _ t306 t309 t310 t311 t312 t313 t314 t317 t320 _ ?side1 ?side2 ?side3 ?side4 ?side5 ?side6 A5.out).mono ?_
        (case side1 => repeat (first | exact (Kd.R_reads' HO301.out).2.2 | (with_reducible refine Kd.C_alloc ?_ _) | (with_reducible refine Kd.C_drewN ?_ _) | (with_reducible refine Kd.C_drew ?_)))
        (case side2 => exact (Kd.R_reads' HO301.out).2.1)
        (case side3 => repeat (first | exact (Kd.R_reads' HO304.out).2.2 | (with_reducible refine Kd.C_alloc ?_ _) | (with_reducible refine Kd.C_drewN ?_ _) | (with_reducible refine Kd.C_drew ?_)))
        (case side4 => exact (Kd.R_reads' HO304.out).2.1)
        (case side5 => repeat (first | exact (Kd.R_reads' HO308.out).2.2 | (with_reducible refine Kd.C_alloc ?_ _) | (with_reducible refine Kd.C_drewN ?_ _) | (with_reducible refine Kd.C_drew ?_)))
        (case side6 => exact (Kd.R_reads' HO308.out).2.1)
        rintro e w19 ⟨v315, v318, v321, rfl, ho0, ho1, ho2, hb⟩
        refine ⟨_, rfl, ?_⟩
        have n0_ := Aside0.mk (Kd.R_elder' (by (with_reducible repeat (first | apply Kd.R_alloc | apply Kd.R_drewN | apply Kd.R_drew)); exact HO301.out) (Kd.R_base ho0) hb)
        have n1_ := Aside0.mk (Kd.R_mono (Kd.R_told (Kd.R_told (Kd.R_old (by (with_reducible repeat (first | apply Kd.R_alloc | apply Kd.R_drewN | apply Kd.R_drew)); exact HO304.out) hb) (Kd.R_base ho1)) (Kd.R_base ho2)) (fun _ h_ => h_.1))
        have n2_ := Aside0.mk (Kd.R_below (by (with_reducible repeat (first | apply Kd.R_alloc | apply Kd.R_drewN | apply Kd.R_drew)); exact HO308.out) hb)
        have n3_ := Aside0.mk (Kd.R_lower (Kd.R_new' ho0 (Kd.R_lt (by (with_reducible repeat (first | apply Kd.R_alloc | apply Kd.R_drewN | apply Kd.R_drew)); exact HO301.out))) (below_size (by repeat (first | (with_reducible first | exact HB.out | apply below_alloc | apply pw_below_drewN | apply below_drew1 | refine below_set ?_ GE293.out | refine below_set ?_ GE305.out | refine below_set ?_ GE323.out) | exact HB.out))))
        have n4_ := Aside0.mk (Kd.R_lower (Kd.R_new' ho1 (Kd.R_lt (by (with_reducible repeat (first | apply Kd.R_alloc | apply Kd.R_drewN | apply Kd.R_drew)); exact HO304.out))) (below_size (by repeat (first | (with_reducible first | exact HB.out | apply below_alloc | apply pw_below_drewN | apply below_drew1 | refine below_set ?_ GE293.out | refine below_set ?_ GE305.out | refine below_set ?_ GE323.out) | exact HB.out))))
        have n5_ := Aside0.mk (Kd.R_lower (Kd.R_new' ho2 (Kd.R_lt (by (with_reducible repeat (first | apply Kd.R_alloc | apply Kd.R_drewN | apply Kd.R_drew)); exact HO304.out))) (below_size (by repeat (first | (with_reducible first | exact HB.out | apply below_alloc | apply pw_below_drewN | apply below_drew1 | refine below_set ?_ GE293.out | refine below_set ?_ GE305.out | refine below_set ?_ GE323.out) | exact HB.out))))
        have n6_ := Aside0.mk (blk_below (g := gb293) (o := .cells #[.int .i64 a0_0, .int .i64 a0_1, .int .i64 a0_2, .int .i64 a0_3, .int .i64 a0_4, .slice A0_5 l0_5.length c0_5, .slice A0_6 l0_6.length c0_6, .slice A0_7 l0_7.length c0_7] 24 (0, 0)) (by (with_reducible repeat (first | refine blk_drewN ?_ _ | refine blk_drew ?_ | refine blk_alloc ?_ _)); exact BK293.out) hb)
        have n7_ := Aside0.mk (blk_below (g := gb305) (o := .cells #[.int .i64 t294, .int .i64 t295, .int .i64 t296, .int .i64 t297, .int .i64 t298, .slice Ao12 t299.length co12, .slice Ao13 t302.length co13] 29 (0, 0)) (by (with_reducible repeat (first | refine blk_drewN ?_ _ | refine blk_drew ?_ | refine blk_alloc ?_ _)); exact BK305.out) hb)
        have n8_ := Aside0.mk (blk_below (g := gb323) (o := .cells #[.int .i64 0, .int .i64 0, .int .i64 0, .int .i64 0, .int .i64 0, .slice none 0 0, .slice none 0 0] 29 (0, 0)) (by (with_reducible repeat (first | refine blk_drewN ?_ _ | refine blk_drew ?_ | refine blk_alloc ?_ _)); exact BK323.out) hb)
        have n9_ := Aside0.mk (below_step (by repeat (first | (with_reducible first | exact HB.out | apply below_alloc | apply pw_below_drewN | apply below_drew1 | refine below_set ?_ GE293.out | refine below_set ?_ GE305.out | refine below_set ?_ GE323.out) | exact HB.out)) hb)
        clear HO301
        clear HO304
        clear HO308
        clear BK293
        clear BK305
        clear BK323
        clear HB
        have HO301 := n0_
        have HO304 := n1_
        have HO308 := n2_
        have HO316 := n3_
        have HO319 := n4_
        have HO322 := n5_
        have BK293 := n6_
        have BK305 := n7_
        have BK323 := n8_
        have HB := n9_
        clear n0_ n1_ n2_ n3_ n4_ n5_ n6_ n7_ n8_ n9_
        (try clear hb)
        (try clear hb2)
        (try clear hk)
        (try clear hi)
        (try clear ho0)
        (try clear ho1)
        (try clear ho2)
        refine hK.out _ _ ⟨(blk_cell BK305.out 0).trans rfl, (blk_cell BK305.out 1).trans rfl, (blk_cell BK305.out 2).trans rfl, (blk_cell BK305.out 3).trans rfl, (blk_cell BK305.out 4).trans rfl, (blk_cell BK305.out 5).trans rfl, (blk_cell BK305.out 6).trans rfl⟩ (fun hHeld => ?_)
        clear hK K
        refine norm_ (a' := ?_) ?_ ?_
        rotate_left
        · show Act.put _ (some 17) _ = _
          simp only [Act.put, List.setIfInBounds_toArray, List.set_cons_zero, List.set_cons_succ, i64_w, i32_w]
          rfl
        refine pure_ (i := 4) (N := some 13) (v := ?_) (a' := ?_) #[true, true, true, true, true, false, false, true, false, false] rfl rfl (any_of HT_.out (by kernel_rfl)) (fun _ _ _ h => h) (Or.inl ⟨by rfl, ?_⟩) ?_ ?_
        rotate_left
        · intro w'
          go_simp
          with_reducible rfl
        rotate_left
        · simp only [Act.put, List.setIfInBounds_toArray, List.set_cons_zero, List.set_cons_succ, i64_w, i32_w]
          rfl
        refine pure_ (i := 5) (N := some 18) (v := ?_) (a' := ?_) #[true, true, true, true, true, true, false, true, false, false] rfl rfl (any_of HT_.out (by kernel_rfl)) (fun _ _ _ h => h) (Or.inl ⟨by rfl, ?_⟩) ?_ ?_
        rotate_left
        · intro w'
          go_simp
          with_reducible rfl
        rotate_left
        · simp only [Act.put, List.setIfInBounds_toArray, List.set_cons_zero, List.set_cons_succ, i64_w, i32_w]
          rfl
        refine pure_ (i := 6) (N := some 19) (v := ?_) (a' := ?_) #[true, true, true, true, true, true, true, true, false, false] rfl rfl (any_of HT_.out (by kernel_rfl)) (fun _ _ _ h => h) (Or.inl ⟨by rfl, ?_⟩) ?_ ?_
        rotate_left
        · intro w'
          go_simp
          with_reducible rfl
        rotate_left
        · simp only [Act.put, List.setIfInBounds_toArray, List.set_cons_zero, List.set_cons_succ, i64_w, i32_w]
          rfl
        exact norm_ (by simp only [putAll, Act.put, List.setIfInBounds_toArray, List.set_cons_zero, List.set_cons_succ]) (hCont (.slice Ao18 t306.length co18, v315, v318, v321, gb323) _ ⟨hHeld, (by (with_reducible repeat (first | apply Kd.R_alloc | apply Kd.R_drewN | apply Kd.R_drew)); exact Kd.R_mono HO301.out (fun _ hk => hk.2)), (by (with_reducible repeat (first | apply Kd.R_alloc | apply Kd.R_drewN | apply Kd.R_drew)); exact Kd.R_mono HO304.out (fun _ hk => ⟨hk.1.2, hk.2⟩)), (by (with_reducible repeat (first | apply Kd.R_alloc | apply Kd.R_drewN | apply Kd.R_drew)); exact HO308.out), (by (with_reducible repeat (first | apply Kd.R_alloc | apply Kd.R_drewN | apply Kd.R_drew)); exact Kd.R_mono HO316.out (fun _ hk => hk.2)), (by (with_reducible repeat (first | apply Kd.R_alloc | apply Kd.R_drewN | apply Kd.R_drew)); exact Kd.R_mono HO319.out (fun _ hk => ⟨hk.2, hk.1⟩)), (by (with_reducible repeat (first | apply Kd.R_alloc | apply Kd.R_drewN | apply Kd.R_drew)); exact Kd.R_mono HO322.out (fun _ hk => ⟨hk.2, hk.1⟩)), (by (with_reducible repeat (first | refine blk_drewN ?_ _ | refine blk_drew ?_ | refine blk_alloc ?_ _)); exact BK293.out), (by (with_reducible repeat (first | refine blk_drewN ?_ _ | refine blk_drew ?_ | refine blk_alloc ?_ _)); exact BK305.out), (by (with_reducible repeat (first | refine blk_drewN ?_ _ | refine blk_drew ?_ | refine blk_alloc ?_ _)); exact BK323.out), GW323.out, GE323.out, NB293_323.out, NB323_293.out, NB305_323.out, NB323_305.out, (by repeat (first | (with_reducible first | exact HB.out | apply below_alloc | apply pw_below_drewN | apply below_drew1 | refine below_set ?_ GE293.out | refine below_set ?_ GE305.out | refine below_set ?_ GE323.out) | exact HB.out))⟩)
    · skip
      refine box_step ?hg (N := 6) ?hd (cs := #[.int .i64 0, .int .i64 0, .int .i64 0, .int .i64 0, .int .i64 0, .slice none 0 0, .slice none 0 0]) (t := 29) ?hr ?_; (case hd => rfl); (case hg => rfl); (case hr => first | (go_simp; done) | (go_simp; rfl))
      intro gb323 hg w16 hbox hb
      have n0_ := Aside0.mk (Kd.R_below (by (with_reducible repeat (first | apply Kd.R_alloc | apply Kd.R_drewN | apply Kd.R_drew)); exact HO301.out) hb)
      have n1_ := Aside0.mk (Kd.R_below (by (with_reducible repeat (first | apply Kd.R_alloc | apply Kd.R_drewN | apply Kd.R_drew)); exact HO304.out) hb)
      have n2_ := Aside0.mk (blk_below (g := gb293) (o := .cells #[.int .i64 a0_0, .int .i64 a0_1, .int .i64 a0_2, .int .i64 a0_3, .int .i64 a0_4, .slice A0_5 l0_5.length c0_5, .slice A0_6 l0_6.length c0_6, .slice A0_7 l0_7.length c0_7] 24 (0, 0)) (by (with_reducible repeat (first | refine blk_drewN ?_ _ | refine blk_drew ?_ | refine blk_alloc ?_ _)); exact BK293.out) hb)
      have n3_ := Aside0.mk (blk_below (g := gb305) (o := .cells #[.int .i64 t294, .int .i64 t295, .int .i64 t296, .int .i64 t297, .int .i64 t298, .slice Ao12 t299.length co12, .slice Ao13 t302.length co13] 29 (0, 0)) (by (with_reducible repeat (first | refine blk_drewN ?_ _ | refine blk_drew ?_ | refine blk_alloc ?_ _)); exact BK305.out) hb)
      have n4_ := Aside0.mk (below_step (by repeat (first | (with_reducible first | exact HB.out | apply below_alloc | apply pw_below_drewN | apply below_drew1 | refine below_set ?_ GE293.out | refine below_set ?_ GE305.out) | exact HB.out)) hb)
      have n5_ := Aside0.mk (hbox)
      have n6_ := Aside0.mk ((by rw [hg]; exact (below_size (by repeat (first | (with_reducible first | exact HB.out | apply below_alloc | apply pw_below_drewN | apply below_drew1 | refine below_set ?_ GE293.out | refine below_set ?_ GE305.out) | exact HB.out))) : w.heap.size ≤ gb323))
      have n7_ := Aside0.mk ((by rw [hg]; exact (below_size (by repeat (first | (with_reducible first | exact HB.out | apply below_alloc | apply pw_below_drewN | apply below_drew1 | refine below_set ?_ GE293.out | refine below_set ?_ GE305.out) | exact HB.out))) : w.heap.size ≤ gb323))
      have n8_ := Aside0.mk ((by rw [hg]; exact Nat.ne_of_lt (blk_lt (g := gb293) (o := .cells #[.int .i64 a0_0, .int .i64 a0_1, .int .i64 a0_2, .int .i64 a0_3, .int .i64 a0_4, .slice A0_5 l0_5.length c0_5, .slice A0_6 l0_6.length c0_6, .slice A0_7 l0_7.length c0_7] 24 (0, 0)) (by (with_reducible repeat (first | refine blk_drewN ?_ _ | refine blk_drew ?_ | refine blk_alloc ?_ _)); exact BK293.out)) : gb293 ≠ gb323))
      have n9_ := Aside0.mk ((by rw [hg]; exact Nat.ne_of_gt (blk_lt (g := gb293) (o := .cells #[.int .i64 a0_0, .int .i64 a0_1, .int .i64 a0_2, .int .i64 a0_3, .int .i64 a0_4, .slice A0_5 l0_5.length c0_5, .slice A0_6 l0_6.length c0_6, .slice A0_7 l0_7.length c0_7] 24 (0, 0)) (by (with_reducible repeat (first | refine blk_drewN ?_ _ | refine blk_drew ?_ | refine blk_alloc ?_ _)); exact BK293.out)) : gb323 ≠ gb293))
      have n10_ := Aside0.mk ((by rw [hg]; exact Nat.ne_of_lt (blk_lt (g := gb305) (o := .cells #[.int .i64 t294, .int .i64 t295, .int .i64 t296, .int .i64 t297, .int .i64 t298, .slice Ao12 t299.length co12, .slice Ao13 t302.length co13] 29 (0, 0)) (by (with_reducible repeat (first | refine blk_drewN ?_ _ | refine blk_drew ?_ | refine blk_alloc ?_ _)); exact BK305.out)) : gb305 ≠ gb323))
      have n11_ := Aside0.mk ((by rw [hg]; exact Nat.ne_of_gt (blk_lt (g := gb305) (o := .cells #[.int .i64 t294, .int .i64 t295, .int .i64 t296, .int .i64 t297, .int .i64 t298, .slice Ao12 t299.length co12, .slice Ao13 t302.length co13] 29 (0, 0)) (by (with_reducible repeat (first | refine blk_drewN ?_ _ | refine blk_drew ?_ | refine blk_alloc ?_ _)); exact BK305.out)) : gb323 ≠ gb305))
      clear HO301
      clear HO304
      clear BK293
      clear BK305
      clear HB
      have HO301 := n0_
      have HO304 := n1_
      have BK293 := n2_
      have BK305 := n3_
      have HB := n4_
      have BK323 := n5_
      have GW323 := n6_
      have GE323 := n7_
      have NB293_323 := n8_
      have NB323_293 := n9_
      have NB305_323 := n10_
      have NB323_305 := n11_
      clear n0_ n1_ n2_ n3_ n4_ n5_ n6_ n7_ n8_ n9_ n10_ n11_
      clear hb hbox hg
      refine hK.out _ _ ⟨(blk_cell BK305.out 0).trans rfl, (blk_cell BK305.out 1).trans rfl, (blk_cell BK305.out 2).trans rfl, (blk_cell BK305.out 3).trans rfl, (blk_cell BK305.out 4).trans rfl, (blk_cell BK305.out 5).trans rfl, (blk_cell BK305.out 6).trans rfl⟩ (fun hHeld => ?_)
      clear hK K
      refine norm_ (a' := ?_) ?_ ?_
      rotate_left
      · show Act.put _ (some 6) _ = _
        simp only [Act.put, List.setIfInBounds_toArray, List.set_cons_zero, List.set_cons_succ, i64_w, i32_w]
        rfl
      refine one_ (i := 2) (N := some 16) #[true, true, true, false, false, false, false, true, false, false] rfl rfl (one_of HT_.out (by kernel_rfl)) (by decide) (fun K hK => ?_)
      refine goes_ Try.func13 (by kernel_rfl) rfl #[.slice A1 l1.length c1, .int .i64 250] (by rfl) rfl rfl (by (try simp only [List.map_toArray, List.map_cons, List.map_nil]); first | done | rfl | (simp only [List.length_drop, List.length_take]; rfl)) ?_
      with_reducible refine (selfstablaw42_events.calls k _ _ l1 250 t306 _ ?side1 ?side2 A4.out).mono ?_
      (case side1 => repeat (first | exact (Kd.C_below HR1.out HB.out) | (with_reducible refine Kd.C_alloc ?_ _) | (with_reducible refine Kd.C_drewN ?_ _) | (with_reducible refine Kd.C_drew ?_)))
      (case side2 => exact HC1.out)
      rintro e w17 ⟨v307, rfl, ho0, hb⟩
      refine ⟨_, rfl, ?_⟩
      have n0_ := Aside0.mk (Kd.R_below (by (with_reducible repeat (first | apply Kd.R_alloc | apply Kd.R_drewN | apply Kd.R_drew)); exact HO301.out) hb)
      have n1_ := Aside0.mk (Kd.R_below (by (with_reducible repeat (first | apply Kd.R_alloc | apply Kd.R_drewN | apply Kd.R_drew)); exact HO304.out) hb)
      have n2_ := Aside0.mk (Kd.R_lower ho0 (below_size (by repeat (first | (with_reducible first | exact HB.out | apply below_alloc | apply pw_below_drewN | apply below_drew1 | refine below_set ?_ GE293.out | refine below_set ?_ GE305.out | refine below_set ?_ GE323.out) | exact HB.out))))
      have n3_ := Aside0.mk (blk_below (g := gb293) (o := .cells #[.int .i64 a0_0, .int .i64 a0_1, .int .i64 a0_2, .int .i64 a0_3, .int .i64 a0_4, .slice A0_5 l0_5.length c0_5, .slice A0_6 l0_6.length c0_6, .slice A0_7 l0_7.length c0_7] 24 (0, 0)) (by (with_reducible repeat (first | refine blk_drewN ?_ _ | refine blk_drew ?_ | refine blk_alloc ?_ _)); exact BK293.out) hb)
      have n4_ := Aside0.mk (blk_below (g := gb305) (o := .cells #[.int .i64 t294, .int .i64 t295, .int .i64 t296, .int .i64 t297, .int .i64 t298, .slice Ao12 t299.length co12, .slice Ao13 t302.length co13] 29 (0, 0)) (by (with_reducible repeat (first | refine blk_drewN ?_ _ | refine blk_drew ?_ | refine blk_alloc ?_ _)); exact BK305.out) hb)
      have n5_ := Aside0.mk (blk_below (g := gb323) (o := .cells #[.int .i64 0, .int .i64 0, .int .i64 0, .int .i64 0, .int .i64 0, .slice none 0 0, .slice none 0 0] 29 (0, 0)) (by (with_reducible repeat (first | refine blk_drewN ?_ _ | refine blk_drew ?_ | refine blk_alloc ?_ _)); exact BK323.out) hb)
      have n6_ := Aside0.mk (below_step (by repeat (first | (with_reducible first | exact HB.out | apply below_alloc | apply pw_below_drewN | apply below_drew1 | refine below_set ?_ GE293.out | refine below_set ?_ GE305.out | refine below_set ?_ GE323.out) | exact HB.out)) hb)
      clear HO301
      clear HO304
      clear BK293
      clear BK305
      clear BK323
      clear HB
      have HO301 := n0_
      have HO304 := n1_
      have HO308 := n2_
      have BK293 := n3_
      have BK305 := n4_
      have BK323 := n5_
      have HB := n6_
      clear n0_ n1_ n2_ n3_ n4_ n5_ n6_
      (try clear hb)
      (try clear hb2)
      (try clear hk)
      (try clear hi)
      (try clear ho0)
      obtain ⟨Ao18, co18, eo18⟩ := Kd.R_slice HO308.out
      (first | subst eo18 | (injection eo18 with f1_ f2_ f3_; have f4_ := f1_.symm; have f5_ := f3_.symm; clear f1_ f2_ f3_; subst f4_; subst f5_))
      refine hK.out _ _ ⟨(blk_cell BK305.out 0).trans rfl, (blk_cell BK305.out 1).trans rfl, (blk_cell BK305.out 2).trans rfl, (blk_cell BK305.out 3).trans rfl, (blk_cell BK305.out 4).trans rfl, (blk_cell BK305.out 5).trans rfl, (blk_cell BK305.out 6).trans rfl⟩ (fun hHeld => ?_)
      clear hK K
      refine norm_ (a' := ?_) ?_ ?_
      rotate_left
      · show Act.put _ (some 16) _ = _
        simp only [Act.put, List.setIfInBounds_toArray, List.set_cons_zero, List.set_cons_succ, i64_w, i32_w]
        rfl
      refine one_ (i := 3) (N := some 17) #[true, true, true, true, false, false, false, true, false, false] rfl rfl (one_of HT_.out (by kernel_rfl)) (by decide) (fun K hK => ?_)
      refine goes_ Try.func11 (by kernel_rfl) rfl #[.agg #[.int .i64 t294, .int .i64 t295, .int .i64 t296, .int .i64 t297, .int .i64 t298, .slice Ao12 t299.length co12, .slice Ao13 t302.length co13], .slice Ao18 t306.length co18] (by rfl) rfl rfl (by (try simp only [List.map_toArray, List.map_cons, List.map_nil]); first | done | rfl | (simp only [List.length_drop, List.length_take]; rfl)) ?_
      with_reducible refine (datalink_Run.calls t294 t295 t296 t297 t298 _ _ t299 _ _ t302 _ _ t306 t309 t310 t311 t312 t313 t314 t317 t320 _ ?side1 ?side2 ?side3 ?side4 ?side5 ?side6 A5.out).mono ?_
      (case side1 => repeat (first | exact (Kd.R_reads' HO301.out).2.2 | (with_reducible refine Kd.C_alloc ?_ _) | (with_reducible refine Kd.C_drewN ?_ _) | (with_reducible refine Kd.C_drew ?_)))
      (case side2 => exact (Kd.R_reads' HO301.out).2.1)
      (case side3 => repeat (first | exact (Kd.R_reads' HO304.out).2.2 | (with_reducible refine Kd.C_alloc ?_ _) | (with_reducible refine Kd.C_drewN ?_ _) | (with_reducible refine Kd.C_drew ?_)))
      (case side4 => exact (Kd.R_reads' HO304.out).2.1)
      (case side5 => repeat (first | exact (Kd.R_reads' HO308.out).2.2 | (with_reducible refine Kd.C_alloc ?_ _) | (with_reducible refine Kd.C_drewN ?_ _) | (with_reducible refine Kd.C_drew ?_)))
      (case side6 => exact (Kd.R_reads' HO308.out).2.1)
      rintro e w19 ⟨v315, v318, v321, rfl, ho0, ho1, ho2, hb⟩
      refine ⟨_, rfl, ?_⟩
      have n0_ := Aside0.mk (Kd.R_elder' (by (with_reducible repeat (first | apply Kd.R_alloc | apply Kd.R_drewN | apply Kd.R_drew)); exact HO301.out) (Kd.R_base ho0) hb)
      have n1_ := Aside0.mk (Kd.R_mono (Kd.R_told (Kd.R_told (Kd.R_old (by (with_reducible repeat (first | apply Kd.R_alloc | apply Kd.R_drewN | apply Kd.R_drew)); exact HO304.out) hb) (Kd.R_base ho1)) (Kd.R_base ho2)) (fun _ h_ => h_.1))
      have n2_ := Aside0.mk (Kd.R_below (by (with_reducible repeat (first | apply Kd.R_alloc | apply Kd.R_drewN | apply Kd.R_drew)); exact HO308.out) hb)
      have n3_ := Aside0.mk (Kd.R_lower (Kd.R_new' ho0 (Kd.R_lt (by (with_reducible repeat (first | apply Kd.R_alloc | apply Kd.R_drewN | apply Kd.R_drew)); exact HO301.out))) (below_size (by repeat (first | (with_reducible first | exact HB.out | apply below_alloc | apply pw_below_drewN | apply below_drew1 | refine below_set ?_ GE293.out | refine below_set ?_ GE305.out | refine below_set ?_ GE323.out) | exact HB.out))))
      have n4_ := Aside0.mk (Kd.R_lower (Kd.R_new' ho1 (Kd.R_lt (by (with_reducible repeat (first | apply Kd.R_alloc | apply Kd.R_drewN | apply Kd.R_drew)); exact HO304.out))) (below_size (by repeat (first | (with_reducible first | exact HB.out | apply below_alloc | apply pw_below_drewN | apply below_drew1 | refine below_set ?_ GE293.out | refine below_set ?_ GE305.out | refine below_set ?_ GE323.out) | exact HB.out))))
      have n5_ := Aside0.mk (Kd.R_lower (Kd.R_new' ho2 (Kd.R_lt (by (with_reducible repeat (first | apply Kd.R_alloc | apply Kd.R_drewN | apply Kd.R_drew)); exact HO304.out))) (below_size (by repeat (first | (with_reducible first | exact HB.out | apply below_alloc | apply pw_below_drewN | apply below_drew1 | refine below_set ?_ GE293.out | refine below_set ?_ GE305.out | refine below_set ?_ GE323.out) | exact HB.out))))
      have n6_ := Aside0.mk (blk_below (g := gb293) (o := .cells #[.int .i64 a0_0, .int .i64 a0_1, .int .i64 a0_2, .int .i64 a0_3, .int .i64 a0_4, .slice A0_5 l0_5.length c0_5, .slice A0_6 l0_6.length c0_6, .slice A0_7 l0_7.length c0_7] 24 (0, 0)) (by (with_reducible repeat (first | refine blk_drewN ?_ _ | refine blk_drew ?_ | refine blk_alloc ?_ _)); exact BK293.out) hb)
      have n7_ := Aside0.mk (blk_below (g := gb305) (o := .cells #[.int .i64 t294, .int .i64 t295, .int .i64 t296, .int .i64 t297, .int .i64 t298, .slice Ao12 t299.length co12, .slice Ao13 t302.length co13] 29 (0, 0)) (by (with_reducible repeat (first | refine blk_drewN ?_ _ | refine blk_drew ?_ | refine blk_alloc ?_ _)); exact BK305.out) hb)
      have n8_ := Aside0.mk (blk_below (g := gb323) (o := .cells #[.int .i64 0, .int .i64 0, .int .i64 0, .int .i64 0, .int .i64 0, .slice none 0 0, .slice none 0 0] 29 (0, 0)) (by (with_reducible repeat (first | refine blk_drewN ?_ _ | refine blk_drew ?_ | refine blk_alloc ?_ _)); exact BK323.out) hb)
      have n9_ := Aside0.mk (below_step (by repeat (first | (with_reducible first | exact HB.out | apply below_alloc | apply pw_below_drewN | apply below_drew1 | refine below_set ?_ GE293.out | refine below_set ?_ GE305.out | refine below_set ?_ GE323.out) | exact HB.out)) hb)
      clear HO301
      clear HO304
      clear HO308
      clear BK293
      clear BK305
      clear BK323
      clear HB
      have HO301 := n0_
      have HO304 := n1_
      have HO308 := n2_
      have HO316 := n3_
      have HO319 := n4_
      have HO322 := n5_
      have BK293 := n6_
      have BK305 := n7_
      have BK323 := n8_
      have HB := n9_
      clear n0_ n1_ n2_ n3_ n4_ n5_ n6_ n7_ n8_ n9_
      (try clear hb)
      (try clear hb2)
      (try clear hk)
      (try clear hi)
      (try clear ho0)
      (try clear ho1)
      (try clear ho2)
      refine hK.out _ _ ⟨(blk_cell BK305.out 0).trans rfl, (blk_cell BK305.out 1).trans rfl, (blk_cell BK305.out 2).trans rfl, (blk_cell BK305.out 3).trans rfl, (blk_cell BK305.out 4).trans rfl, (blk_cell BK305.out 5).trans rfl, (blk_cell BK305.out 6).trans rfl⟩ (fun hHeld => ?_)
      clear hK K
      refine norm_ (a' := ?_) ?_ ?_
      rotate_left
      · show Act.put _ (some 17) _ = _
        simp only [Act.put, List.setIfInBounds_toArray, List.set_cons_zero, List.set_cons_succ, i64_w, i32_w]
        rfl
      refine pure_ (i := 4) (N := some 13) (v := ?_) (a' := ?_) #[true, true, true, true, true, false, false, true, false, false] rfl rfl (any_of HT_.out (by kernel_rfl)) (fun _ _ _ h => h) (Or.inl ⟨by rfl, ?_⟩) ?_ ?_
      rotate_left
      · intro w'
        go_simp
        with_reducible rfl
      rotate_left
      · simp only [Act.put, List.setIfInBounds_toArray, List.set_cons_zero, List.set_cons_succ, i64_w, i32_w]
        rfl
      refine pure_ (i := 5) (N := some 18) (v := ?_) (a' := ?_) #[true, true, true, true, true, true, false, true, false, false] rfl rfl (any_of HT_.out (by kernel_rfl)) (fun _ _ _ h => h) (Or.inl ⟨by rfl, ?_⟩) ?_ ?_
      rotate_left
      · intro w'
        go_simp
        with_reducible rfl
      rotate_left
      · simp only [Act.put, List.setIfInBounds_toArray, List.set_cons_zero, List.set_cons_succ, i64_w, i32_w]
        rfl
      refine pure_ (i := 6) (N := some 19) (v := ?_) (a' := ?_) #[true, true, true, true, true, true, true, true, false, false] rfl rfl (any_of HT_.out (by kernel_rfl)) (fun _ _ _ h => h) (Or.inl ⟨by rfl, ?_⟩) ?_ ?_
      rotate_left
      · intro w'
        go_simp
        with_reducible rfl
      rotate_left
      · simp only [Act.put, List.setIfInBounds_toArray, List.set_cons_zero, List.set_cons_succ, i64_w, i32_w]
        rfl
      exact norm_ (by simp only [putAll, Act.put, List.setIfInBounds_toArray, List.set_cons_zero, List.set_cons_succ]) (hCont (.slice Ao18 t306.length co18, v315, v318, v321, gb323) _ ⟨hHeld, (by (with_reducible repeat (first | apply Kd.R_alloc | apply Kd.R_drewN | apply Kd.R_drew)); exact Kd.R_mono HO301.out (fun _ hk => hk.2)), (by (with_reducible repeat (first | apply Kd.R_alloc | apply Kd.R_drewN | apply Kd.R_drew)); exact Kd.R_mono HO304.out (fun _ hk => ⟨hk.1.2, hk.2⟩)), (by (with_reducible repeat (first | apply Kd.R_alloc | apply Kd.R_drewN | apply Kd.R_drew)); exact HO308.out), (by (with_reducible repeat (first | apply Kd.R_alloc | apply Kd.R_drewN | apply Kd.R_drew)); exact Kd.R_mono HO316.out (fun _ hk => hk.2)), (by (with_reducible repeat (first | apply Kd.R_alloc | apply Kd.R_drewN | apply Kd.R_drew)); exact Kd.R_mono HO319.out (fun _ hk => ⟨hk.2, hk.1⟩)), (by (with_reducible repeat (first | apply Kd.R_alloc | apply Kd.R_drewN | apply Kd.R_drew)); exact Kd.R_mono HO322.out (fun _ hk => ⟨hk.2, hk.1⟩)), (by (with_reducible repeat (first | refine blk_drewN ?_ _ | refine blk_drew ?_ | refine blk_alloc ?_ _)); exact BK293.out), (by (with_reducible repeat (first | refine blk_drewN ?_ _ | refine blk_drew ?_ | refine blk_alloc ?_ _)); exact BK305.out), (by (with_reducible repeat (first | refine blk_drewN ?_ _ | refine blk_drew ?_ | refine blk_alloc ?_ _)); exact BK323.out), GW323.out, GE323.out, NB293_323.out, NB323_293.out, NB305_323.out, NB323_305.out, (by repeat (first | (with_reducible first | exact HB.out | apply below_alloc | apply pw_below_drewN | apply below_drew1 | refine below_set ?_ GE293.out | refine below_set ?_ GE305.out | refine below_set ?_ GE323.out) | exact HB.out))⟩)
  rintro ⟨v307, v315, v318, v321, gb323⟩ w20 ⟨hS_, h0_, h1_, h2_, h3_, h4_, h5_, h6_, h7_, h8_, h9_, h10_, h11_, h12_, h13_, h14_, h15_⟩
  have n0_ : Aside0 (Kd.R k46 46 w20 w.heap.size (fun k_ => some k_ ≠ (v315 : Value).ownBlock) (.slice Ao12 t299.length co12) t299) := ⟨h0_⟩
  have n1_ : Aside0 (Kd.R (Kd.int .i64) 3 w20 w.heap.size (fun k_ => some k_ ≠ (v318 : Value).ownBlock ∧ some k_ ≠ (v321 : Value).ownBlock) (.slice Ao13 t302.length co13) t302) := ⟨h1_⟩
  have n2_ : Aside0 (Kd.R k40 40 w20 w.heap.size (fun _ => True) v307 t306) := ⟨h2_⟩
  have n3_ : Aside0 (Kd.R k46 46 w20 w.heap.size (fun k_ => some k_ ≠ (.slice Ao12 t299.length co12 : Value).ownBlock) v315 t314) := ⟨h3_⟩
  have n4_ : Aside0 (Kd.R (Kd.int .i64) 3 w20 w.heap.size (fun k_ => some k_ ≠ (.slice Ao13 t302.length co13 : Value).ownBlock ∧ some k_ ≠ (v321 : Value).ownBlock) v318 t317) := ⟨h4_⟩
  have n5_ : Aside0 (Kd.R (Kd.int .i64) 3 w20 w.heap.size (fun k_ => some k_ ≠ (.slice Ao13 t302.length co13 : Value).ownBlock ∧ some k_ ≠ (v318 : Value).ownBlock) v321 t320) := ⟨h5_⟩
  have n6_ : Aside0 (w20.heap[gb293]? = some (.cells #[.int .i64 a0_0, .int .i64 a0_1, .int .i64 a0_2, .int .i64 a0_3, .int .i64 a0_4, .slice A0_5 l0_5.length c0_5, .slice A0_6 l0_6.length c0_6, .slice A0_7 l0_7.length c0_7] 24 (0, 0))) := ⟨h6_⟩
  have n7_ : Aside0 (w20.heap[gb305]? = some (.cells #[.int .i64 t294, .int .i64 t295, .int .i64 t296, .int .i64 t297, .int .i64 t298, .slice Ao12 t299.length co12, .slice Ao13 t302.length co13] 29 (0, 0))) := ⟨h7_⟩
  have n8_ : Aside0 (w20.heap[gb323]? = some (.cells #[.int .i64 0, .int .i64 0, .int .i64 0, .int .i64 0, .int .i64 0, .slice none 0 0, .slice none 0 0] 29 (0, 0))) := ⟨h8_⟩
  have n9_ : Aside0 (w.heap.size ≤ gb323) := ⟨h9_⟩
  have n10_ : Aside0 (w.heap.size ≤ gb323) := ⟨h10_⟩
  have n11_ : Aside0 (gb293 ≠ gb323) := ⟨h11_⟩
  have n12_ : Aside0 (gb323 ≠ gb293) := ⟨h12_⟩
  have n13_ : Aside0 (gb305 ≠ gb323) := ⟨h13_⟩
  have n14_ : Aside0 (gb323 ≠ gb305) := ⟨h14_⟩
  have n15_ : Aside0 (Below w.heap.size w w20) := ⟨h15_⟩
  clear HO301
  clear HO304
  clear BK293
  clear BK305
  clear HB
  clear h0_ h1_ h2_ h3_ h4_ h5_ h6_ h7_ h8_ h9_ h10_ h11_ h12_ h13_ h14_ h15_
  have HO301 := n0_
  have HO304 := n1_
  have HO308 := n2_
  have HO316 := n3_
  have HO319 := n4_
  have HO322 := n5_
  have BK293 := n6_
  have BK305 := n7_
  have BK323 := n8_
  have GW323 := n9_
  have GE323 := n10_
  have NB293_323 := n11_
  have NB323_293 := n12_
  have NB305_323 := n13_
  have NB323_305 := n14_
  have HB := n15_
  clear n0_ n1_ n2_ n3_ n4_ n5_ n6_ n7_ n8_ n9_ n10_ n11_ n12_ n13_ n14_ n15_
  have hHeld : w20.cell? ⟨gb305, 0, none⟩ = some (.int .i64 t294) ∧ w20.cell? ⟨gb305, 1, none⟩ = some (.int .i64 t295) ∧ w20.cell? ⟨gb305, 2, none⟩ = some (.int .i64 t296) ∧ w20.cell? ⟨gb305, 3, none⟩ = some (.int .i64 t297) ∧ w20.cell? ⟨gb305, 4, none⟩ = some (.int .i64 t298) ∧ w20.cell? ⟨gb305, 5, none⟩ = some (.slice Ao12 t299.length co12) ∧ w20.cell? ⟨gb305, 6, none⟩ = some (.slice Ao13 t302.length co13) := hS_
  obtain ⟨Ao26, co26, eo26⟩ := Kd.R_slice HO316.out
  (first | subst eo26 | (injection eo26 with f1_ f2_ f3_; have f4_ := f1_.symm; have f5_ := f3_.symm; clear f1_ f2_ f3_; subst f4_; subst f5_))
  obtain ⟨Ao28, co28, eo28⟩ := Kd.R_slice HO319.out
  (first | subst eo28 | (injection eo28 with f1_ f2_ f3_; have f4_ := f1_.symm; have f5_ := f3_.symm; clear f1_ f2_ f3_; subst f4_; subst f5_))
  refine norm_ (a' := ?_) ?_ ?_
  rotate_left
  · simp only [putAll, Act.put, List.setIfInBounds_toArray, List.set_cons_zero, List.set_cons_succ]
    rfl
  refine one_ (i := 8) (N := none) #[true, true, true, true, true, true, true, true, true, false] rfl rfl (one_of HT_.out (by kernel_rfl)) (by decide) (fun K hK => ?_)
  have hs21 : w20.cell? ⟨gb323, 0, none⟩ = some (.int .i64 0) := (blk_cell BK323.out 0).trans rfl
  have hfs21 := blk_frozen BK323.out 0
  have hns21_0 := NB293_323.out
  have hns21_1 := NB305_323.out
  have hms21_0 := NB323_293.out
  have hms21_1 := NB323_305.out
  have hs22 : w20.cell? ⟨gb323, 1, none⟩ = some (.int .i64 0) := (blk_cell BK323.out 1).trans rfl
  have hfs22 := blk_frozen BK323.out 1
  have hns22_0 := NB293_323.out
  have hns22_1 := NB305_323.out
  have hms22_0 := NB323_293.out
  have hms22_1 := NB323_305.out
  have hs23 : w20.cell? ⟨gb323, 2, none⟩ = some (.int .i64 0) := (blk_cell BK323.out 2).trans rfl
  have hfs23 := blk_frozen BK323.out 2
  have hns23_0 := NB293_323.out
  have hns23_1 := NB305_323.out
  have hms23_0 := NB323_293.out
  have hms23_1 := NB323_305.out
  have hs24 : w20.cell? ⟨gb323, 3, none⟩ = some (.int .i64 0) := (blk_cell BK323.out 3).trans rfl
  have hfs24 := blk_frozen BK323.out 3
  have hns24_0 := NB293_323.out
  have hns24_1 := NB305_323.out
  have hms24_0 := NB323_293.out
  have hms24_1 := NB323_305.out
  have hs25 : w20.cell? ⟨gb323, 4, none⟩ = some (.int .i64 0) := (blk_cell BK323.out 4).trans rfl
  have hfs25 := blk_frozen BK323.out 4
  have hns25_0 := NB293_323.out
  have hns25_1 := NB305_323.out
  have hms25_0 := NB323_293.out
  have hms25_1 := NB323_305.out
  have hs27 : w20.cell? ⟨gb323, 5, none⟩ = some (.slice none 0 0) := (blk_cell BK323.out 5).trans rfl
  have hfs27 := blk_frozen BK323.out 5
  have hns27_0 := NB293_323.out
  have hns27_1 := NB305_323.out
  have hms27_0 := NB323_293.out
  have hms27_1 := NB323_305.out
  have hs29 : w20.cell? ⟨gb323, 6, none⟩ = some (.slice none 0 0) := (blk_cell BK323.out 6).trans rfl
  have hfs29 := blk_frozen BK323.out 6
  have hns29_0 := NB293_323.out
  have hns29_1 := NB305_323.out
  have hms29_0 := NB323_293.out
  have hms29_1 := NB323_305.out
  refine skip_ (w1 := ?_) (by rfl) rfl ?_ ?_
  rotate_left
  · go_simp
    rfl
  refine hK.out _ _ ⟨((cell_far (p := ⟨gb323, _, none⟩) NB305_323.out _).trans (((cell_far (p := ⟨gb323, _, none⟩) NB305_323.out _).trans (((cell_far (p := ⟨gb323, _, none⟩) NB305_323.out _).trans (((cell_far (p := ⟨gb323, _, none⟩) NB305_323.out _).trans (((cell_far (p := ⟨gb323, _, none⟩) NB305_323.out _).trans (((cell_far (p := ⟨gb323, _, none⟩) NB305_323.out _).trans (((cell_far (p := ⟨gb323, _, none⟩) NB305_323.out _).trans (hHeld.1)))))))))))))), ((cell_far (p := ⟨gb323, _, none⟩) NB305_323.out _).trans (((cell_far (p := ⟨gb323, _, none⟩) NB305_323.out _).trans (((cell_far (p := ⟨gb323, _, none⟩) NB305_323.out _).trans (((cell_far (p := ⟨gb323, _, none⟩) NB305_323.out _).trans (((cell_far (p := ⟨gb323, _, none⟩) NB305_323.out _).trans (((cell_far (p := ⟨gb323, _, none⟩) NB305_323.out _).trans (((cell_far (p := ⟨gb323, _, none⟩) NB305_323.out _).trans (hHeld.2.1)))))))))))))), ((cell_far (p := ⟨gb323, _, none⟩) NB305_323.out _).trans (((cell_far (p := ⟨gb323, _, none⟩) NB305_323.out _).trans (((cell_far (p := ⟨gb323, _, none⟩) NB305_323.out _).trans (((cell_far (p := ⟨gb323, _, none⟩) NB305_323.out _).trans (((cell_far (p := ⟨gb323, _, none⟩) NB305_323.out _).trans (((cell_far (p := ⟨gb323, _, none⟩) NB305_323.out _).trans (((cell_far (p := ⟨gb323, _, none⟩) NB305_323.out _).trans (hHeld.2.2.1)))))))))))))), ((cell_far (p := ⟨gb323, _, none⟩) NB305_323.out _).trans (((cell_far (p := ⟨gb323, _, none⟩) NB305_323.out _).trans (((cell_far (p := ⟨gb323, _, none⟩) NB305_323.out _).trans (((cell_far (p := ⟨gb323, _, none⟩) NB305_323.out _).trans (((cell_far (p := ⟨gb323, _, none⟩) NB305_323.out _).trans (((cell_far (p := ⟨gb323, _, none⟩) NB305_323.out _).trans (((cell_far (p := ⟨gb323, _, none⟩) NB305_323.out _).trans (hHeld.2.2.2.1)))))))))))))), ((cell_far (p := ⟨gb323, _, none⟩) NB305_323.out _).trans (((cell_far (p := ⟨gb323, _, none⟩) NB305_323.out _).trans (((cell_far (p := ⟨gb323, _, none⟩) NB305_323.out _).trans (((cell_far (p := ⟨gb323, _, none⟩) NB305_323.out _).trans (((cell_far (p := ⟨gb323, _, none⟩) NB305_323.out _).trans (((cell_far (p := ⟨gb323, _, none⟩) NB305_323.out _).trans (((cell_far (p := ⟨gb323, _, none⟩) NB305_323.out _).trans (hHeld.2.2.2.2.1)))))))))))))), ((cell_far (p := ⟨gb323, _, none⟩) NB305_323.out _).trans (((cell_far (p := ⟨gb323, _, none⟩) NB305_323.out _).trans (((cell_far (p := ⟨gb323, _, none⟩) NB305_323.out _).trans (((cell_far (p := ⟨gb323, _, none⟩) NB305_323.out _).trans (((cell_far (p := ⟨gb323, _, none⟩) NB305_323.out _).trans (((cell_far (p := ⟨gb323, _, none⟩) NB305_323.out _).trans (((cell_far (p := ⟨gb323, _, none⟩) NB305_323.out _).trans (hHeld.2.2.2.2.2.1)))))))))))))), ((cell_far (p := ⟨gb323, _, none⟩) NB305_323.out _).trans (((cell_far (p := ⟨gb323, _, none⟩) NB305_323.out _).trans (((cell_far (p := ⟨gb323, _, none⟩) NB305_323.out _).trans (((cell_far (p := ⟨gb323, _, none⟩) NB305_323.out _).trans (((cell_far (p := ⟨gb323, _, none⟩) NB305_323.out _).trans (((cell_far (p := ⟨gb323, _, none⟩) NB305_323.out _).trans (((cell_far (p := ⟨gb323, _, none⟩) NB305_323.out _).trans (hHeld.2.2.2.2.2.2))))))))))))))⟩ (fun hHeld => ?_)
  clear hK K
  refine pure_ (i := 9) (N := some 7) (v := ?_) (a' := ?_) #[true, true, true, true, true, true, true, true, true, true] rfl rfl (any_of HT_.out (by kernel_rfl)) (fun _ _ _ h => h) (Or.inl ⟨by rfl, ?_⟩) ?_ ?_
  rotate_left
  · intro w'
    go_simp
    with_reducible rfl
  rotate_left
  · simp only [Act.put, List.setIfInBounds_toArray, List.set_cons_zero, List.set_cons_succ, i64_w, i32_w]
    rfl
  refine done_ (done_of HT_.out (by kernel_rfl)) ?_
  have hnb30 := NB305_323.out
  have hnc30 := NB323_305.out
  have hcz31_0 : w20.cell? ⟨gb305, 0, none⟩ = some (.int .i64 t294) := (blk_cell BK305.out 0).trans rfl
  have hcz31_1 : w20.cell? ⟨gb305, 1, none⟩ = some (.int .i64 t295) := (blk_cell BK305.out 1).trans rfl
  have hcz31_2 : w20.cell? ⟨gb305, 2, none⟩ = some (.int .i64 t296) := (blk_cell BK305.out 2).trans rfl
  have hcz31_3 : w20.cell? ⟨gb305, 3, none⟩ = some (.int .i64 t297) := (blk_cell BK305.out 3).trans rfl
  have hcz31_4 : w20.cell? ⟨gb305, 4, none⟩ = some (.int .i64 t298) := (blk_cell BK305.out 4).trans rfl
  have hcz31_5 : w20.cell? ⟨gb305, 5, none⟩ = some (.slice Ao12 t299.length co12) := (blk_cell BK305.out 5).trans rfl
  have hcz31_6 : w20.cell? ⟨gb305, 6, none⟩ = some (.slice Ao13 t302.length co13) := (blk_cell BK305.out 6).trans rfl
  have hfz31_0 := blk_frozen BK305.out 0
  have hfz31_1 := blk_frozen BK305.out 1
  have hfz31_2 := blk_frozen BK305.out 2
  have hfz31_3 := blk_frozen BK305.out 3
  have hfz31_4 := blk_frozen BK305.out 4
  have hfz31_5 := blk_frozen BK305.out 5
  have hfz31_6 := blk_frozen BK305.out 6
  try go_wp2
  go_loopg [9, 10] k (fun kq v9 v10 w' => ∃ (x9_1 : Int) (x10_1 : Int), v9 = .int .i64 x9_1 ∧ v10 = .int .i64 x10_1 ∧ Aside0 (selfstablaw42_DatalinkOnce.l0 kq t320 (wrap64 ((wrap64 (t297 + t295)) - 1)) x9_1 x10_1 t309 t310 t311 t312 t313 t314 t317 = some r) ∧ Aside0 (kq ≤ k) ∧ Aside0 (Kd.R (Kd.int .i64) 3 w' w.heap.size (fun k_ => some k_ ≠ ((.slice Ao13 t302.length co13) : Value).ownBlock ∧ some k_ ≠ ((.slice Ao28 t317.length co28) : Value).ownBlock) v321 t320) ∧ Aside0 (Kd.R k46 46 w' w.heap.size (fun k_ => some k_ ≠ ((.slice Ao26 t314.length co26) : Value).ownBlock) (.slice Ao12 t299.length co12) t299) ∧ Aside0 (Kd.R (Kd.int .i64) 3 w' w.heap.size (fun k_ => some k_ ≠ (v321 : Value).ownBlock ∧ some k_ ≠ ((.slice Ao28 t317.length co28) : Value).ownBlock) (.slice Ao13 t302.length co13) t302) ∧ Aside0 (Kd.R k46 46 w' w.heap.size (fun k_ => some k_ ≠ ((.slice Ao12 t299.length co12) : Value).ownBlock) (.slice Ao26 t314.length co26) t314) ∧ Aside0 (Kd.R (Kd.int .i64) 3 w' w.heap.size (fun k_ => some k_ ≠ (v321 : Value).ownBlock ∧ some k_ ≠ ((.slice Ao13 t302.length co13) : Value).ownBlock) (.slice Ao28 t317.length co28) t317) ∧ Aside0 (w'.heap[gb293]? = some (.cells #[.int .i64 a0_0, .int .i64 a0_1, .int .i64 a0_2, .int .i64 a0_3, .int .i64 a0_4, (.slice A0_5 l0_5.length c0_5), (.slice A0_6 l0_6.length c0_6), (.slice A0_7 l0_7.length c0_7)] 24 (0, 0))) ∧ Aside0 (w'.heap[gb305]? = some (.cells #[.int .i64 t294, .int .i64 t295, .int .i64 t296, .int .i64 t297, .int .i64 t298, (.slice Ao12 t299.length co12), (.slice Ao13 t302.length co13)] 29 (0, 0))) ∧ Aside0 (w'.heap[gb323]? = some (.cells #[.int .i64 t309, .int .i64 t310, .int .i64 t311, .int .i64 t312, .int .i64 t313, (.slice Ao26 t314.length co26), (.slice Ao28 t317.length co28)] 29 (0, 0))) ∧ Aside0 (Below w.heap.size w w'))
  case atStart => exact ⟨(wrap64 ((wrap64 (t297 + t295)) - 1)), (0), (by first | rfl | (simp; done) | (simp [*]; done)), (by first | rfl | (simp; done) | (simp [*]; done)), H', ⟨Nat.le_refl _⟩, ⟨by (with_reducible repeat (first | apply Kd.R_alloc | apply Kd.R_drewN | apply Kd.R_drew)); exact Kd.R_mono (Kd.R_far (p := ⟨gb323, 6, none⟩) (Kd.R_far (p := ⟨gb323, 5, none⟩) (Kd.R_far (p := ⟨gb323, 4, none⟩) (Kd.R_far (p := ⟨gb323, 3, none⟩) (Kd.R_far (p := ⟨gb323, 2, none⟩) (Kd.R_far (p := ⟨gb323, 1, none⟩) (Kd.R_far (p := ⟨gb323, 0, none⟩) (Kd.R_types HO322.out BK323.out (by decide)) (fun _ hk => hk.2) (.int .i64 t309)) (fun _ hk => hk.2) (.int .i64 t310)) (fun _ hk => hk.2) (.int .i64 t311)) (fun _ hk => hk.2) (.int .i64 t312)) (fun _ hk => hk.2) (.int .i64 t313)) (fun _ hk => hk.2) (.slice Ao26 t314.length co26)) (fun _ hk => hk.2) (.slice Ao28 t317.length co28)) (fun _ hk => ⟨hk.1.1, hk.1.2⟩)⟩, ⟨by (with_reducible repeat (first | apply Kd.R_alloc | apply Kd.R_drewN | apply Kd.R_drew)); exact Kd.R_mono (Kd.R_far (p := ⟨gb323, 6, none⟩) (Kd.R_far (p := ⟨gb323, 5, none⟩) (Kd.R_far (p := ⟨gb323, 4, none⟩) (Kd.R_far (p := ⟨gb323, 3, none⟩) (Kd.R_far (p := ⟨gb323, 2, none⟩) (Kd.R_far (p := ⟨gb323, 1, none⟩) (Kd.R_far (p := ⟨gb323, 0, none⟩) (Kd.R_types HO301.out BK323.out (by decide)) (fun _ hk => hk.2) (.int .i64 t309)) (fun _ hk => hk.2) (.int .i64 t310)) (fun _ hk => hk.2) (.int .i64 t311)) (fun _ hk => hk.2) (.int .i64 t312)) (fun _ hk => hk.2) (.int .i64 t313)) (fun _ hk => hk.2) (.slice Ao26 t314.length co26)) (fun _ hk => hk.2) (.slice Ao28 t317.length co28)) (fun _ hk => hk.1)⟩, ⟨by (with_reducible repeat (first | apply Kd.R_alloc | apply Kd.R_drewN | apply Kd.R_drew)); exact Kd.R_mono (Kd.R_far (p := ⟨gb323, 6, none⟩) (Kd.R_far (p := ⟨gb323, 5, none⟩) (Kd.R_far (p := ⟨gb323, 4, none⟩) (Kd.R_far (p := ⟨gb323, 3, none⟩) (Kd.R_far (p := ⟨gb323, 2, none⟩) (Kd.R_far (p := ⟨gb323, 1, none⟩) (Kd.R_far (p := ⟨gb323, 0, none⟩) (Kd.R_types HO304.out BK323.out (by decide)) (fun _ hk => hk.2) (.int .i64 t309)) (fun _ hk => hk.2) (.int .i64 t310)) (fun _ hk => hk.2) (.int .i64 t311)) (fun _ hk => hk.2) (.int .i64 t312)) (fun _ hk => hk.2) (.int .i64 t313)) (fun _ hk => hk.2) (.slice Ao26 t314.length co26)) (fun _ hk => hk.2) (.slice Ao28 t317.length co28)) (fun _ hk => ⟨hk.1.2, hk.1.1⟩)⟩, ⟨by (with_reducible repeat (first | apply Kd.R_alloc | apply Kd.R_drewN | apply Kd.R_drew)); exact Kd.R_mono (Kd.R_far (p := ⟨gb323, 6, none⟩) (Kd.R_far (p := ⟨gb323, 5, none⟩) (Kd.R_far (p := ⟨gb323, 4, none⟩) (Kd.R_far (p := ⟨gb323, 3, none⟩) (Kd.R_far (p := ⟨gb323, 2, none⟩) (Kd.R_far (p := ⟨gb323, 1, none⟩) (Kd.R_far (p := ⟨gb323, 0, none⟩) (Kd.R_types HO316.out BK323.out (by decide)) (fun _ hk => hk.2) (.int .i64 t309)) (fun _ hk => hk.2) (.int .i64 t310)) (fun _ hk => hk.2) (.int .i64 t311)) (fun _ hk => hk.2) (.int .i64 t312)) (fun _ hk => hk.2) (.int .i64 t313)) (fun _ hk => hk.2) (.slice Ao26 t314.length co26)) (fun _ hk => hk.2) (.slice Ao28 t317.length co28)) (fun _ hk => hk.1)⟩, ⟨by (with_reducible repeat (first | apply Kd.R_alloc | apply Kd.R_drewN | apply Kd.R_drew)); exact Kd.R_mono (Kd.R_far (p := ⟨gb323, 6, none⟩) (Kd.R_far (p := ⟨gb323, 5, none⟩) (Kd.R_far (p := ⟨gb323, 4, none⟩) (Kd.R_far (p := ⟨gb323, 3, none⟩) (Kd.R_far (p := ⟨gb323, 2, none⟩) (Kd.R_far (p := ⟨gb323, 1, none⟩) (Kd.R_far (p := ⟨gb323, 0, none⟩) (Kd.R_types HO319.out BK323.out (by decide)) (fun _ hk => hk.2) (.int .i64 t309)) (fun _ hk => hk.2) (.int .i64 t310)) (fun _ hk => hk.2) (.int .i64 t311)) (fun _ hk => hk.2) (.int .i64 t312)) (fun _ hk => hk.2) (.int .i64 t313)) (fun _ hk => hk.2) (.slice Ao26 t314.length co26)) (fun _ hk => hk.2) (.slice Ao28 t317.length co28)) (fun _ hk => ⟨hk.1.2, hk.1.1⟩)⟩, ⟨by (with_reducible repeat (first | refine blk_drewN ?_ _ | refine blk_drew ?_ | refine blk_alloc ?_ _)); refine blk_far ?_ NB293_323.out _; (with_reducible repeat (first | refine blk_drewN ?_ _ | refine blk_drew ?_ | refine blk_alloc ?_ _)); refine blk_far ?_ NB293_323.out _; (with_reducible repeat (first | refine blk_drewN ?_ _ | refine blk_drew ?_ | refine blk_alloc ?_ _)); refine blk_far ?_ NB293_323.out _; (with_reducible repeat (first | refine blk_drewN ?_ _ | refine blk_drew ?_ | refine blk_alloc ?_ _)); refine blk_far ?_ NB293_323.out _; (with_reducible repeat (first | refine blk_drewN ?_ _ | refine blk_drew ?_ | refine blk_alloc ?_ _)); refine blk_far ?_ NB293_323.out _; (with_reducible repeat (first | refine blk_drewN ?_ _ | refine blk_drew ?_ | refine blk_alloc ?_ _)); refine blk_far ?_ NB293_323.out _; (with_reducible repeat (first | refine blk_drewN ?_ _ | refine blk_drew ?_ | refine blk_alloc ?_ _)); refine blk_far ?_ NB293_323.out _; (with_reducible repeat (first | refine blk_drewN ?_ _ | refine blk_drew ?_ | refine blk_alloc ?_ _)); exact BK293.out⟩, ⟨by (with_reducible repeat (first | refine blk_drewN ?_ _ | refine blk_drew ?_ | refine blk_alloc ?_ _)); refine blk_far ?_ NB305_323.out _; (with_reducible repeat (first | refine blk_drewN ?_ _ | refine blk_drew ?_ | refine blk_alloc ?_ _)); refine blk_far ?_ NB305_323.out _; (with_reducible repeat (first | refine blk_drewN ?_ _ | refine blk_drew ?_ | refine blk_alloc ?_ _)); refine blk_far ?_ NB305_323.out _; (with_reducible repeat (first | refine blk_drewN ?_ _ | refine blk_drew ?_ | refine blk_alloc ?_ _)); refine blk_far ?_ NB305_323.out _; (with_reducible repeat (first | refine blk_drewN ?_ _ | refine blk_drew ?_ | refine blk_alloc ?_ _)); refine blk_far ?_ NB305_323.out _; (with_reducible repeat (first | refine blk_drewN ?_ _ | refine blk_drew ?_ | refine blk_alloc ?_ _)); refine blk_far ?_ NB305_323.out _; (with_reducible repeat (first | refine blk_drewN ?_ _ | refine blk_drew ?_ | refine blk_alloc ?_ _)); refine blk_far ?_ NB305_323.out _; (with_reducible repeat (first | refine blk_drewN ?_ _ | refine blk_drew ?_ | refine blk_alloc ?_ _)); exact BK305.out⟩, ⟨by (with_reducible repeat (first | refine blk_drewN ?_ _ | refine blk_drew ?_ | refine blk_alloc ?_ _)); refine blk_put (cs := #[.int .i64 t309, .int .i64 t310, .int .i64 t311, .int .i64 t312, .int .i64 t313, .slice Ao26 t314.length co26, .slice none 0 0]) ?_ 6 _ rfl; (with_reducible repeat (first | refine blk_drewN ?_ _ | refine blk_drew ?_ | refine blk_alloc ?_ _)); refine blk_put (cs := #[.int .i64 t309, .int .i64 t310, .int .i64 t311, .int .i64 t312, .int .i64 t313, .slice none 0 0, .slice none 0 0]) ?_ 5 _ rfl; (with_reducible repeat (first | refine blk_drewN ?_ _ | refine blk_drew ?_ | refine blk_alloc ?_ _)); refine blk_put (cs := #[.int .i64 t309, .int .i64 t310, .int .i64 t311, .int .i64 t312, .int .i64 0, .slice none 0 0, .slice none 0 0]) ?_ 4 _ rfl; (with_reducible repeat (first | refine blk_drewN ?_ _ | refine blk_drew ?_ | refine blk_alloc ?_ _)); refine blk_put (cs := #[.int .i64 t309, .int .i64 t310, .int .i64 t311, .int .i64 0, .int .i64 0, .slice none 0 0, .slice none 0 0]) ?_ 3 _ rfl; (with_reducible repeat (first | refine blk_drewN ?_ _ | refine blk_drew ?_ | refine blk_alloc ?_ _)); refine blk_put (cs := #[.int .i64 t309, .int .i64 t310, .int .i64 0, .int .i64 0, .int .i64 0, .slice none 0 0, .slice none 0 0]) ?_ 2 _ rfl; (with_reducible repeat (first | refine blk_drewN ?_ _ | refine blk_drew ?_ | refine blk_alloc ?_ _)); refine blk_put (cs := #[.int .i64 t309, .int .i64 0, .int .i64 0, .int .i64 0, .int .i64 0, .slice none 0 0, .slice none 0 0]) ?_ 1 _ rfl; (with_reducible repeat (first | refine blk_drewN ?_ _ | refine blk_drew ?_ | refine blk_alloc ?_ _)); refine blk_put (cs := #[.int .i64 0, .int .i64 0, .int .i64 0, .int .i64 0, .int .i64 0, .slice none 0 0, .slice none 0 0]) ?_ 0 _ rfl; (with_reducible repeat (first | refine blk_drewN ?_ _ | refine blk_drew ?_ | refine blk_alloc ?_ _)); exact BK323.out⟩, ⟨by repeat (first | (with_reducible first | exact HB.out | apply below_alloc | apply pw_below_drewN | apply below_drew1 | refine below_set ?_ GE293.out | refine below_set ?_ GE305.out | refine below_set ?_ GE323.out) | exact HB.out)⟩⟩
  case round =>
    clear H'
    try clear c1
    try clear p2
    try clear c3
    try clear p6
    try clear c11
    try clear c13
    try clear c30
    try clear hcz31_0
    try clear hcz31_1
    try clear hcz31_2
    try clear hcz31_3
    try clear hcz31_4
    try clear hcz31_5
    try clear hcz31_6
    try clear hfz31_0
    try clear hfz31_1
    try clear hfz31_2
    try clear hfz31_3
    try clear hfz31_4
    try clear hfz31_5
    try clear hfz31_6
    obtain ⟨x9_1, x10_1, rfl, rfl, HA, HK1, HO_7, HO_306005, HO_306006, HO_324005, HO_324006, BK293, BK305, BK323, HB⟩ := hrel
    cases gk with
    | zero => exact absurd HA.out (by simp [selfstablaw42_DatalinkOnce.l0])
    | succ k1 =>
      have H := HA.out
      clear HA
      simp only [selfstablaw42_DatalinkOnce.l0] at H
      by_cases c32 : x10_1 < (t320.length : Int)
      · rw [if_pos c32] at H
        have c32b0 : decide (x10_1 < (t320.length : Int)) = true := decide_eq_true c32
        clear c32
        by_cases c33 : 0 ≤ x10_1
        · rw [if_pos c33] at H
          have c33b0 : decide (0 ≤ x10_1) = true := decide_eq_true c33
          clear c33
          by_cases c34 : (rd t320 x10_1) ≥ (wrap64 ((wrap64 (t297 + t295)) - 1))
          · rw [if_pos c34] at H
            have c34b0 : decide ((wrap64 ((wrap64 (t297 + t295)) - 1)) ≤ (rd t320 x10_1)) = true := decide_eq_true c34
            clear c34
            by_cases c35 : (rd t320 x10_1) = x9_1
            · rw [if_pos c35] at H
              have c35b0 : ((rd t320 x10_1) == x9_1) = true := beq_iff_eq.mpr c35
              have c35b1 : ((rd t320 x10_1) != x9_1) = false := bne_eq_false_iff_eq.mpr c35
              clear c35
              have H' := Aside0.mk H
              clear H
              obtain ⟨Ao36, co36, eo36⟩ := Kd.R_slice HO_7.out
              subst eo36
              have p324 : 0 ≤ (x10_1 : Int) := of_decide_eq_true (by first | (with_reducible assumption) | assumption)
              have q324 : x10_1 < (t320.length : Int) := of_decide_eq_true (by first | (with_reducible assumption) | assumption)
              (try (obtain ⟨Az324, cz324, ez324⟩ := Kd.R_slice HO_7.out; subst ez324))
              obtain ⟨ad324, e324, hx324_0⟩ := Kd.at_int (Kd.R_reads' HO_7.out).2.2 x10_1 p324 q324
              cases e324
              replace p324 := eq_true p324
              replace q324 := eq_true q324
              have p325 : 0 ≤ (x10_1 : Int) := of_decide_eq_true (by first | (with_reducible assumption) | assumption)
              have q325 : x10_1 < (t320.length : Int) := of_decide_eq_true (by first | (with_reducible assumption) | assumption)
              (try (obtain ⟨Az325, cz325, ez325⟩ := Kd.R_slice HO_7.out; subst ez325))
              obtain ⟨ad325, e325, hx325_0⟩ := Kd.at_int (Kd.R_reads' HO_7.out).2.2 x10_1 p325 q325
              obtain rfl : ad324 = ad325 := (by injection e325)
              replace p325 := eq_true p325
              replace q325 := eq_true q325
              go_wp2
              go_roundg k1
              case measure => have := HK1.out; omega
              case rel => exact ⟨(wrap64 (x9_1 + 1)), (wrap64 (x10_1 + 1)), (by first | rfl | (simp; done) | (simp [*]; done)), (by first | rfl | (simp; done) | (simp [*]; done)), H', ⟨by have := HK1.out; omega⟩, ⟨by (with_reducible repeat (first | apply Kd.R_alloc | apply Kd.R_drewN | apply Kd.R_drew)); exact HO_7.out⟩, ⟨by (with_reducible repeat (first | apply Kd.R_alloc | apply Kd.R_drewN | apply Kd.R_drew)); exact HO_306005.out⟩, ⟨by (with_reducible repeat (first | apply Kd.R_alloc | apply Kd.R_drewN | apply Kd.R_drew)); exact HO_306006.out⟩, ⟨by (with_reducible repeat (first | apply Kd.R_alloc | apply Kd.R_drewN | apply Kd.R_drew)); exact HO_324005.out⟩, ⟨by (with_reducible repeat (first | apply Kd.R_alloc | apply Kd.R_drewN | apply Kd.R_drew)); exact HO_324006.out⟩, ⟨by (with_reducible repeat (first | refine blk_drewN ?_ _ | refine blk_drew ?_ | refine blk_alloc ?_ _)); exact BK293.out⟩, ⟨by (with_reducible repeat (first | refine blk_drewN ?_ _ | refine blk_drew ?_ | refine blk_alloc ?_ _)); exact BK305.out⟩, ⟨by (with_reducible repeat (first | refine blk_drewN ?_ _ | refine blk_drew ?_ | refine blk_alloc ?_ _)); exact BK323.out⟩, ⟨by repeat (first | (with_reducible first | exact HB.out | apply below_alloc | apply pw_below_drewN | apply below_drew1 | refine below_set ?_ GE293.out | refine below_set ?_ GE305.out | refine below_set ?_ GE323.out) | exact HB.out)⟩⟩
            · rw [if_neg c35] at H
              exact absurd H (by simp)
          · rw [if_neg c34] at H
            have c34b0 : decide ((wrap64 ((wrap64 (t297 + t295)) - 1)) ≤ (rd t320 x10_1)) = false := decide_eq_false c34
            clear c34
            have H' := Aside0.mk H
            clear H
            obtain ⟨Ao37, co37, eo37⟩ := Kd.R_slice HO_7.out
            subst eo37
            have p324 : 0 ≤ (x10_1 : Int) := of_decide_eq_true (by first | (with_reducible assumption) | assumption)
            have q324 : x10_1 < (t320.length : Int) := of_decide_eq_true (by first | (with_reducible assumption) | assumption)
            (try (obtain ⟨Az324, cz324, ez324⟩ := Kd.R_slice HO_7.out; subst ez324))
            obtain ⟨ad324, e324, hx324_0⟩ := Kd.at_int (Kd.R_reads' HO_7.out).2.2 x10_1 p324 q324
            cases e324
            replace p324 := eq_true p324
            replace q324 := eq_true q324
            go_wp2
            go_roundg k1
            case measure => have := HK1.out; omega
            case rel => exact ⟨(x9_1), (wrap64 (x10_1 + 1)), (by first | rfl | (simp; done) | (simp [*]; done)), (by first | rfl | (simp; done) | (simp [*]; done)), H', ⟨by have := HK1.out; omega⟩, ⟨by (with_reducible repeat (first | apply Kd.R_alloc | apply Kd.R_drewN | apply Kd.R_drew)); exact HO_7.out⟩, ⟨by (with_reducible repeat (first | apply Kd.R_alloc | apply Kd.R_drewN | apply Kd.R_drew)); exact HO_306005.out⟩, ⟨by (with_reducible repeat (first | apply Kd.R_alloc | apply Kd.R_drewN | apply Kd.R_drew)); exact HO_306006.out⟩, ⟨by (with_reducible repeat (first | apply Kd.R_alloc | apply Kd.R_drewN | apply Kd.R_drew)); exact HO_324005.out⟩, ⟨by (with_reducible repeat (first | apply Kd.R_alloc | apply Kd.R_drewN | apply Kd.R_drew)); exact HO_324006.out⟩, ⟨by (with_reducible repeat (first | refine blk_drewN ?_ _ | refine blk_drew ?_ | refine blk_alloc ?_ _)); exact BK293.out⟩, ⟨by (with_reducible repeat (first | refine blk_drewN ?_ _ | refine blk_drew ?_ | refine blk_alloc ?_ _)); exact BK305.out⟩, ⟨by (with_reducible repeat (first | refine blk_drewN ?_ _ | refine blk_drew ?_ | refine blk_alloc ?_ _)); exact BK323.out⟩, ⟨by repeat (first | (with_reducible first | exact HB.out | apply below_alloc | apply pw_below_drewN | apply below_drew1 | refine below_set ?_ GE293.out | refine below_set ?_ GE305.out | refine below_set ?_ GE323.out) | exact HB.out)⟩⟩
        · rw [if_neg c33] at H
          exact absurd H (by simp)
      · rw [if_neg c32] at H
        have c32b0 : decide (x10_1 < (t320.length : Int)) = false := decide_eq_false c32
        clear c32
        by_cases c38 : t312 ≤ (wrap64 ((wrap64 (t297 + t295)) - 1))
        · rw [if_pos c38] at H
          have c38b0 : decide (t312 ≤ (wrap64 ((wrap64 (t297 + t295)) - 1))) = true := decide_eq_true c38
          clear c38
          replace H := Option.bind_eq_some_iff.mp H
          obtain ⟨t326, A390, H⟩ := H
          replace H : (if t326 = true then (some (decide (x9_1 ≤ (wrap64 ((wrap64 ((wrap64 (t297 + t295)) - 1)) + 1))))) else (none)) = some r := H
          have A39 := Aside0.mk A390
          clear A390
          by_cases c40 : t326 = true
          · subst c40
            have H1 : (some (decide (x9_1 ≤ (wrap64 ((wrap64 ((wrap64 (t297 + t295)) - 1)) + 1))))) = some r := by rw [if_pos rfl] at H; exact H
            clear H
            have H := H1
            clear H1
            obtain rfl := Option.some.inj H
            obtain ⟨Ao41, co41, eo41⟩ := Kd.R_slice HO_7.out
            subst eo41
            have hnb42 := NB323_293.out
            have hnc42 := NB293_323.out
            have hnb43 := NB323_305.out
            have hnc43 := NB305_323.out
            have hcz44_0 : wr.cell? ⟨gb323, 0, none⟩ = some (.int .i64 t309) := (blk_cell BK323.out 0).trans rfl
            have hcz44_1 : wr.cell? ⟨gb323, 1, none⟩ = some (.int .i64 t310) := (blk_cell BK323.out 1).trans rfl
            have hcz44_2 : wr.cell? ⟨gb323, 2, none⟩ = some (.int .i64 t311) := (blk_cell BK323.out 2).trans rfl
            have hcz44_3 : wr.cell? ⟨gb323, 3, none⟩ = some (.int .i64 t312) := (blk_cell BK323.out 3).trans rfl
            have hcz44_4 : wr.cell? ⟨gb323, 4, none⟩ = some (.int .i64 t313) := (blk_cell BK323.out 4).trans rfl
            have hcz44_5 : wr.cell? ⟨gb323, 5, none⟩ = some (.slice Ao26 t314.length co26) := (blk_cell BK323.out 5).trans rfl
            have hcz44_6 : wr.cell? ⟨gb323, 6, none⟩ = some (.slice Ao28 t317.length co28) := (blk_cell BK323.out 6).trans rfl
            have hfz44_0 := blk_frozen BK323.out 0
            have hfz44_1 := blk_frozen BK323.out 1
            have hfz44_2 := blk_frozen BK323.out 2
            have hfz44_3 := blk_frozen BK323.out 3
            have hfz44_4 := blk_frozen BK323.out 4
            have hfz44_5 := blk_frozen BK323.out 5
            have hfz44_6 := blk_frozen BK323.out 6
            go_wp2_with (first | ((with_reducible refine gate_callee (f := 9) rfl ?_); refine goesL_ (some 51) rfl rfl Try.func9 (by kernel_rfl) rfl #[] rfl (by (try simp only [List.map_toArray, List.map_cons, List.map_nil]); first | done | rfl | (simp only [List.length_drop, List.length_take]; rfl)) ?_; (with_reducible refine (selfstablaw42_known.calls k1  true _ A39.out).mono ?_); rintro e w45 ⟨rfl, hb⟩; refine ⟨_, rfl, ?_⟩; have n0_ := Aside0.mk (Kd.R_below (by (with_reducible repeat (first | apply Kd.R_alloc | apply Kd.R_drewN | apply Kd.R_drew)); exact HO_7.out) hb); have n1_ := Aside0.mk (Kd.R_below (by (with_reducible repeat (first | apply Kd.R_alloc | apply Kd.R_drewN | apply Kd.R_drew)); exact HO_306005.out) hb); have n2_ := Aside0.mk (Kd.R_below (by (with_reducible repeat (first | apply Kd.R_alloc | apply Kd.R_drewN | apply Kd.R_drew)); exact HO_306006.out) hb); have n3_ := Aside0.mk (Kd.R_below (by (with_reducible repeat (first | apply Kd.R_alloc | apply Kd.R_drewN | apply Kd.R_drew)); exact HO_324005.out) hb); have n4_ := Aside0.mk (Kd.R_below (by (with_reducible repeat (first | apply Kd.R_alloc | apply Kd.R_drewN | apply Kd.R_drew)); exact HO_324006.out) hb); have n5_ := Aside0.mk (blk_below (g := gb293) (o := .cells #[.int .i64 a0_0, .int .i64 a0_1, .int .i64 a0_2, .int .i64 a0_3, .int .i64 a0_4, .slice A0_5 l0_5.length c0_5, .slice A0_6 l0_6.length c0_6, .slice A0_7 l0_7.length c0_7] 24 (0, 0)) (by (with_reducible repeat (first | refine blk_drewN ?_ _ | refine blk_drew ?_ | refine blk_alloc ?_ _)); exact BK293.out) hb); have n6_ := Aside0.mk (blk_below (g := gb305) (o := .cells #[.int .i64 t294, .int .i64 t295, .int .i64 t296, .int .i64 t297, .int .i64 t298, .slice Ao12 t299.length co12, .slice Ao13 t302.length co13] 29 (0, 0)) (by (with_reducible repeat (first | refine blk_drewN ?_ _ | refine blk_drew ?_ | refine blk_alloc ?_ _)); exact BK305.out) hb); have n7_ := Aside0.mk (blk_below (g := gb323) (o := .cells #[.int .i64 t309, .int .i64 t310, .int .i64 t311, .int .i64 t312, .int .i64 t313, .slice Ao26 t314.length co26, .slice Ao28 t317.length co28] 29 (0, 0)) (by (with_reducible repeat (first | refine blk_drewN ?_ _ | refine blk_drew ?_ | refine blk_alloc ?_ _)); exact BK323.out) hb); have n8_ := Aside0.mk (below_step (by repeat (first | (with_reducible first | exact HB.out | apply below_alloc | apply pw_below_drewN | apply below_drew1 | refine below_set ?_ GE293.out | refine below_set ?_ GE305.out | refine below_set ?_ GE323.out) | exact HB.out)) hb); clear HO_7; clear HO_306005; clear HO_306006; clear HO_324005; clear HO_324006; clear BK293; clear BK305; clear BK323; clear HB; have HO_7 := n0_; have HO_306005 := n1_; have HO_306006 := n2_; have HO_324005 := n3_; have HO_324006 := n4_; have BK293 := n5_; have BK305 := n6_; have BK323 := n7_; have HB := n8_; clear n0_ n1_ n2_ n3_ n4_ n5_ n6_ n7_ n8_; (try clear hb); (try clear hb2); (try clear hk); (try clear hi)))
            go_ret
            exact ⟨by first | rfl | (simp [errW_none, errW_some] <;> rfl) | (simp [*, errW_none, errW_some] <;> rfl), by repeat (first | (with_reducible first | exact HB.out | apply below_alloc | apply pw_below_drewN | apply below_drew1 | refine below_set ?_ GE293.out | refine below_set ?_ GE305.out | refine below_set ?_ GE323.out) | exact HB.out)⟩
          · replace c40 := Bool.eq_false_iff.mpr c40
            subst c40
            have H1 : (none) = some r := by rw [if_neg (show ¬ (false = true) by decide)] at H; exact H
            clear H
            have H := H1
            clear H1
            exact absurd H (by simp)
        · rw [if_neg c38] at H
          have c38b0 : decide (t312 ≤ (wrap64 ((wrap64 (t297 + t295)) - 1))) = false := decide_eq_false c38
          clear c38
          replace H := Option.bind_eq_some_iff.mp H
          obtain ⟨t327, A460, H⟩ := H
          replace H : (if t327 = true then (if x9_1 = t312 then (some true) else (some (x9_1 == (wrap64 (t312 + 1))))) else (none)) = some r := H
          have A46 := Aside0.mk A460
          clear A460
          by_cases c47 : t327 = true
          · subst c47
            have H1 : (if x9_1 = t312 then (some true) else (some (x9_1 == (wrap64 (t312 + 1))))) = some r := by rw [if_pos rfl] at H; exact H
            clear H
            have H := H1
            clear H1
            by_cases c48 : x9_1 = t312
            · rw [if_pos c48] at H
              have c48b0 : (x9_1 == t312) = true := beq_iff_eq.mpr c48
              have c48b1 : (x9_1 != t312) = false := bne_eq_false_iff_eq.mpr c48
              clear c48
              obtain rfl := Option.some.inj H
              obtain ⟨Ao49, co49, eo49⟩ := Kd.R_slice HO_7.out
              subst eo49
              have hnb50 := NB323_293.out
              have hnc50 := NB293_323.out
              have hnb51 := NB323_305.out
              have hnc51 := NB305_323.out
              have hcz52_0 : wr.cell? ⟨gb323, 0, none⟩ = some (.int .i64 t309) := (blk_cell BK323.out 0).trans rfl
              have hcz52_1 : wr.cell? ⟨gb323, 1, none⟩ = some (.int .i64 t310) := (blk_cell BK323.out 1).trans rfl
              have hcz52_2 : wr.cell? ⟨gb323, 2, none⟩ = some (.int .i64 t311) := (blk_cell BK323.out 2).trans rfl
              have hcz52_3 : wr.cell? ⟨gb323, 3, none⟩ = some (.int .i64 t312) := (blk_cell BK323.out 3).trans rfl
              have hcz52_4 : wr.cell? ⟨gb323, 4, none⟩ = some (.int .i64 t313) := (blk_cell BK323.out 4).trans rfl
              have hcz52_5 : wr.cell? ⟨gb323, 5, none⟩ = some (.slice Ao26 t314.length co26) := (blk_cell BK323.out 5).trans rfl
              have hcz52_6 : wr.cell? ⟨gb323, 6, none⟩ = some (.slice Ao28 t317.length co28) := (blk_cell BK323.out 6).trans rfl
              have hfz52_0 := blk_frozen BK323.out 0
              have hfz52_1 := blk_frozen BK323.out 1
              have hfz52_2 := blk_frozen BK323.out 2
              have hfz52_3 := blk_frozen BK323.out 3
              have hfz52_4 := blk_frozen BK323.out 4
              have hfz52_5 := blk_frozen BK323.out 5
              have hfz52_6 := blk_frozen BK323.out 6
              go_wp2_with (first | ((with_reducible refine gate_callee (f := 9) rfl ?_); refine goesL_ (some 58) rfl rfl Try.func9 (by kernel_rfl) rfl #[] rfl (by (try simp only [List.map_toArray, List.map_cons, List.map_nil]); first | done | rfl | (simp only [List.length_drop, List.length_take]; rfl)) ?_; (with_reducible refine (selfstablaw42_known.calls k1  true _ A46.out).mono ?_); rintro e w53 ⟨rfl, hb⟩; refine ⟨_, rfl, ?_⟩; have n0_ := Aside0.mk (Kd.R_below (by (with_reducible repeat (first | apply Kd.R_alloc | apply Kd.R_drewN | apply Kd.R_drew)); exact HO_7.out) hb); have n1_ := Aside0.mk (Kd.R_below (by (with_reducible repeat (first | apply Kd.R_alloc | apply Kd.R_drewN | apply Kd.R_drew)); exact HO_306005.out) hb); have n2_ := Aside0.mk (Kd.R_below (by (with_reducible repeat (first | apply Kd.R_alloc | apply Kd.R_drewN | apply Kd.R_drew)); exact HO_306006.out) hb); have n3_ := Aside0.mk (Kd.R_below (by (with_reducible repeat (first | apply Kd.R_alloc | apply Kd.R_drewN | apply Kd.R_drew)); exact HO_324005.out) hb); have n4_ := Aside0.mk (Kd.R_below (by (with_reducible repeat (first | apply Kd.R_alloc | apply Kd.R_drewN | apply Kd.R_drew)); exact HO_324006.out) hb); have n5_ := Aside0.mk (blk_below (g := gb293) (o := .cells #[.int .i64 a0_0, .int .i64 a0_1, .int .i64 a0_2, .int .i64 a0_3, .int .i64 a0_4, .slice A0_5 l0_5.length c0_5, .slice A0_6 l0_6.length c0_6, .slice A0_7 l0_7.length c0_7] 24 (0, 0)) (by (with_reducible repeat (first | refine blk_drewN ?_ _ | refine blk_drew ?_ | refine blk_alloc ?_ _)); exact BK293.out) hb); have n6_ := Aside0.mk (blk_below (g := gb305) (o := .cells #[.int .i64 t294, .int .i64 t295, .int .i64 t296, .int .i64 t297, .int .i64 t298, .slice Ao12 t299.length co12, .slice Ao13 t302.length co13] 29 (0, 0)) (by (with_reducible repeat (first | refine blk_drewN ?_ _ | refine blk_drew ?_ | refine blk_alloc ?_ _)); exact BK305.out) hb); have n7_ := Aside0.mk (blk_below (g := gb323) (o := .cells #[.int .i64 t309, .int .i64 t310, .int .i64 t311, .int .i64 t312, .int .i64 t313, .slice Ao26 t314.length co26, .slice Ao28 t317.length co28] 29 (0, 0)) (by (with_reducible repeat (first | refine blk_drewN ?_ _ | refine blk_drew ?_ | refine blk_alloc ?_ _)); exact BK323.out) hb); have n8_ := Aside0.mk (below_step (by repeat (first | (with_reducible first | exact HB.out | apply below_alloc | apply pw_below_drewN | apply below_drew1 | refine below_set ?_ GE293.out | refine below_set ?_ GE305.out | refine below_set ?_ GE323.out) | exact HB.out)) hb); clear HO_7; clear HO_306005; clear HO_306006; clear HO_324005; clear HO_324006; clear BK293; clear BK305; clear BK323; clear HB; have HO_7 := n0_; have HO_306005 := n1_; have HO_306006 := n2_; have HO_324005 := n3_; have HO_324006 := n4_; have BK293 := n5_; have BK305 := n6_; have BK323 := n7_; have HB := n8_; clear n0_ n1_ n2_ n3_ n4_ n5_ n6_ n7_ n8_; (try clear hb); (try clear hb2); (try clear hk); (try clear hi); have hcz54_0 : w53.cell? ⟨gb323, 0, none⟩ = some (.int .i64 t309) := (blk_cell BK323.out 0).trans rfl; have hcz54_1 : w53.cell? ⟨gb323, 1, none⟩ = some (.int .i64 t310) := (blk_cell BK323.out 1).trans rfl; have hcz54_2 : w53.cell? ⟨gb323, 2, none⟩ = some (.int .i64 t311) := (blk_cell BK323.out 2).trans rfl; have hcz54_3 : w53.cell? ⟨gb323, 3, none⟩ = some (.int .i64 t312) := (blk_cell BK323.out 3).trans rfl; have hcz54_4 : w53.cell? ⟨gb323, 4, none⟩ = some (.int .i64 t313) := (blk_cell BK323.out 4).trans rfl; have hcz54_5 : w53.cell? ⟨gb323, 5, none⟩ = some (.slice Ao26 t314.length co26) := (blk_cell BK323.out 5).trans rfl; have hcz54_6 : w53.cell? ⟨gb323, 6, none⟩ = some (.slice Ao28 t317.length co28) := (blk_cell BK323.out 6).trans rfl; have hfz54_0 := blk_frozen BK323.out 0; have hfz54_1 := blk_frozen BK323.out 1; have hfz54_2 := blk_frozen BK323.out 2; have hfz54_3 := blk_frozen BK323.out 3; have hfz54_4 := blk_frozen BK323.out 4; have hfz54_5 := blk_frozen BK323.out 5; have hfz54_6 := blk_frozen BK323.out 6))
              go_ret
              exact ⟨by first | rfl | (simp [errW_none, errW_some] <;> rfl) | (simp [*, errW_none, errW_some] <;> rfl), by repeat (first | (with_reducible first | exact HB.out | apply below_alloc | apply pw_below_drewN | apply below_drew1 | refine below_set ?_ GE293.out | refine below_set ?_ GE305.out | refine below_set ?_ GE323.out) | exact HB.out)⟩
            · rw [if_neg c48] at H
              have c48b0 : (x9_1 == t312) = false := beq_eq_false_iff_ne.mpr c48
              have c48b1 : (x9_1 != t312) = true := bne_iff_ne.mpr c48
              obtain rfl := Option.some.inj H
              obtain ⟨Ao55, co55, eo55⟩ := Kd.R_slice HO_7.out
              subst eo55
              have hnb56 := NB323_293.out
              have hnc56 := NB293_323.out
              have hnb57 := NB323_305.out
              have hnc57 := NB305_323.out
              have hcz58_0 : wr.cell? ⟨gb323, 0, none⟩ = some (.int .i64 t309) := (blk_cell BK323.out 0).trans rfl
              have hcz58_1 : wr.cell? ⟨gb323, 1, none⟩ = some (.int .i64 t310) := (blk_cell BK323.out 1).trans rfl
              have hcz58_2 : wr.cell? ⟨gb323, 2, none⟩ = some (.int .i64 t311) := (blk_cell BK323.out 2).trans rfl
              have hcz58_3 : wr.cell? ⟨gb323, 3, none⟩ = some (.int .i64 t312) := (blk_cell BK323.out 3).trans rfl
              have hcz58_4 : wr.cell? ⟨gb323, 4, none⟩ = some (.int .i64 t313) := (blk_cell BK323.out 4).trans rfl
              have hcz58_5 : wr.cell? ⟨gb323, 5, none⟩ = some (.slice Ao26 t314.length co26) := (blk_cell BK323.out 5).trans rfl
              have hcz58_6 : wr.cell? ⟨gb323, 6, none⟩ = some (.slice Ao28 t317.length co28) := (blk_cell BK323.out 6).trans rfl
              have hfz58_0 := blk_frozen BK323.out 0
              have hfz58_1 := blk_frozen BK323.out 1
              have hfz58_2 := blk_frozen BK323.out 2
              have hfz58_3 := blk_frozen BK323.out 3
              have hfz58_4 := blk_frozen BK323.out 4
              have hfz58_5 := blk_frozen BK323.out 5
              have hfz58_6 := blk_frozen BK323.out 6
              go_wp2_with (first | ((with_reducible refine gate_callee (f := 9) rfl ?_); refine goesL_ (some 58) rfl rfl Try.func9 (by kernel_rfl) rfl #[] rfl (by (try simp only [List.map_toArray, List.map_cons, List.map_nil]); first | done | rfl | (simp only [List.length_drop, List.length_take]; rfl)) ?_; (with_reducible refine (selfstablaw42_known.calls k1  true _ A46.out).mono ?_); rintro e w59 ⟨rfl, hb⟩; refine ⟨_, rfl, ?_⟩; have n0_ := Aside0.mk (Kd.R_below (by (with_reducible repeat (first | apply Kd.R_alloc | apply Kd.R_drewN | apply Kd.R_drew)); exact HO_7.out) hb); have n1_ := Aside0.mk (Kd.R_below (by (with_reducible repeat (first | apply Kd.R_alloc | apply Kd.R_drewN | apply Kd.R_drew)); exact HO_306005.out) hb); have n2_ := Aside0.mk (Kd.R_below (by (with_reducible repeat (first | apply Kd.R_alloc | apply Kd.R_drewN | apply Kd.R_drew)); exact HO_306006.out) hb); have n3_ := Aside0.mk (Kd.R_below (by (with_reducible repeat (first | apply Kd.R_alloc | apply Kd.R_drewN | apply Kd.R_drew)); exact HO_324005.out) hb); have n4_ := Aside0.mk (Kd.R_below (by (with_reducible repeat (first | apply Kd.R_alloc | apply Kd.R_drewN | apply Kd.R_drew)); exact HO_324006.out) hb); have n5_ := Aside0.mk (blk_below (g := gb293) (o := .cells #[.int .i64 a0_0, .int .i64 a0_1, .int .i64 a0_2, .int .i64 a0_3, .int .i64 a0_4, .slice A0_5 l0_5.length c0_5, .slice A0_6 l0_6.length c0_6, .slice A0_7 l0_7.length c0_7] 24 (0, 0)) (by (with_reducible repeat (first | refine blk_drewN ?_ _ | refine blk_drew ?_ | refine blk_alloc ?_ _)); exact BK293.out) hb); have n6_ := Aside0.mk (blk_below (g := gb305) (o := .cells #[.int .i64 t294, .int .i64 t295, .int .i64 t296, .int .i64 t297, .int .i64 t298, .slice Ao12 t299.length co12, .slice Ao13 t302.length co13] 29 (0, 0)) (by (with_reducible repeat (first | refine blk_drewN ?_ _ | refine blk_drew ?_ | refine blk_alloc ?_ _)); exact BK305.out) hb); have n7_ := Aside0.mk (blk_below (g := gb323) (o := .cells #[.int .i64 t309, .int .i64 t310, .int .i64 t311, .int .i64 t312, .int .i64 t313, .slice Ao26 t314.length co26, .slice Ao28 t317.length co28] 29 (0, 0)) (by (with_reducible repeat (first | refine blk_drewN ?_ _ | refine blk_drew ?_ | refine blk_alloc ?_ _)); exact BK323.out) hb); have n8_ := Aside0.mk (below_step (by repeat (first | (with_reducible first | exact HB.out | apply below_alloc | apply pw_below_drewN | apply below_drew1 | refine below_set ?_ GE293.out | refine below_set ?_ GE305.out | refine below_set ?_ GE323.out) | exact HB.out)) hb); clear HO_7; clear HO_306005; clear HO_306006; clear HO_324005; clear HO_324006; clear BK293; clear BK305; clear BK323; clear HB; have HO_7 := n0_; have HO_306005 := n1_; have HO_306006 := n2_; have HO_324005 := n3_; have HO_324006 := n4_; have BK293 := n5_; have BK305 := n6_; have BK323 := n7_; have HB := n8_; clear n0_ n1_ n2_ n3_ n4_ n5_ n6_ n7_ n8_; (try clear hb); (try clear hb2); (try clear hk); (try clear hi); have hcz60_0 : w59.cell? ⟨gb323, 0, none⟩ = some (.int .i64 t309) := (blk_cell BK323.out 0).trans rfl; have hcz60_1 : w59.cell? ⟨gb323, 1, none⟩ = some (.int .i64 t310) := (blk_cell BK323.out 1).trans rfl; have hcz60_2 : w59.cell? ⟨gb323, 2, none⟩ = some (.int .i64 t311) := (blk_cell BK323.out 2).trans rfl; have hcz60_3 : w59.cell? ⟨gb323, 3, none⟩ = some (.int .i64 t312) := (blk_cell BK323.out 3).trans rfl; have hcz60_4 : w59.cell? ⟨gb323, 4, none⟩ = some (.int .i64 t313) := (blk_cell BK323.out 4).trans rfl; have hcz60_5 : w59.cell? ⟨gb323, 5, none⟩ = some (.slice Ao26 t314.length co26) := (blk_cell BK323.out 5).trans rfl; have hcz60_6 : w59.cell? ⟨gb323, 6, none⟩ = some (.slice Ao28 t317.length co28) := (blk_cell BK323.out 6).trans rfl; have hfz60_0 := blk_frozen BK323.out 0; have hfz60_1 := blk_frozen BK323.out 1; have hfz60_2 := blk_frozen BK323.out 2; have hfz60_3 := blk_frozen BK323.out 3; have hfz60_4 := blk_frozen BK323.out 4; have hfz60_5 := blk_frozen BK323.out 5; have hfz60_6 := blk_frozen BK323.out 6))
              go_ret
              exact ⟨by first | rfl | (simp [errW_none, errW_some] <;> rfl) | (simp [*, errW_none, errW_some] <;> rfl), by repeat (first | (with_reducible first | exact HB.out | apply below_alloc | apply pw_below_drewN | apply below_drew1 | refine below_set ?_ GE293.out | refine below_set ?_ GE305.out | refine below_set ?_ GE323.out) | exact HB.out)⟩
          · replace c47 := Bool.eq_false_iff.mpr c47
            subst c47
            have H1 : (none) = some r := by rw [if_neg (show ¬ (false = true) by decide)] at H; exact H
            clear H
            have H := H1
            clear H1
            exact absurd H (by simp)

end Go.Proofs.Ytdhkplfkbdldfaa.P
