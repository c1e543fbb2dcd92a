-- By a program of this session (wip/tools/myprint.py over the kit's printer). Not trusted: Lean checks it.
import Derived.Test.YtdhkplfkbdldfaaP0
import Derived.Test.YtdhkplfkbdldfaaP2
import Derived.Test.YtdhkplfkbdldfaaP3
import Derived.Test.YtdhkplfkbdldfaaP4
import Derived.Test.YtdhkplfkbdldfaaGDRun
namespace Go.Proofs.Ytdhkplfkbdldfaa.P
open Go.RowKit Go.Proofs.YtdhkplfkbdldfaaW.PrintWords Go.Proofs.YtdhkplfkbdldfaaW.PrintLast Go.Proofs.YtdhkplfkbdldfaaW.PrintMore
attribute [local go_sem] max2_int min2_int max_two min_two max_three min_three max_four min_four   -- for this text's walks alone
set_option linter.unusedVariables false
set_option linter.unusedSimpArgs false

/-! ### selfstablaw42_DatalinkMoves: function 5 -/
mutual
def selfstablaw42_DatalinkMoves.l0 : Nat → Int → Int → Int → Int → Int → Int → Int → List (S46) → List Int → Option (Bool)
  | 0, _, _, _, _, _, _, _, _, _ => none
  | k + 1, x1, x6, x341000, x341001, x341002, x341003, x341004, x341005, x341006 => if x6 < x1 then (selfstablaw42_DatalinkMoves.l1 k x1 x6 x341003 0 x341000 x341001 x341002 x341003 x341004 x341005 x341006) else ((selfstablaw42_known.f k).bind fun t342 => (some t342))
def selfstablaw42_DatalinkMoves.l1 : Nat → Int → Int → Int → Int → Int → Int → Int → Int → Int → List (S46) → List Int → Option (Bool)
  | 0, _, _, _, _, _, _, _, _, _, _, _ => none
  | k + 1, x1, x6, x7, x8, x341000, x341001, x341002, x341003, x341004, x341005, x341006 => if x8 < (wrap64 (2 * x341000)) then ((datalink_Run.f x341000 x341001 x341002 x341003 x341004 x341005 x341006 (([(⟨2, 0⟩ : S40), (⟨3, 0⟩ : S40), (⟨1, 0⟩ : S40)] : List (S40)))).bind fun bt346 => (selfstablaw42_DatalinkMoves.l1 k x1 x6 x7 (wrap64 (x8 + 1)) bt346.1 bt346.2.1 bt346.2.2.1 bt346.2.2.2.1 bt346.2.2.2.2.1 bt346.2.2.2.2.2.1 bt346.2.2.2.2.2.2.1)) else (if x341003 ≤ x7 then (none) else (selfstablaw42_DatalinkMoves.l0 k x1 (wrap64 (x6 + 1)) x341000 x341001 x341002 x341003 x341004 x341005 x341006))
end
def selfstablaw42_DatalinkMoves.f (k : Nat) (a0_0 : Int) (a0_1 : Int) (a0_2 : Int) (a0_3 : Int) (a0_4 : Int) (l0_5 : List Int) (l0_6 : List Int) (l0_7 : List Int) (a1 : Int) : Option (Bool) := (selfstablaw42_Raw_Link.f k a0_0 a0_1 a0_2 a0_3 a0_4 l0_5 l0_6 l0_7).bind fun bt329 => ((selfstabworld_Within.f a1 8).bind fun t341 => (selfstablaw42_DatalinkMoves.l0 k (wrap64 (1 + t341)) 0 bt329.1 bt329.2.1 bt329.2.2.1 bt329.2.2.2.1 bt329.2.2.2.2.1 bt329.2.2.2.2.2.1 bt329.2.2.2.2.2.2))
theorem selfstablaw42_DatalinkMoves.mono_l : ∀ k, (∀ y0 y1 y2 y3 y4 y5 y6 y7 y8, LeO (selfstablaw42_DatalinkMoves.l0 k y0 y1 y2 y3 y4 y5 y6 y7 y8) (selfstablaw42_DatalinkMoves.l0 (k + 1) y0 y1 y2 y3 y4 y5 y6 y7 y8)) ∧ (∀ y0 y1 y2 y3 y4 y5 y6 y7 y8 y9 y10, LeO (selfstablaw42_DatalinkMoves.l1 k y0 y1 y2 y3 y4 y5 y6 y7 y8 y9 y10) (selfstablaw42_DatalinkMoves.l1 (k + 1) y0 y1 y2 y3 y4 y5 y6 y7 y8 y9 y10))
  | 0 => ⟨fun _ _ _ _ _ _ _ _ _ r h => by simp [selfstablaw42_DatalinkMoves.l0] at h, fun _ _ _ _ _ _ _ _ _ _ _ r h => by simp [selfstablaw42_DatalinkMoves.l1] at h⟩
  | k + 1 => by
    obtain ⟨ih0, ih1⟩ := selfstablaw42_DatalinkMoves.mono_l k
    refine ⟨?_, ?_⟩
    · intro y0 y1 y2 y3 y4 y5 y6 y7 y8
      unfold selfstablaw42_DatalinkMoves.l0
      repeat' first
      | (with_reducible exact ih0 _ _ _ _ _ _ _ _ _)
      | (with_reducible exact ih1 _ _ _ _ _ _ _ _ _ _ _)
      | (with_reducible exact selfstablaw42_Raw_Link.mono _ _ _ _ _ _ _ _ _)
      | (with_reducible exact selfstablaw42_known.mono _)
      | (with_reducible exact LeO.refl _)
      | (with_reducible exact LeO.none _)
      | (with_reducible refine LeO.ite ?_ ?_)
      | (with_reducible refine LeO.bind ?_ (fun _ => ?_))
      | exact ih0 _ _ _ _ _ _ _ _ _
      | exact ih1 _ _ _ _ _ _ _ _ _ _ _
      | exact selfstablaw42_Raw_Link.mono _ _ _ _ _ _ _ _ _
      | exact selfstablaw42_known.mono _
      | exact LeO.none _
      | refine LeO.ite ?_ ?_
      | refine LeO.bind ?_ (fun _ => ?_)
    · intro y0 y1 y2 y3 y4 y5 y6 y7 y8 y9 y10
      unfold selfstablaw42_DatalinkMoves.l1
      repeat' first
      | (with_reducible exact ih0 _ _ _ _ _ _ _ _ _)
      | (with_reducible exact ih1 _ _ _ _ _ _ _ _ _ _ _)
      | (with_reducible exact selfstablaw42_Raw_Link.mono _ _ _ _ _ _ _ _ _)
      | (with_reducible exact selfstablaw42_known.mono _)
      | (with_reducible exact LeO.refl _)
      | (with_reducible exact LeO.none _)
      | (with_reducible refine LeO.ite ?_ ?_)
      | (with_reducible refine LeO.bind ?_ (fun _ => ?_))
      | exact ih0 _ _ _ _ _ _ _ _ _
      | exact ih1 _ _ _ _ _ _ _ _ _ _ _
      | exact selfstablaw42_Raw_Link.mono _ _ _ _ _ _ _ _ _
      | exact selfstablaw42_known.mono _
      | exact LeO.none _
      | refine LeO.ite ?_ ?_
      | refine LeO.bind ?_ (fun _ => ?_)
theorem selfstablaw42_DatalinkMoves.mono : ∀ a0 a1 a2 a3 a4 a5 a6 a7 a8 k, LeO (selfstablaw42_DatalinkMoves.f k a0 a1 a2 a3 a4 a5 a6 a7 a8) (selfstablaw42_DatalinkMoves.f (k + 1) a0 a1 a2 a3 a4 a5 a6 a7 a8) := by
  intro a0 a1 a2 a3 a4 a5 a6 a7 a8 k
  obtain ⟨ih0, ih1⟩ := selfstablaw42_DatalinkMoves.mono_l k
  unfold selfstablaw42_DatalinkMoves.f
  repeat' first
      | (with_reducible exact ih0 _ _ _ _ _ _ _ _ _)
      | (with_reducible exact ih1 _ _ _ _ _ _ _ _ _ _ _)
      | (with_reducible exact selfstablaw42_Raw_Link.mono _ _ _ _ _ _ _ _ _)
      | (with_reducible exact selfstablaw42_known.mono _)
      | (with_reducible exact LeO.refl _)
      | (with_reducible exact LeO.none _)
      | (with_reducible refine LeO.ite ?_ ?_)
      | (with_reducible refine LeO.bind ?_ (fun _ => ?_))
      | exact ih0 _ _ _ _ _ _ _ _ _
      | exact ih1 _ _ _ _ _ _ _ _ _ _ _
      | exact selfstablaw42_Raw_Link.mono _ _ _ _ _ _ _ _ _
      | exact selfstablaw42_known.mono _
      | exact LeO.none _
      | refine LeO.ite ?_ ?_
      | refine LeO.bind ?_ (fun _ => ?_)
set_option maxHeartbeats 8000000 in
set_option maxRecDepth 100000 in
theorem selfstablaw42_DatalinkMoves.calls (k : Nat) (a0_0 : Int) (a0_1 : Int) (a0_2 : Int) (a0_3 : Int) (a0_4 : Int) (A0_5 : Option Addr) (c0_5 : Nat) (l0_5 : List Int) (A0_6 : Option Addr) (c0_6 : Nat) (l0_6 : List Int) (A0_7 : Option Addr) (c0_7 : Nat) (l0_7 : List Int) (a1 : Int) (r : Bool) (w : World) (hr0_5 : Kd.C (Kd.int .i64) w A0_5 l0_5.length l0_5) (hc0_5 : l0_5.length ≤ c0_5) (hr0_6 : Kd.C (Kd.int .i64) w A0_6 l0_6.length l0_6) (hc0_6 : l0_6.length ≤ c0_6) (hr0_7 : Kd.C (Kd.int .i64) w A0_7 l0_7.length l0_7) (hc0_7 : l0_7.length ≤ c0_7) (h : selfstablaw42_DatalinkMoves.f k a0_0 a0_1 a0_2 a0_3 a0_4 l0_5 l0_6 l0_7 a1 = some r) :
    Calls Try.prog 5 #[.agg #[.int .i64 a0_0, .int .i64 a0_1, .int .i64 a0_2, .int .i64 a0_3, .int .i64 a0_4, .slice A0_5 l0_5.length c0_5, .slice A0_6 l0_6.length c0_6, .slice A0_7 l0_7.length c0_7], .int .i64 a1] w fun e w' => e = .returned (.bool r) ∧ Below w.heap.size w w' := by
  have hu24 := Try.underlying24
  have hu29 := Try.underlying29
  have hu40 := Try.underlying40
  have HR0_5 := Aside0.mk hr0_5
  have HC0_5 := Aside0.mk hc0_5
  clear hr0_5 hc0_5
  have HR0_6 := Aside0.mk hr0_6
  have HC0_6 := Aside0.mk hc0_6
  clear hr0_6 hc0_6
  have HR0_7 := Aside0.mk hr0_7
  have HC0_7 := Aside0.mk hc0_7
  clear hr0_7 hc0_7
  have HB := Aside0.mk (Below.refl w.heap.size w)
  have H : ((selfstablaw42_Raw_Link.f k a0_0 a0_1 a0_2 a0_3 a0_4 l0_5 l0_6 l0_7).bind fun bt329 => ((selfstabworld_Within.f a1 8).bind fun t341 => (selfstablaw42_DatalinkMoves.l0 k (wrap64 (1 + t341)) 0 bt329.1 bt329.2.1 bt329.2.2.1 bt329.2.2.2.1 bt329.2.2.2.2.1 bt329.2.2.2.2.2.1 bt329.2.2.2.2.2.2))) = some r := h
  clear h
  replace H := Option.bind_eq_some_iff.mp H
  obtain ⟨⟨t329, t330, t331, t332, t333, t334, t337⟩, A30, H⟩ := H
  replace H : ((selfstabworld_Within.f a1 8).bind fun t341 => (selfstablaw42_DatalinkMoves.l0 k (wrap64 (1 + t341)) 0 t329 t330 t331 t332 t333 t334 t337)) = some r := H
  have A3 := Aside0.mk A30
  clear A30
  replace H := Option.bind_eq_some_iff.mp H
  obtain ⟨t341, A40, H⟩ := H
  replace H : (selfstablaw42_DatalinkMoves.l0 k (wrap64 (1 + t341)) 0 t329 t330 t331 t332 t333 t334 t337) = some r := H
  have A4 := Aside0.mk A40
  clear A40
  have H' := Aside0.mk H
  clear H
  go_enter Try.func5, Try.ntmps5
  go_wp2_with (first | ((with_reducible refine gate_dst (N := 2) rfl ?_); refine box_event ?hg (N := 2) ?hd (cs := #[.int .i64 a0_0, .int .i64 a0_1, .int .i64 a0_2, .int .i64 a0_3, .int .i64 a0_4, .slice A0_5 l0_5.length c0_5, .slice A0_6 l0_6.length c0_6, .slice A0_7 l0_7.length c0_7]) (t := 24) ?hr ?_; (case hd => rfl); (case hg => rfl); (case hr => first | (go_simp; done) | (go_simp; rfl)); intro gb328 hg w5 hbox hb; have n0_ := Aside0.mk (below_step (by repeat (first | (with_reducible first | exact HB.out | apply below_alloc | apply pw_below_drewN | apply below_drew1) | exact HB.out)) hb); have n1_ := Aside0.mk (hbox); have n2_ := Aside0.mk ((by rw [hg]; exact (below_size (by repeat (first | (with_reducible first | exact HB.out | apply below_alloc | apply pw_below_drewN | apply below_drew1) | exact HB.out))) : w.heap.size ≤ gb328)); have n3_ := Aside0.mk ((by rw [hg]; exact (below_size (by repeat (first | (with_reducible first | exact HB.out | apply below_alloc | apply pw_below_drewN | apply below_drew1) | exact HB.out))) : w.heap.size ≤ gb328)); clear HB; have HB := n0_; have BK328 := n1_; have GW328 := n2_; have GE328 := n3_; clear n0_ n1_ n2_ n3_; clear hb hbox hg; have hcz6_0 : w5.cell? ⟨gb328, 0, none⟩ = some (.int .i64 a0_0) := (blk_cell BK328.out 0).trans rfl; have hcz6_1 : w5.cell? ⟨gb328, 1, none⟩ = some (.int .i64 a0_1) := (blk_cell BK328.out 1).trans rfl; have hcz6_2 : w5.cell? ⟨gb328, 2, none⟩ = some (.int .i64 a0_2) := (blk_cell BK328.out 2).trans rfl; have hcz6_3 : w5.cell? ⟨gb328, 3, none⟩ = some (.int .i64 a0_3) := (blk_cell BK328.out 3).trans rfl; have hcz6_4 : w5.cell? ⟨gb328, 4, none⟩ = some (.int .i64 a0_4) := (blk_cell BK328.out 4).trans rfl; have hcz6_5 : w5.cell? ⟨gb328, 5, none⟩ = some (.slice A0_5 l0_5.length c0_5) := (blk_cell BK328.out 5).trans rfl; have hcz6_6 : w5.cell? ⟨gb328, 6, none⟩ = some (.slice A0_6 l0_6.length c0_6) := (blk_cell BK328.out 6).trans rfl; have hcz6_7 : w5.cell? ⟨gb328, 7, none⟩ = some (.slice A0_7 l0_7.length c0_7) := (blk_cell BK328.out 7).trans rfl; have hfz6_0 := blk_frozen BK328.out 0; have hfz6_1 := blk_frozen BK328.out 1; have hfz6_2 := blk_frozen BK328.out 2; have hfz6_3 := blk_frozen BK328.out 3; have hfz6_4 := blk_frozen BK328.out 4; have hfz6_5 := blk_frozen BK328.out 5; have hfz6_6 := blk_frozen BK328.out 6; have hfz6_7 := blk_frozen BK328.out 7) | ((with_reducible refine gate_callee (f := 10) rfl ?_); refine goesL_ (some 10) rfl rfl Try.func10 (by kernel_rfl) rfl #[.agg #[.int .i64 a0_0, .int .i64 a0_1, .int .i64 a0_2, .int .i64 a0_3, .int .i64 a0_4, .slice A0_5 l0_5.length c0_5, .slice A0_6 l0_6.length c0_6, .slice A0_7 l0_7.length c0_7]] rfl (by (try simp only [List.map_toArray, List.map_cons, List.map_nil]); first | done | rfl | (simp only [List.length_drop, List.length_take]; rfl)) ?_; (with_reducible refine (selfstablaw42_Raw_Link.calls k a0_0 a0_1 a0_2 a0_3 a0_4 _ _ l0_5 _ _ l0_6 _ _ l0_7 t329 t330 t331 t332 t333 t334 t337 _ ?side1 ?side2 ?side3 ?side4 ?side5 ?side6 A3.out).mono ?_); (case side1 => repeat (first | exact (Kd.C_below HR0_5.out HB.out) | (with_reducible refine Kd.C_alloc ?_ _) | (with_reducible refine Kd.C_drewN ?_ _) | (with_reducible refine Kd.C_drew ?_))); (case side2 => exact HC0_5.out); (case side3 => repeat (first | exact (Kd.C_below HR0_6.out HB.out) | (with_reducible refine Kd.C_alloc ?_ _) | (with_reducible refine Kd.C_drewN ?_ _) | (with_reducible refine Kd.C_drew ?_))); (case side4 => exact HC0_6.out); (case side5 => repeat (first | exact (Kd.C_below HR0_7.out HB.out) | (with_reducible refine Kd.C_alloc ?_ _) | (with_reducible refine Kd.C_drewN ?_ _) | (with_reducible refine Kd.C_drew ?_))); (case side6 => exact HC0_7.out); rintro e w7 ⟨v335, v338, rfl, ho0, ho1, hb⟩; refine ⟨_, rfl, ?_⟩; have n0_ := Aside0.mk (Kd.R_lower ho0 (below_size (by repeat (first | (with_reducible first | exact HB.out | apply below_alloc | apply pw_below_drewN | apply below_drew1 | refine below_set ?_ GE328.out) | exact HB.out)))); have n1_ := Aside0.mk (Kd.R_lower ho1 (below_size (by repeat (first | (with_reducible first | exact HB.out | apply below_alloc | apply pw_below_drewN | apply below_drew1 | refine below_set ?_ GE328.out) | exact HB.out)))); have n2_ := Aside0.mk (blk_below (g := gb328) (o := .cells #[.int .i64 a0_0, .int .i64 a0_1, .int .i64 a0_2, .int .i64 a0_3, .int .i64 a0_4, .slice A0_5 l0_5.length c0_5, .slice A0_6 l0_6.length c0_6, .slice A0_7 l0_7.length c0_7] 24 (0, 0)) (by (with_reducible repeat (first | refine blk_drewN ?_ _ | refine blk_drew ?_ | refine blk_alloc ?_ _)); exact BK328.out) hb); have n3_ := Aside0.mk (below_step (by repeat (first | (with_reducible first | exact HB.out | apply below_alloc | apply pw_below_drewN | apply below_drew1 | refine below_set ?_ GE328.out) | exact HB.out)) hb); clear BK328; clear HB; have HO336 := n0_; have HO339 := n1_; have BK328 := n2_; have HB := n3_; clear n0_ n1_ n2_ n3_; (try clear hb); (try clear hb2); (try clear hk); (try clear hi); (try clear ho0); (try clear ho1)) | ((with_reducible refine gate_dst (N := 5) rfl ?_); refine box_event ?hg (N := 5) ?hd (cs := #[.int .i64 0, .int .i64 0, .int .i64 0, .int .i64 0, .int .i64 0, .slice none 0 0, .slice none 0 0]) (t := 29) ?hr ?_; (case hd => rfl); (case hg => rfl); (case hr => first | (go_simp; done) | (go_simp; rfl)); intro gb340 hg w8 hbox hb; have n0_ := Aside0.mk (Kd.R_below (by (with_reducible repeat (first | apply Kd.R_alloc | apply Kd.R_drewN | apply Kd.R_drew)); exact HO336.out) hb); have n1_ := Aside0.mk (Kd.R_below (by (with_reducible repeat (first | apply Kd.R_alloc | apply Kd.R_drewN | apply Kd.R_drew)); exact HO339.out) hb); have n2_ := Aside0.mk (blk_below (g := gb328) (o := .cells #[.int .i64 a0_0, .int .i64 a0_1, .int .i64 a0_2, .int .i64 a0_3, .int .i64 a0_4, .slice A0_5 l0_5.length c0_5, .slice A0_6 l0_6.length c0_6, .slice A0_7 l0_7.length c0_7] 24 (0, 0)) (by (with_reducible repeat (first | refine blk_drewN ?_ _ | refine blk_drew ?_ | refine blk_alloc ?_ _)); exact BK328.out) hb); have n3_ := Aside0.mk (below_step (by repeat (first | (with_reducible first | exact HB.out | apply below_alloc | apply pw_below_drewN | apply below_drew1 | refine below_set ?_ GE328.out) | exact HB.out)) hb); have n4_ := Aside0.mk (hbox); have n5_ := Aside0.mk ((by rw [hg]; exact (below_size (by repeat (first | (with_reducible first | exact HB.out | apply below_alloc | apply pw_below_drewN | apply below_drew1 | refine below_set ?_ GE328.out) | exact HB.out))) : w.heap.size ≤ gb340)); have n6_ := Aside0.mk ((by rw [hg]; exact (below_size (by repeat (first | (with_reducible first | exact HB.out | apply below_alloc | apply pw_below_drewN | apply below_drew1 | refine below_set ?_ GE328.out) | exact HB.out))) : w.heap.size ≤ gb340)); have n7_ := Aside0.mk ((by rw [hg]; exact Nat.ne_of_lt (blk_lt (g := gb328) (o := .cells #[.int .i64 a0_0, .int .i64 a0_1, .int .i64 a0_2, .int .i64 a0_3, .int .i64 a0_4, .slice A0_5 l0_5.length c0_5, .slice A0_6 l0_6.length c0_6, .slice A0_7 l0_7.length c0_7] 24 (0, 0)) (by (with_reducible repeat (first | refine blk_drewN ?_ _ | refine blk_drew ?_ | refine blk_alloc ?_ _)); exact BK328.out)) : gb328 ≠ gb340)); have n8_ := Aside0.mk ((by rw [hg]; exact Nat.ne_of_gt (blk_lt (g := gb328) (o := .cells #[.int .i64 a0_0, .int .i64 a0_1, .int .i64 a0_2, .int .i64 a0_3, .int .i64 a0_4, .slice A0_5 l0_5.length c0_5, .slice A0_6 l0_6.length c0_6, .slice A0_7 l0_7.length c0_7] 24 (0, 0)) (by (with_reducible repeat (first | refine blk_drewN ?_ _ | refine blk_drew ?_ | refine blk_alloc ?_ _)); exact BK328.out)) : gb340 ≠ gb328)); clear HO336; clear HO339; clear BK328; clear HB; have HO336 := n0_; have HO339 := n1_; have BK328 := n2_; have HB := n3_; have BK340 := n4_; have GW340 := n5_; have GE340 := n6_; have NB328_340 := n7_; have NB340_328 := n8_; clear n0_ n1_ n2_ n3_ n4_ n5_ n6_ n7_ n8_; clear hb hbox hg; have hnb9 := NB340_328.out; have hnc9 := NB328_340.out; have hcz10_0 : w8.cell? ⟨gb340, 0, none⟩ = some (.int .i64 0) := (blk_cell BK340.out 0).trans rfl; have hcz10_1 : w8.cell? ⟨gb340, 1, none⟩ = some (.int .i64 0) := (blk_cell BK340.out 1).trans rfl; have hcz10_2 : w8.cell? ⟨gb340, 2, none⟩ = some (.int .i64 0) := (blk_cell BK340.out 2).trans rfl; have hcz10_3 : w8.cell? ⟨gb340, 3, none⟩ = some (.int .i64 0) := (blk_cell BK340.out 3).trans rfl; have hcz10_4 : w8.cell? ⟨gb340, 4, none⟩ = some (.int .i64 0) := (blk_cell BK340.out 4).trans rfl; have hcz10_5 : w8.cell? ⟨gb340, 5, none⟩ = some (.slice none 0 0) := (blk_cell BK340.out 5).trans rfl; have hcz10_6 : w8.cell? ⟨gb340, 6, none⟩ = some (.slice none 0 0) := (blk_cell BK340.out 6).trans rfl; have hfz10_0 := blk_frozen BK340.out 0; have hfz10_1 := blk_frozen BK340.out 1; have hfz10_2 := blk_frozen BK340.out 2; have hfz10_3 := blk_frozen BK340.out 3; have hfz10_4 := blk_frozen BK340.out 4; have hfz10_5 := blk_frozen BK340.out 5; have hfz10_6 := blk_frozen BK340.out 6; obtain ⟨Ao11, co11, eo11⟩ := Kd.R_slice HO336.out; subst eo11; obtain ⟨Ao12, co12, eo12⟩ := Kd.R_slice HO339.out; subst eo12) | ((with_reducible refine gate_callee (f := 17) rfl ?_); refine goesL_ (some 12) rfl rfl Try.func17 (by kernel_rfl) rfl #[.int .i64 a1, .int .i64 8] rfl (by (try simp only [List.map_toArray, List.map_cons, List.map_nil]); first | done | rfl | (simp only [List.length_drop, List.length_take]; rfl)) ?_; (with_reducible refine (selfstabworld_Within.calls a1 8 t341 _ A4.out).mono ?_); rintro e w' ⟨rfl, ⟨nd, rfl⟩⟩; refine ⟨_, rfl, ?_⟩))
  go_loopg [6] k (fun kq v6 w' => ∃ (x6_1 : Int) (x341000_1 : Int) (x341001_1 : Int) (x341002_1 : Int) (x341003_1 : Int) (x341004_1 : Int) (x341005_1 : List (S46)) (x341006_1 : List Int) (u341005 : Value) (u341006 : Value), v6 = .int .i64 x6_1 ∧ Aside0 (selfstablaw42_DatalinkMoves.l0 kq (wrap64 (1 + t341)) x6_1 x341000_1 x341001_1 x341002_1 x341003_1 x341004_1 x341005_1 x341006_1 = some r) ∧ Aside0 (kq ≤ k) ∧ Aside0 (Kd.R k46 46 w' w.heap.size (fun _ => True) u341005 x341005_1) ∧ Aside0 (Kd.R (Kd.int .i64) 3 w' w.heap.size (fun _ => True) u341006 x341006_1) ∧ Aside0 (w'.heap[gb328]? = some (.cells #[.int .i64 a0_0, .int .i64 a0_1, .int .i64 a0_2, .int .i64 a0_3, .int .i64 a0_4, (.slice A0_5 l0_5.length c0_5), (.slice A0_6 l0_6.length c0_6), (.slice A0_7 l0_7.length c0_7)] 24 (0, 0))) ∧ Aside0 (w'.heap[gb340]? = some (.cells #[.int .i64 x341000_1, .int .i64 x341001_1, .int .i64 x341002_1, .int .i64 x341003_1, .int .i64 x341004_1, u341005, u341006] 29 (0, 0))) ∧ Aside0 (Below w.heap.size w w'))
  case atStart => exact ⟨(0), (t329), (t330), (t331), (t332), (t333), (t334), (t337), (.slice Ao11 t334.length co11), (.slice Ao12 t337.length co12), (by first | rfl | (simp; done) | (simp [*]; done)), H', ⟨Nat.le_refl _⟩, ⟨by (with_reducible repeat (first | apply Kd.R_alloc | apply Kd.R_drewN | apply Kd.R_drew)); exact Kd.R_mono (Kd.R_far (p := ⟨gb340, 6, none⟩) (Kd.R_far (p := ⟨gb340, 5, none⟩) (Kd.R_far (p := ⟨gb340, 4, none⟩) (Kd.R_far (p := ⟨gb340, 3, none⟩) (Kd.R_far (p := ⟨gb340, 2, none⟩) (Kd.R_far (p := ⟨gb340, 1, none⟩) (Kd.R_far (p := ⟨gb340, 0, none⟩) (Kd.R_types HO336.out BK340.out (by decide)) (fun _ hk => hk.2) (.int .i64 t329)) (fun _ hk => hk.2) (.int .i64 t330)) (fun _ hk => hk.2) (.int .i64 t331)) (fun _ hk => hk.2) (.int .i64 t332)) (fun _ hk => hk.2) (.int .i64 t333)) (fun _ hk => hk.2) (.slice Ao11 t334.length co11)) (fun _ hk => hk.2) (.slice Ao12 t337.length co12)) (fun _ hk => trivial)⟩, ⟨by (with_reducible repeat (first | apply Kd.R_alloc | apply Kd.R_drewN | apply Kd.R_drew)); exact Kd.R_mono (Kd.R_far (p := ⟨gb340, 6, none⟩) (Kd.R_far (p := ⟨gb340, 5, none⟩) (Kd.R_far (p := ⟨gb340, 4, none⟩) (Kd.R_far (p := ⟨gb340, 3, none⟩) (Kd.R_far (p := ⟨gb340, 2, none⟩) (Kd.R_far (p := ⟨gb340, 1, none⟩) (Kd.R_far (p := ⟨gb340, 0, none⟩) (Kd.R_types HO339.out BK340.out (by decide)) (fun _ hk => hk.2) (.int .i64 t329)) (fun _ hk => hk.2) (.int .i64 t330)) (fun _ hk => hk.2) (.int .i64 t331)) (fun _ hk => hk.2) (.int .i64 t332)) (fun _ hk => hk.2) (.int .i64 t333)) (fun _ hk => hk.2) (.slice Ao11 t334.length co11)) (fun _ hk => hk.2) (.slice Ao12 t337.length co12)) (fun _ hk => trivial)⟩, ⟨by (with_reducible repeat (first | refine blk_drewN ?_ _ | refine blk_drew ?_ | refine blk_alloc ?_ _)); refine blk_far ?_ NB328_340.out _; (with_reducible repeat (first | refine blk_drewN ?_ _ | refine blk_drew ?_ | refine blk_alloc ?_ _)); refine blk_far ?_ NB328_340.out _; (with_reducible repeat (first | refine blk_drewN ?_ _ | refine blk_drew ?_ | refine blk_alloc ?_ _)); refine blk_far ?_ NB328_340.out _; (with_reducible repeat (first | refine blk_drewN ?_ _ | refine blk_drew ?_ | refine blk_alloc ?_ _)); refine blk_far ?_ NB328_340.out _; (with_reducible repeat (first | refine blk_drewN ?_ _ | refine blk_drew ?_ | refine blk_alloc ?_ _)); refine blk_far ?_ NB328_340.out _; (with_reducible repeat (first | refine blk_drewN ?_ _ | refine blk_drew ?_ | refine blk_alloc ?_ _)); refine blk_far ?_ NB328_340.out _; (with_reducible repeat (first | refine blk_drewN ?_ _ | refine blk_drew ?_ | refine blk_alloc ?_ _)); refine blk_far ?_ NB328_340.out _; (with_reducible repeat (first | refine blk_drewN ?_ _ | refine blk_drew ?_ | refine blk_alloc ?_ _)); exact BK328.out⟩, ⟨by (with_reducible repeat (first | refine blk_drewN ?_ _ | refine blk_drew ?_ | refine blk_alloc ?_ _)); refine blk_put (cs := #[.int .i64 t329, .int .i64 t330, .int .i64 t331, .int .i64 t332, .int .i64 t333, .slice Ao11 t334.length co11, .slice none 0 0]) ?_ 6 _ rfl; (with_reducible repeat (first | refine blk_drewN ?_ _ | refine blk_drew ?_ | refine blk_alloc ?_ _)); refine blk_put (cs := #[.int .i64 t329, .int .i64 t330, .int .i64 t331, .int .i64 t332, .int .i64 t333, .slice none 0 0, .slice none 0 0]) ?_ 5 _ rfl; (with_reducible repeat (first | refine blk_drewN ?_ _ | refine blk_drew ?_ | refine blk_alloc ?_ _)); refine blk_put (cs := #[.int .i64 t329, .int .i64 t330, .int .i64 t331, .int .i64 t332, .int .i64 0, .slice none 0 0, .slice none 0 0]) ?_ 4 _ rfl; (with_reducible repeat (first | refine blk_drewN ?_ _ | refine blk_drew ?_ | refine blk_alloc ?_ _)); refine blk_put (cs := #[.int .i64 t329, .int .i64 t330, .int .i64 t331, .int .i64 0, .int .i64 0, .slice none 0 0, .slice none 0 0]) ?_ 3 _ rfl; (with_reducible repeat (first | refine blk_drewN ?_ _ | refine blk_drew ?_ | refine blk_alloc ?_ _)); refine blk_put (cs := #[.int .i64 t329, .int .i64 t330, .int .i64 0, .int .i64 0, .int .i64 0, .slice none 0 0, .slice none 0 0]) ?_ 2 _ rfl; (with_reducible repeat (first | refine blk_drewN ?_ _ | refine blk_drew ?_ | refine blk_alloc ?_ _)); refine blk_put (cs := #[.int .i64 t329, .int .i64 0, .int .i64 0, .int .i64 0, .int .i64 0, .slice none 0 0, .slice none 0 0]) ?_ 1 _ rfl; (with_reducible repeat (first | refine blk_drewN ?_ _ | refine blk_drew ?_ | refine blk_alloc ?_ _)); refine blk_put (cs := #[.int .i64 0, .int .i64 0, .int .i64 0, .int .i64 0, .int .i64 0, .slice none 0 0, .slice none 0 0]) ?_ 0 _ rfl; (with_reducible repeat (first | refine blk_drewN ?_ _ | refine blk_drew ?_ | refine blk_alloc ?_ _)); exact BK340.out⟩, ⟨by repeat (first | (with_reducible first | exact HB.out | apply below_alloc | apply pw_below_drewN | apply below_drew1 | refine below_set ?_ GE328.out | refine below_set ?_ GE340.out) | exact HB.out)⟩⟩
  case round =>
    clear H'
    try clear c1
    try clear p2
    try clear c5
    try clear p6
    try clear c9
    try clear c10
    try clear hcz10_0
    try clear hcz10_1
    try clear hcz10_2
    try clear hcz10_3
    try clear hcz10_4
    try clear hcz10_5
    try clear hcz10_6
    try clear hcz6_0
    try clear hcz6_1
    try clear hcz6_2
    try clear hcz6_3
    try clear hcz6_4
    try clear hcz6_5
    try clear hcz6_6
    try clear hcz6_7
    try clear hfz10_0
    try clear hfz10_1
    try clear hfz10_2
    try clear hfz10_3
    try clear hfz10_4
    try clear hfz10_5
    try clear hfz10_6
    try clear hfz6_0
    try clear hfz6_1
    try clear hfz6_2
    try clear hfz6_3
    try clear hfz6_4
    try clear hfz6_5
    try clear hfz6_6
    try clear hfz6_7
    obtain ⟨x6_1, x341000_1, x341001_1, x341002_1, x341003_1, x341004_1, x341005_1, x341006_1, u341005, u341006, rfl, HA, HK1, HO_341005, HO_341006, BK328, BK340, HB⟩ := hrel
    cases gk with
    | zero => exact absurd HA.out (by simp [selfstablaw42_DatalinkMoves.l0])
    | succ k1 =>
      have H := HA.out
      clear HA
      simp only [selfstablaw42_DatalinkMoves.l0] at H
      by_cases c13 : x6_1 < (wrap64 (1 + t341))
      · rw [if_pos c13] at H
        have c13b0 : decide (x6_1 < (wrap64 (1 + t341))) = true := decide_eq_true c13
        clear c13
        have H' := Aside0.mk H
        clear H
        have hnb14 := NB340_328.out
        have hnc14 := NB328_340.out
        have hcz15_0 : wr.cell? ⟨gb340, 0, none⟩ = some (.int .i64 x341000_1) := (blk_cell BK340.out 0).trans rfl
        have hcz15_1 : wr.cell? ⟨gb340, 1, none⟩ = some (.int .i64 x341001_1) := (blk_cell BK340.out 1).trans rfl
        have hcz15_2 : wr.cell? ⟨gb340, 2, none⟩ = some (.int .i64 x341002_1) := (blk_cell BK340.out 2).trans rfl
        have hcz15_3 : wr.cell? ⟨gb340, 3, none⟩ = some (.int .i64 x341003_1) := (blk_cell BK340.out 3).trans rfl
        have hcz15_4 : wr.cell? ⟨gb340, 4, none⟩ = some (.int .i64 x341004_1) := (blk_cell BK340.out 4).trans rfl
        have hcz15_5 : wr.cell? ⟨gb340, 5, none⟩ = some (u341005) := (blk_cell BK340.out 5).trans rfl
        have hcz15_6 : wr.cell? ⟨gb340, 6, none⟩ = some (u341006) := (blk_cell BK340.out 6).trans rfl
        have hfz15_0 := blk_frozen BK340.out 0
        have hfz15_1 := blk_frozen BK340.out 1
        have hfz15_2 := blk_frozen BK340.out 2
        have hfz15_3 := blk_frozen BK340.out 3
        have hfz15_4 := blk_frozen BK340.out 4
        have hfz15_5 := blk_frozen BK340.out 5
        have hfz15_6 := blk_frozen BK340.out 6
        go_wp2
        go_loopg [8] k1 (fun kq v8 w' => ∃ (x8_2 : Int) (x341000_2 : Int) (x341001_2 : Int) (x341002_2 : Int) (x341003_2 : Int) (x341004_2 : Int) (x341005_2 : List (S46)) (x341006_2 : List Int) (u341005 : Value) (u341006 : Value), v8 = .int .i64 x8_2 ∧ Aside0 (selfstablaw42_DatalinkMoves.l1 kq (wrap64 (1 + t341)) x6_1 x341003_1 x8_2 x341000_2 x341001_2 x341002_2 x341003_2 x341004_2 x341005_2 x341006_2 = some r) ∧ Aside0 (kq ≤ k1) ∧ Aside0 (Kd.R k46 46 w' w.heap.size (fun _ => True) u341005 x341005_2) ∧ Aside0 (Kd.R (Kd.int .i64) 3 w' w.heap.size (fun _ => True) u341006 x341006_2) ∧ Aside0 (w'.heap[gb328]? = some (.cells #[.int .i64 a0_0, .int .i64 a0_1, .int .i64 a0_2, .int .i64 a0_3, .int .i64 a0_4, (.slice A0_5 l0_5.length c0_5), (.slice A0_6 l0_6.length c0_6), (.slice A0_7 l0_7.length c0_7)] 24 (0, 0))) ∧ Aside0 (w'.heap[gb340]? = some (.cells #[.int .i64 x341000_2, .int .i64 x341001_2, .int .i64 x341002_2, .int .i64 x341003_2, .int .i64 x341004_2, u341005, u341006] 29 (0, 0))) ∧ Aside0 (Below w.heap.size w w'))
        case atStart => exact ⟨(0), (x341000_1), (x341001_1), (x341002_1), (x341003_1), (x341004_1), (x341005_1), (x341006_1), (u341005), (u341006), (by first | rfl | (simp; done) | (simp [*]; done)), H', ⟨Nat.le_refl _⟩, ⟨by (with_reducible repeat (first | apply Kd.R_alloc | apply Kd.R_drewN | apply Kd.R_drew)); exact HO_341005.out⟩, ⟨by (with_reducible repeat (first | apply Kd.R_alloc | apply Kd.R_drewN | apply Kd.R_drew)); exact HO_341006.out⟩, ⟨by (with_reducible repeat (first | refine blk_drewN ?_ _ | refine blk_drew ?_ | refine blk_alloc ?_ _)); exact BK328.out⟩, ⟨by (with_reducible repeat (first | refine blk_drewN ?_ _ | refine blk_drew ?_ | refine blk_alloc ?_ _)); exact BK340.out⟩, ⟨by repeat (first | (with_reducible first | exact HB.out | apply below_alloc | apply pw_below_drewN | apply below_drew1 | refine below_set ?_ GE328.out | refine below_set ?_ GE340.out) | exact HB.out)⟩⟩
        case round =>
          clear H'
          try clear c1
          try clear p2
          try clear c5
          try clear p6
          try clear c9
          try clear c10
          try clear c13
          try clear c13b0
          try clear c14
          try clear hcz10_0
          try clear hcz10_1
          try clear hcz10_2
          try clear hcz10_3
          try clear hcz10_4
          try clear hcz10_5
          try clear hcz10_6
          try clear hcz15_0
          try clear hcz15_1
          try clear hcz15_2
          try clear hcz15_3
          try clear hcz15_4
          try clear hcz15_5
          try clear hcz15_6
          try clear hcz6_0
          try clear hcz6_1
          try clear hcz6_2
          try clear hcz6_3
          try clear hcz6_4
          try clear hcz6_5
          try clear hcz6_6
          try clear hcz6_7
          try clear hfz10_0
          try clear hfz10_1
          try clear hfz10_2
          try clear hfz10_3
          try clear hfz10_4
          try clear hfz10_5
          try clear hfz10_6
          try clear hfz15_0
          try clear hfz15_1
          try clear hfz15_2
          try clear hfz15_3
          try clear hfz15_4
          try clear hfz15_5
          try clear hfz15_6
          try clear hfz6_0
          try clear hfz6_1
          try clear hfz6_2
          try clear hfz6_3
          try clear hfz6_4
          try clear hfz6_5
          try clear hfz6_6
          try clear hfz6_7
          try clear p2
          try clear p6
          obtain ⟨x8_2, x341000_2, x341001_2, x341002_2, x341003_2, x341004_2, x341005_2, x341006_2, u341005, u341006, rfl, HA, HK2, HO_341005, HO_341006, BK328, BK340, HB⟩ := hrel
          cases gk with
          | zero => exact absurd HA.out (by simp [selfstablaw42_DatalinkMoves.l1])
          | succ k2 =>
            have H := HA.out
            clear HA
            simp only [selfstablaw42_DatalinkMoves.l1] at H
            by_cases c16 : x8_2 < (wrap64 (2 * x341000_2))
            · rw [if_pos c16] at H
              have c16b0 : decide (x8_2 < (wrap64 (2 * x341000_2))) = true := decide_eq_true c16
              clear c16
              obtain ⟨y343, hy343⟩ : ∃ y_ : List (S40), y_ = (([(⟨2, 0⟩ : S40), (⟨3, 0⟩ : S40), (⟨1, 0⟩ : S40)] : List (S40))) := ⟨_, rfl⟩
              replace H : ((datalink_Run.f x341000_2 x341001_2 x341002_2 x341003_2 x341004_2 x341005_2 x341006_2 y343).bind fun bt346 => (selfstablaw42_DatalinkMoves.l1 k2 (wrap64 (1 + t341)) x6_1 x341003_1 (wrap64 (x8_2 + 1)) bt346.1 bt346.2.1 bt346.2.2.1 bt346.2.2.2.1 bt346.2.2.2.2.1 bt346.2.2.2.2.2.1 bt346.2.2.2.2.2.2.1)) = some r := by first | (rw [hy343]; with_reducible exact H) | (have H2_ := (Option.bind_some _ _).symm.trans H; rw [hy343]; with_reducible exact H2_) | (have H2_ := (Option.bind_some _ _).symm.trans H; with_reducible exact H2_) | with_reducible exact H | (rw [hy343]; exact H) | exact H
              have Ny343 := Aside0.mk hy343
              clear hy343
              replace H := Option.bind_eq_some_iff.mp H
              obtain ⟨⟨t346, t347, t348, t349, t350, t351, t354, t357⟩, A170, H⟩ := H
              replace H : (selfstablaw42_DatalinkMoves.l1 k2 (wrap64 (1 + t341)) x6_1 x341003_1 (wrap64 (x8_2 + 1)) t346 t347 t348 t349 t350 t351 t354) = some r := H
              have A17 := Aside0.mk A170
              clear A170
              have H' := Aside0.mk H
              clear H
              have hnb18 := NB340_328.out
              have hnc18 := NB328_340.out
              have hcz19_0 : wr.cell? ⟨gb340, 0, none⟩ = some (.int .i64 x341000_2) := (blk_cell BK340.out 0).trans rfl
              have hcz19_1 : wr.cell? ⟨gb340, 1, none⟩ = some (.int .i64 x341001_2) := (blk_cell BK340.out 1).trans rfl
              have hcz19_2 : wr.cell? ⟨gb340, 2, none⟩ = some (.int .i64 x341002_2) := (blk_cell BK340.out 2).trans rfl
              have hcz19_3 : wr.cell? ⟨gb340, 3, none⟩ = some (.int .i64 x341003_2) := (blk_cell BK340.out 3).trans rfl
              have hcz19_4 : wr.cell? ⟨gb340, 4, none⟩ = some (.int .i64 x341004_2) := (blk_cell BK340.out 4).trans rfl
              have hcz19_5 : wr.cell? ⟨gb340, 5, none⟩ = some (u341005) := (blk_cell BK340.out 5).trans rfl
              have hcz19_6 : wr.cell? ⟨gb340, 6, none⟩ = some (u341006) := (blk_cell BK340.out 6).trans rfl
              have hfz19_0 := blk_frozen BK340.out 0
              have hfz19_1 := blk_frozen BK340.out 1
              have hfz19_2 := blk_frozen BK340.out 2
              have hfz19_3 := blk_frozen BK340.out 3
              have hfz19_4 := blk_frozen BK340.out 4
              have hfz19_5 := blk_frozen BK340.out 5
              have hfz19_6 := blk_frozen BK340.out 6
              go_wp2_with (first | ((with_reducible refine gate_dst (N := 33) rfl ?_); refine Kd.R_lit k40 _ 40 ?hg (N := 33) ?hd (xs := ([(⟨2, 0⟩ : S40), (⟨3, 0⟩ : S40), (⟨1, 0⟩ : S40)] : List (S40))) (inner := [.int .i64 2, .int .i64 0, .int .i64 3, .int .i64 0, .int .i64 1, .int .i64 0]) (ok := fun _ => True) (okp := fun _ => True) ?hr ?hp (fun _ hk => hk) trivial (Below.refl _ _) (Nat.le_refl _) (by simp) ?_; (case hd => rfl); (case hg => rfl); (case hr => first | (go_simp; done) | (go_simp; rfl)); (case hp => exact (Reps.c2 (show Kd.M k40 _ _ _ (⟨2, 0⟩ : S40) [.int .i64 2, .int .i64 0] from (k40_mkM _ _ _ (⟨2, 0⟩ : S40) )) (Reps.c2 (show Kd.M k40 _ _ _ (⟨3, 0⟩ : S40) [.int .i64 3, .int .i64 0] from (k40_mkM _ _ _ (⟨3, 0⟩ : S40) )) (Reps.c2 (show Kd.M k40 _ _ _ (⟨1, 0⟩ : S40) [.int .i64 1, .int .i64 0] from (k40_mkM _ _ _ (⟨1, 0⟩ : S40) )) (Reps.none _ _))))); intro v344 w20 ho21 hb hg_ hnew_; clear hg_ hnew_; (first | rw [← Ny343.out] at ho21 | (simp only [Int.reduceToNat] at ho21; rw [← Ny343.out] at ho21)); have n0_ := Aside0.mk (Kd.R_below (by (with_reducible repeat (first | apply Kd.R_alloc | apply Kd.R_drewN | apply Kd.R_drew)); exact HO_341005.out) hb); have n1_ := Aside0.mk (Kd.R_below (by (with_reducible repeat (first | apply Kd.R_alloc | apply Kd.R_drewN | apply Kd.R_drew)); exact HO_341006.out) hb); have n2_ := Aside0.mk (Kd.R_lower ho21 (below_size (by repeat (first | (with_reducible first | exact HB.out | apply below_alloc | apply pw_below_drewN | apply below_drew1 | refine below_set ?_ GE328.out | refine below_set ?_ GE340.out) | exact HB.out)))); have n3_ := Aside0.mk (blk_below (g := gb328) (o := .cells #[.int .i64 a0_0, .int .i64 a0_1, .int .i64 a0_2, .int .i64 a0_3, .int .i64 a0_4, .slice A0_5 l0_5.length c0_5, .slice A0_6 l0_6.length c0_6, .slice A0_7 l0_7.length c0_7] 24 (0, 0)) (by (with_reducible repeat (first | refine blk_drewN ?_ _ | refine blk_drew ?_ | refine blk_alloc ?_ _)); exact BK328.out) hb); have n4_ := Aside0.mk (blk_below (g := gb340) (o := .cells #[.int .i64 x341000_2, .int .i64 x341001_2, .int .i64 x341002_2, .int .i64 x341003_2, .int .i64 x341004_2, u341005, u341006] 29 (0, 0)) (by (with_reducible repeat (first | refine blk_drewN ?_ _ | refine blk_drew ?_ | refine blk_alloc ?_ _)); exact BK340.out) hb); have n5_ := Aside0.mk (below_step (by repeat (first | (with_reducible first | exact HB.out | apply below_alloc | apply pw_below_drewN | apply below_drew1 | refine below_set ?_ GE328.out | refine below_set ?_ GE340.out) | exact HB.out)) hb); clear HO_341005; clear HO_341006; clear BK328; clear BK340; clear HB; have HO_341005 := n0_; have HO_341006 := n1_; have HO345 := n2_; have BK328 := n3_; have BK340 := n4_; have HB := n5_; clear n0_ n1_ n2_ n3_ n4_ n5_; clear hb ho21; obtain ⟨Ao22, co22, eo22⟩ := Kd.R_slice HO_341005.out; subst eo22; obtain ⟨Ao23, co23, eo23⟩ := Kd.R_slice HO_341006.out; subst eo23; obtain ⟨Ao24, co24, eo24⟩ := Kd.R_slice HO345.out; subst eo24) | ((with_reducible refine gate_callee (f := 11) rfl ?_); refine goesL_ (some 34) rfl rfl Try.func11 (by kernel_rfl) rfl #[.agg #[.int .i64 x341000_2, .int .i64 x341001_2, .int .i64 x341002_2, .int .i64 x341003_2, .int .i64 x341004_2, .slice Ao22 x341005_2.length co22, .slice Ao23 x341006_2.length co23], .slice Ao24 y343.length co24] rfl (by (try simp only [List.map_toArray, List.map_cons, List.map_nil]); first | done | rfl | (simp only [List.length_drop, List.length_take]; rfl)) ?_; (with_reducible refine (datalink_Run.calls x341000_2 x341001_2 x341002_2 x341003_2 x341004_2 _ _ x341005_2 _ _ x341006_2 _ _ y343 t346 t347 t348 t349 t350 t351 t354 t357 _ ?side1 ?side2 ?side3 ?side4 ?side5 ?side6 A17.out).mono ?_); (case side1 => repeat (first | exact (Kd.R_reads' HO_341005.out).2.2 | (with_reducible refine Kd.C_alloc ?_ _) | (with_reducible refine Kd.C_drewN ?_ _) | (with_reducible refine Kd.C_drew ?_))); (case side2 => exact (Kd.R_reads' HO_341005.out).2.1); (case side3 => repeat (first | exact (Kd.R_reads' HO_341006.out).2.2 | (with_reducible refine Kd.C_alloc ?_ _) | (with_reducible refine Kd.C_drewN ?_ _) | (with_reducible refine Kd.C_drew ?_))); (case side4 => exact (Kd.R_reads' HO_341006.out).2.1); (case side5 => repeat (first | exact (Kd.R_reads' HO345.out).2.2 | (with_reducible refine Kd.C_alloc ?_ _) | (with_reducible refine Kd.C_drewN ?_ _) | (with_reducible refine Kd.C_drew ?_))); (case side6 => exact (Kd.R_reads' HO345.out).2.1); rintro e w25 ⟨v352, v355, v358, rfl, ho0, ho1, ho2, hb⟩; refine ⟨_, rfl, ?_⟩; have n0_ := Aside0.mk (Kd.R_elder' (by (with_reducible repeat (first | apply Kd.R_alloc | apply Kd.R_drewN | apply Kd.R_drew)); exact HO_341005.out) (Kd.R_base ho0) hb); have n1_ := Aside0.mk (Kd.R_mono (Kd.R_told (Kd.R_told (Kd.R_old (by (with_reducible repeat (first | apply Kd.R_alloc | apply Kd.R_drewN | apply Kd.R_drew)); exact HO_341006.out) hb) (Kd.R_base ho1)) (Kd.R_base ho2)) (fun _ h_ => h_.1)); have n2_ := Aside0.mk (Kd.R_below (by (with_reducible repeat (first | apply Kd.R_alloc | apply Kd.R_drewN | apply Kd.R_drew)); exact HO345.out) hb); have n3_ := Aside0.mk (Kd.R_lower (Kd.R_new' ho0 (Kd.R_lt (by (with_reducible repeat (first | apply Kd.R_alloc | apply Kd.R_drewN | apply Kd.R_drew)); exact HO_341005.out))) (below_size (by repeat (first | (with_reducible first | exact HB.out | apply below_alloc | apply pw_below_drewN | apply below_drew1 | refine below_set ?_ GE328.out | refine below_set ?_ GE340.out) | exact HB.out)))); have n4_ := Aside0.mk (Kd.R_lower (Kd.R_new' ho1 (Kd.R_lt (by (with_reducible repeat (first | apply Kd.R_alloc | apply Kd.R_drewN | apply Kd.R_drew)); exact HO_341006.out))) (below_size (by repeat (first | (with_reducible first | exact HB.out | apply below_alloc | apply pw_below_drewN | apply below_drew1 | refine below_set ?_ GE328.out | refine below_set ?_ GE340.out) | exact HB.out)))); have n5_ := Aside0.mk (Kd.R_lower (Kd.R_new' ho2 (Kd.R_lt (by (with_reducible repeat (first | apply Kd.R_alloc | apply Kd.R_drewN | apply Kd.R_drew)); exact HO_341006.out))) (below_size (by repeat (first | (with_reducible first | exact HB.out | apply below_alloc | apply pw_below_drewN | apply below_drew1 | refine below_set ?_ GE328.out | refine below_set ?_ GE340.out) | exact HB.out)))); have n6_ := Aside0.mk (blk_below (g := gb328) (o := .cells #[.int .i64 a0_0, .int .i64 a0_1, .int .i64 a0_2, .int .i64 a0_3, .int .i64 a0_4, .slice A0_5 l0_5.length c0_5, .slice A0_6 l0_6.length c0_6, .slice A0_7 l0_7.length c0_7] 24 (0, 0)) (by (with_reducible repeat (first | refine blk_drewN ?_ _ | refine blk_drew ?_ | refine blk_alloc ?_ _)); exact BK328.out) hb); have n7_ := Aside0.mk (blk_below (g := gb340) (o := .cells #[.int .i64 x341000_2, .int .i64 x341001_2, .int .i64 x341002_2, .int .i64 x341003_2, .int .i64 x341004_2, .slice Ao22 x341005_2.length co22, .slice Ao23 x341006_2.length co23] 29 (0, 0)) (by (with_reducible repeat (first | refine blk_drewN ?_ _ | refine blk_drew ?_ | refine blk_alloc ?_ _)); exact BK340.out) hb); have n8_ := Aside0.mk (below_step (by repeat (first | (with_reducible first | exact HB.out | apply below_alloc | apply pw_below_drewN | apply below_drew1 | refine below_set ?_ GE328.out | refine below_set ?_ GE340.out) | exact HB.out)) hb); clear HO_341005; clear HO_341006; clear HO345; clear BK328; clear BK340; clear HB; have HO_341005 := n0_; have HO_341006 := n1_; have HO345 := n2_; have HO353 := n3_; have HO356 := n4_; have HO359 := n5_; have BK328 := n6_; have BK340 := n7_; have HB := n8_; clear n0_ n1_ n2_ n3_ n4_ n5_ n6_ n7_ n8_; (try clear hb); (try clear hb2); (try clear hk); (try clear hi); (try clear ho0); (try clear ho1); (try clear ho2); have hcz26_0 : w25.cell? ⟨gb340, 0, none⟩ = some (.int .i64 x341000_2) := (blk_cell BK340.out 0).trans rfl; have hcz26_1 : w25.cell? ⟨gb340, 1, none⟩ = some (.int .i64 x341001_2) := (blk_cell BK340.out 1).trans rfl; have hcz26_2 : w25.cell? ⟨gb340, 2, none⟩ = some (.int .i64 x341002_2) := (blk_cell BK340.out 2).trans rfl; have hcz26_3 : w25.cell? ⟨gb340, 3, none⟩ = some (.int .i64 x341003_2) := (blk_cell BK340.out 3).trans rfl; have hcz26_4 : w25.cell? ⟨gb340, 4, none⟩ = some (.int .i64 x341004_2) := (blk_cell BK340.out 4).trans rfl; have hcz26_5 : w25.cell? ⟨gb340, 5, none⟩ = some (.slice Ao22 x341005_2.length co22) := (blk_cell BK340.out 5).trans rfl; have hcz26_6 : w25.cell? ⟨gb340, 6, none⟩ = some (.slice Ao23 x341006_2.length co23) := (blk_cell BK340.out 6).trans rfl; have hfz26_0 := blk_frozen BK340.out 0; have hfz26_1 := blk_frozen BK340.out 1; have hfz26_2 := blk_frozen BK340.out 2; have hfz26_3 := blk_frozen BK340.out 3; have hfz26_4 := blk_frozen BK340.out 4; have hfz26_5 := blk_frozen BK340.out 5; have hfz26_6 := blk_frozen BK340.out 6; obtain ⟨Ao27, co27, eo27⟩ := Kd.R_slice HO353.out; subst eo27; obtain ⟨Ao28, co28, eo28⟩ := Kd.R_slice HO356.out; subst eo28))
              go_roundg k2
              case measure => have := HK1.out; have := HK2.out; omega
              case rel => exact ⟨(wrap64 (x8_2 + 1)), (t346), (t347), (t348), (t349), (t350), (t351), (t354), (.slice Ao27 t351.length co27), (.slice Ao28 t354.length co28), (by first | rfl | (simp; done) | (simp [*]; done)), H', ⟨by have := HK1.out; have := HK2.out; omega⟩, ⟨by (with_reducible repeat (first | apply Kd.R_alloc | apply Kd.R_drewN | apply Kd.R_drew)); exact Kd.R_mono (Kd.R_far (p := ⟨gb340, 6, none⟩) (Kd.R_far (p := ⟨gb340, 5, none⟩) (Kd.R_far (p := ⟨gb340, 4, none⟩) (Kd.R_far (p := ⟨gb340, 3, none⟩) (Kd.R_far (p := ⟨gb340, 2, none⟩) (Kd.R_far (p := ⟨gb340, 1, none⟩) (Kd.R_far (p := ⟨gb340, 0, none⟩) (Kd.R_types HO353.out BK340.out (by decide)) (fun _ hk => hk.2) (.int .i64 t346)) (fun _ hk => hk.2) (.int .i64 t347)) (fun _ hk => hk.2) (.int .i64 t348)) (fun _ hk => hk.2) (.int .i64 t349)) (fun _ hk => hk.2) (.int .i64 t350)) (fun _ hk => hk.2) (.slice Ao27 t351.length co27)) (fun _ hk => hk.2) (.slice Ao28 t354.length co28)) (fun _ hk => trivial)⟩, ⟨by (with_reducible repeat (first | apply Kd.R_alloc | apply Kd.R_drewN | apply Kd.R_drew)); exact Kd.R_mono (Kd.R_far (p := ⟨gb340, 6, none⟩) (Kd.R_far (p := ⟨gb340, 5, none⟩) (Kd.R_far (p := ⟨gb340, 4, none⟩) (Kd.R_far (p := ⟨gb340, 3, none⟩) (Kd.R_far (p := ⟨gb340, 2, none⟩) (Kd.R_far (p := ⟨gb340, 1, none⟩) (Kd.R_far (p := ⟨gb340, 0, none⟩) (Kd.R_types HO356.out BK340.out (by decide)) (fun _ hk => hk.2) (.int .i64 t346)) (fun _ hk => hk.2) (.int .i64 t347)) (fun _ hk => hk.2) (.int .i64 t348)) (fun _ hk => hk.2) (.int .i64 t349)) (fun _ hk => hk.2) (.int .i64 t350)) (fun _ hk => hk.2) (.slice Ao27 t351.length co27)) (fun _ hk => hk.2) (.slice Ao28 t354.length co28)) (fun _ hk => trivial)⟩, ⟨by (with_reducible repeat (first | refine blk_drewN ?_ _ | refine blk_drew ?_ | refine blk_alloc ?_ _)); refine blk_far ?_ NB328_340.out _; (with_reducible repeat (first | refine blk_drewN ?_ _ | refine blk_drew ?_ | refine blk_alloc ?_ _)); refine blk_far ?_ NB328_340.out _; (with_reducible repeat (first | refine blk_drewN ?_ _ | refine blk_drew ?_ | refine blk_alloc ?_ _)); refine blk_far ?_ NB328_340.out _; (with_reducible repeat (first | refine blk_drewN ?_ _ | refine blk_drew ?_ | refine blk_alloc ?_ _)); refine blk_far ?_ NB328_340.out _; (with_reducible repeat (first | refine blk_drewN ?_ _ | refine blk_drew ?_ | refine blk_alloc ?_ _)); refine blk_far ?_ NB328_340.out _; (with_reducible repeat (first | refine blk_drewN ?_ _ | refine blk_drew ?_ | refine blk_alloc ?_ _)); refine blk_far ?_ NB328_340.out _; (with_reducible repeat (first | refine blk_drewN ?_ _ | refine blk_drew ?_ | refine blk_alloc ?_ _)); refine blk_far ?_ NB328_340.out _; (with_reducible repeat (first | refine blk_drewN ?_ _ | refine blk_drew ?_ | refine blk_alloc ?_ _)); exact BK328.out⟩, ⟨by (with_reducible repeat (first | refine blk_drewN ?_ _ | refine blk_drew ?_ | refine blk_alloc ?_ _)); refine blk_put (cs := #[.int .i64 t346, .int .i64 t347, .int .i64 t348, .int .i64 t349, .int .i64 t350, .slice Ao27 t351.length co27, .slice Ao23 x341006_2.length co23]) ?_ 6 _ rfl; (with_reducible repeat (first | refine blk_drewN ?_ _ | refine blk_drew ?_ | refine blk_alloc ?_ _)); refine blk_put (cs := #[.int .i64 t346, .int .i64 t347, .int .i64 t348, .int .i64 t349, .int .i64 t350, .slice Ao22 x341005_2.length co22, .slice Ao23 x341006_2.length co23]) ?_ 5 _ rfl; (with_reducible repeat (first | refine blk_drewN ?_ _ | refine blk_drew ?_ | refine blk_alloc ?_ _)); refine blk_put (cs := #[.int .i64 t346, .int .i64 t347, .int .i64 t348, .int .i64 t349, .int .i64 x341004_2, .slice Ao22 x341005_2.length co22, .slice Ao23 x341006_2.length co23]) ?_ 4 _ rfl; (with_reducible repeat (first | refine blk_drewN ?_ _ | refine blk_drew ?_ | refine blk_alloc ?_ _)); refine blk_put (cs := #[.int .i64 t346, .int .i64 t347, .int .i64 t348, .int .i64 x341003_2, .int .i64 x341004_2, .slice Ao22 x341005_2.length co22, .slice Ao23 x341006_2.length co23]) ?_ 3 _ rfl; (with_reducible repeat (first | refine blk_drewN ?_ _ | refine blk_drew ?_ | refine blk_alloc ?_ _)); refine blk_put (cs := #[.int .i64 t346, .int .i64 t347, .int .i64 x341002_2, .int .i64 x341003_2, .int .i64 x341004_2, .slice Ao22 x341005_2.length co22, .slice Ao23 x341006_2.length co23]) ?_ 2 _ rfl; (with_reducible repeat (first | refine blk_drewN ?_ _ | refine blk_drew ?_ | refine blk_alloc ?_ _)); refine blk_put (cs := #[.int .i64 t346, .int .i64 x341001_2, .int .i64 x341002_2, .int .i64 x341003_2, .int .i64 x341004_2, .slice Ao22 x341005_2.length co22, .slice Ao23 x341006_2.length co23]) ?_ 1 _ rfl; (with_reducible repeat (first | refine blk_drewN ?_ _ | refine blk_drew ?_ | refine blk_alloc ?_ _)); refine blk_put (cs := #[.int .i64 x341000_2, .int .i64 x341001_2, .int .i64 x341002_2, .int .i64 x341003_2, .int .i64 x341004_2, .slice Ao22 x341005_2.length co22, .slice Ao23 x341006_2.length co23]) ?_ 0 _ rfl; (with_reducible repeat (first | refine blk_drewN ?_ _ | refine blk_drew ?_ | refine blk_alloc ?_ _)); exact BK340.out⟩, ⟨by repeat (first | (with_reducible first | exact HB.out | apply below_alloc | apply pw_below_drewN | apply below_drew1 | refine below_set ?_ GE328.out | refine below_set ?_ GE340.out) | exact HB.out)⟩⟩
            · rw [if_neg c16] at H
              have c16b0 : decide (x8_2 < (wrap64 (2 * x341000_2))) = false := decide_eq_false c16
              clear c16
              by_cases c29 : x341003_2 ≤ x341003_1
              · rw [if_pos c29] at H
                exact absurd H (by simp)
              · rw [if_neg c29] at H
                have c29b0 : decide (x341003_2 ≤ x341003_1) = false := decide_eq_false c29
                clear c29
                have H' := Aside0.mk H
                clear H
                have hnb30 := NB340_328.out
                have hnc30 := NB328_340.out
                have hcz31_0 : wr.cell? ⟨gb340, 0, none⟩ = some (.int .i64 x341000_2) := (blk_cell BK340.out 0).trans rfl
                have hcz31_1 : wr.cell? ⟨gb340, 1, none⟩ = some (.int .i64 x341001_2) := (blk_cell BK340.out 1).trans rfl
                have hcz31_2 : wr.cell? ⟨gb340, 2, none⟩ = some (.int .i64 x341002_2) := (blk_cell BK340.out 2).trans rfl
                have hcz31_3 : wr.cell? ⟨gb340, 3, none⟩ = some (.int .i64 x341003_2) := (blk_cell BK340.out 3).trans rfl
                have hcz31_4 : wr.cell? ⟨gb340, 4, none⟩ = some (.int .i64 x341004_2) := (blk_cell BK340.out 4).trans rfl
                have hcz31_5 : wr.cell? ⟨gb340, 5, none⟩ = some (u341005) := (blk_cell BK340.out 5).trans rfl
                have hcz31_6 : wr.cell? ⟨gb340, 6, none⟩ = some (u341006) := (blk_cell BK340.out 6).trans rfl
                have hfz31_0 := blk_frozen BK340.out 0
                have hfz31_1 := blk_frozen BK340.out 1
                have hfz31_2 := blk_frozen BK340.out 2
                have hfz31_3 := blk_frozen BK340.out 3
                have hfz31_4 := blk_frozen BK340.out 4
                have hfz31_5 := blk_frozen BK340.out 5
                have hfz31_6 := blk_frozen BK340.out 6
                go_wp2
                go_roundg k2
                case measure => have := HK1.out; have := HK2.out; omega
                case rel => exact ⟨(wrap64 (x6_1 + 1)), (x341000_2), (x341001_2), (x341002_2), (x341003_2), (x341004_2), (x341005_2), (x341006_2), (u341005), (u341006), (by first | rfl | (simp; done) | (simp [*]; done)), H', ⟨by have := HK1.out; have := HK2.out; omega⟩, ⟨by (with_reducible repeat (first | apply Kd.R_alloc | apply Kd.R_drewN | apply Kd.R_drew)); exact HO_341005.out⟩, ⟨by (with_reducible repeat (first | apply Kd.R_alloc | apply Kd.R_drewN | apply Kd.R_drew)); exact HO_341006.out⟩, ⟨by (with_reducible repeat (first | refine blk_drewN ?_ _ | refine blk_drew ?_ | refine blk_alloc ?_ _)); exact BK328.out⟩, ⟨by (with_reducible repeat (first | refine blk_drewN ?_ _ | refine blk_drew ?_ | refine blk_alloc ?_ _)); exact BK340.out⟩, ⟨by repeat (first | (with_reducible first | exact HB.out | apply below_alloc | apply pw_below_drewN | apply below_drew1 | refine below_set ?_ GE328.out | refine below_set ?_ GE340.out) | exact HB.out)⟩⟩
      · rw [if_neg c13] at H
        have c13b0 : decide (x6_1 < (wrap64 (1 + t341))) = false := decide_eq_false c13
        clear c13
        replace H := Option.bind_eq_some_iff.mp H
        obtain ⟨t342, A320, H⟩ := H
        replace H : (some t342) = some r := H
        have A32 := Aside0.mk A320
        clear A320
        obtain rfl := Option.some.inj H
        go_wp2_with (first | ((with_reducible refine gate_callee (f := 9) rfl ?_); refine goesL_ (some 41) rfl rfl Try.func9 (by kernel_rfl) rfl #[] rfl (by (try simp only [List.map_toArray, List.map_cons, List.map_nil]); first | done | rfl | (simp only [List.length_drop, List.length_take]; rfl)) ?_; (with_reducible refine (selfstablaw42_known.calls k1  t342 _ A32.out).mono ?_); rintro e w33 ⟨rfl, hb⟩; refine ⟨_, rfl, ?_⟩; have n0_ := Aside0.mk (Kd.R_below (by (with_reducible repeat (first | apply Kd.R_alloc | apply Kd.R_drewN | apply Kd.R_drew)); exact HO_341005.out) hb); have n1_ := Aside0.mk (Kd.R_below (by (with_reducible repeat (first | apply Kd.R_alloc | apply Kd.R_drewN | apply Kd.R_drew)); exact HO_341006.out) hb); have n2_ := Aside0.mk (blk_below (g := gb328) (o := .cells #[.int .i64 a0_0, .int .i64 a0_1, .int .i64 a0_2, .int .i64 a0_3, .int .i64 a0_4, .slice A0_5 l0_5.length c0_5, .slice A0_6 l0_6.length c0_6, .slice A0_7 l0_7.length c0_7] 24 (0, 0)) (by (with_reducible repeat (first | refine blk_drewN ?_ _ | refine blk_drew ?_ | refine blk_alloc ?_ _)); exact BK328.out) hb); have n3_ := Aside0.mk (blk_below (g := gb340) (o := .cells #[.int .i64 x341000_1, .int .i64 x341001_1, .int .i64 x341002_1, .int .i64 x341003_1, .int .i64 x341004_1, u341005, u341006] 29 (0, 0)) (by (with_reducible repeat (first | refine blk_drewN ?_ _ | refine blk_drew ?_ | refine blk_alloc ?_ _)); exact BK340.out) hb); have n4_ := Aside0.mk (below_step (by repeat (first | (with_reducible first | exact HB.out | apply below_alloc | apply pw_below_drewN | apply below_drew1 | refine below_set ?_ GE328.out | refine below_set ?_ GE340.out) | exact HB.out)) hb); clear HO_341005; clear HO_341006; clear BK328; clear BK340; clear HB; have HO_341005 := n0_; have HO_341006 := n1_; have BK328 := n2_; have BK340 := n3_; have HB := n4_; clear n0_ n1_ n2_ n3_ n4_; (try clear hb); (try clear hb2); (try clear hk); (try clear hi)))
        go_ret
        exact ⟨by first | rfl | (simp [errW_none, errW_some] <;> rfl) | (simp [*, errW_none, errW_some] <;> rfl), by repeat (first | (with_reducible first | exact HB.out | apply below_alloc | apply pw_below_drewN | apply below_drew1 | refine below_set ?_ GE328.out | refine below_set ?_ GE340.out) | exact HB.out)⟩

end Go.Proofs.Ytdhkplfkbdldfaa.P
