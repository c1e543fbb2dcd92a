-- By a program of this session (wip/tools/myprint.py over the kit's printer). Not trusted: Lean checks it.
import Derived.Test.YtdhkplfkbdldfaaP0
import Derived.Test.YtdhkplfkbdldfaaP6
namespace Go.Proofs.Ytdhkplfkbdldfaa.P
open Go.RowKit Go.Proofs.YtdhkplfkbdldfaaW.PrintWords Go.Proofs.YtdhkplfkbdldfaaW.PrintLast Go.Proofs.YtdhkplfkbdldfaaW.PrintMore
attribute [local go_sem] max2_int min2_int max_two min_two max_three min_three max_four min_four   -- for this text's walks alone
set_option linter.unusedVariables false
set_option linter.unusedSimpArgs false

/-! ### selfstabref42_Aligned: function 22 -/
mutual
def selfstabref42_Aligned.l0 : Nat → List Int → Int → Int → Int → Int → Int → Int → List (S46) → List Int → Option (Bool)
  | 0, _, _, _, _, _, _, _, _, _ => none
  | k + 1, x3, x4, x361000, x361001, x361002, x361003, x361004, x361005, x361006 => if x4 ≥ 0 then (if 0 ≤ x4 then (if x4 < (x361005.length : Int) then (if x3.length < 17592186044416 then (selfstabref42_Aligned.l0 k (x3 ++ [(rd_T46 x361005 x4).f0]) (wrap64 (x4 - 1)) x361000 x361001 x361002 x361003 x361004 x361005 x361006) else (none)) else (none)) else (none)) else (if x3.length < 17592186044416 then (selfstabref42_Aligned.l1 k (x3 ++ [x361004]) (wrap64 ((x361006.length : Int) - 1)) x361000 x361001 x361002 x361003 x361004 x361005 x361006) else (none))
def selfstabref42_Aligned.l1 : Nat → List Int → Int → Int → Int → Int → Int → Int → List (S46) → List Int → Option (Bool)
  | 0, _, _, _, _, _, _, _, _, _ => none
  | k + 1, x3, x5, x361000, x361001, x361002, x361003, x361004, x361005, x361006 => if x5 ≥ 0 then (if 0 ≤ x5 then (if x5 < (x361006.length : Int) then (if x3.length < 17592186044416 then (selfstabref42_Aligned.l1 k (x3 ++ [rd x361006 x5]) (wrap64 (x5 - 1)) x361000 x361001 x361002 x361003 x361004 x361005 x361006) else (none)) else (none)) else (none)) else (selfstabref42_Aligned.l2 k x3 false 0 x361000 x361001 x361002 x361003 x361004 x361005 x361006)
def selfstabref42_Aligned.l2 : Nat → List Int → Bool → Int → Int → Int → Int → Int → Int → List (S46) → List Int → Option (Bool)
  | 0, _, _, _, _, _, _, _, _, _, _ => none
  | k + 1, x3, x6, x7, x361000, x361001, x361002, x361003, x361004, x361005, x361006 => if x7 < (x3.length : Int) then (if 0 ≤ x7 then (if (rd x3 x7) = x361002 then (if x6 = true then (some false) else (selfstabref42_Aligned.l2 k x3 ((rd x3 x7) != x361002) (wrap64 (x7 + 1)) x361000 x361001 x361002 x361003 x361004 x361005 x361006)) else (if x361001 = 0 then (none) else (if (rd x3 x7) = (Int.tmod (wrap64 ((wrap64 (x361002 + x361001)) - 1)) x361001) then (if x6 = true then (selfstabref42_Aligned.l2 k x3 true (wrap64 (x7 + 1)) x361000 x361001 x361002 x361003 x361004 x361005 x361006) else (selfstabref42_Aligned.l2 k x3 ((rd x3 x7) != x361002) (wrap64 (x7 + 1)) x361000 x361001 x361002 x361003 x361004 x361005 x361006)) else (some false)))) else (none)) else (some true)
end
def selfstabref42_Aligned.f (k : Nat) (a0_0 : Int) (a0_1 : Int) (a0_2 : Int) (a0_3 : Int) (a0_4 : Int) (l0_5 : List (S46)) (l0_6 : List Int) : Option (Bool) := (selfstabref42_Valid.f k a0_0 a0_1 a0_2 a0_3 a0_4 l0_5 l0_6).bind fun t361 => (if t361 = true then (selfstabref42_Aligned.l0 k ([] : List Int) (wrap64 ((l0_5.length : Int) - 1)) a0_0 a0_1 a0_2 a0_3 a0_4 l0_5 l0_6) else (some false))
theorem selfstabref42_Aligned.mono_l : ∀ k, (∀ y0 y1 y2 y3 y4 y5 y6 y7 y8, LeO (selfstabref42_Aligned.l0 k y0 y1 y2 y3 y4 y5 y6 y7 y8) (selfstabref42_Aligned.l0 (k + 1) y0 y1 y2 y3 y4 y5 y6 y7 y8)) ∧ (∀ y0 y1 y2 y3 y4 y5 y6 y7 y8, LeO (selfstabref42_Aligned.l1 k y0 y1 y2 y3 y4 y5 y6 y7 y8) (selfstabref42_Aligned.l1 (k + 1) y0 y1 y2 y3 y4 y5 y6 y7 y8)) ∧ (∀ y0 y1 y2 y3 y4 y5 y6 y7 y8 y9, LeO (selfstabref42_Aligned.l2 k y0 y1 y2 y3 y4 y5 y6 y7 y8 y9) (selfstabref42_Aligned.l2 (k + 1) y0 y1 y2 y3 y4 y5 y6 y7 y8 y9))
  | 0 => ⟨fun _ _ _ _ _ _ _ _ _ r h => by simp [selfstabref42_Aligned.l0] at h, fun _ _ _ _ _ _ _ _ _ r h => by simp [selfstabref42_Aligned.l1] at h, fun _ _ _ _ _ _ _ _ _ _ r h => by simp [selfstabref42_Aligned.l2] at h⟩
  | k + 1 => by
    obtain ⟨ih0, ih1, ih2⟩ := selfstabref42_Aligned.mono_l k
    refine ⟨?_, ?_, ?_⟩
    · intro y0 y1 y2 y3 y4 y5 y6 y7 y8
      unfold selfstabref42_Aligned.l0
      repeat' first
      | (with_reducible exact ih0 _ _ _ _ _ _ _ _ _)
      | (with_reducible exact ih1 _ _ _ _ _ _ _ _ _)
      | (with_reducible exact ih2 _ _ _ _ _ _ _ _ _ _)
      | (with_reducible exact selfstabref42_Valid.mono _ _ _ _ _ _ _ _)
      | (with_reducible exact LeO.refl _)
      | (with_reducible exact LeO.none _)
      | (with_reducible refine LeO.ite ?_ ?_)
      | (with_reducible refine LeO.bind ?_ (fun _ => ?_))
      | exact ih0 _ _ _ _ _ _ _ _ _
      | exact ih1 _ _ _ _ _ _ _ _ _
      | exact ih2 _ _ _ _ _ _ _ _ _ _
      | exact selfstabref42_Valid.mono _ _ _ _ _ _ _ _
      | exact LeO.none _
      | refine LeO.ite ?_ ?_
      | refine LeO.bind ?_ (fun _ => ?_)
    · intro y0 y1 y2 y3 y4 y5 y6 y7 y8
      unfold selfstabref42_Aligned.l1
      repeat' first
      | (with_reducible exact ih0 _ _ _ _ _ _ _ _ _)
      | (with_reducible exact ih1 _ _ _ _ _ _ _ _ _)
      | (with_reducible exact ih2 _ _ _ _ _ _ _ _ _ _)
      | (with_reducible exact selfstabref42_Valid.mono _ _ _ _ _ _ _ _)
      | (with_reducible exact LeO.refl _)
      | (with_reducible exact LeO.none _)
      | (with_reducible refine LeO.ite ?_ ?_)
      | (with_reducible refine LeO.bind ?_ (fun _ => ?_))
      | exact ih0 _ _ _ _ _ _ _ _ _
      | exact ih1 _ _ _ _ _ _ _ _ _
      | exact ih2 _ _ _ _ _ _ _ _ _ _
      | exact selfstabref42_Valid.mono _ _ _ _ _ _ _ _
      | exact LeO.none _
      | refine LeO.ite ?_ ?_
      | refine LeO.bind ?_ (fun _ => ?_)
    · intro y0 y1 y2 y3 y4 y5 y6 y7 y8 y9
      unfold selfstabref42_Aligned.l2
      repeat' first
      | (with_reducible exact ih0 _ _ _ _ _ _ _ _ _)
      | (with_reducible exact ih1 _ _ _ _ _ _ _ _ _)
      | (with_reducible exact ih2 _ _ _ _ _ _ _ _ _ _)
      | (with_reducible exact selfstabref42_Valid.mono _ _ _ _ _ _ _ _)
      | (with_reducible exact LeO.refl _)
      | (with_reducible exact LeO.none _)
      | (with_reducible refine LeO.ite ?_ ?_)
      | (with_reducible refine LeO.bind ?_ (fun _ => ?_))
      | exact ih0 _ _ _ _ _ _ _ _ _
      | exact ih1 _ _ _ _ _ _ _ _ _
      | exact ih2 _ _ _ _ _ _ _ _ _ _
      | exact selfstabref42_Valid.mono _ _ _ _ _ _ _ _
      | exact LeO.none _
      | refine LeO.ite ?_ ?_
      | refine LeO.bind ?_ (fun _ => ?_)
theorem selfstabref42_Aligned.mono : ∀ a0 a1 a2 a3 a4 a5 a6 k, LeO (selfstabref42_Aligned.f k a0 a1 a2 a3 a4 a5 a6) (selfstabref42_Aligned.f (k + 1) a0 a1 a2 a3 a4 a5 a6) := by
  intro a0 a1 a2 a3 a4 a5 a6 k
  obtain ⟨ih0, ih1, ih2⟩ := selfstabref42_Aligned.mono_l k
  unfold selfstabref42_Aligned.f
  repeat' first
      | (with_reducible exact ih0 _ _ _ _ _ _ _ _ _)
      | (with_reducible exact ih1 _ _ _ _ _ _ _ _ _)
      | (with_reducible exact ih2 _ _ _ _ _ _ _ _ _ _)
      | (with_reducible exact selfstabref42_Valid.mono _ _ _ _ _ _ _ _)
      | (with_reducible exact LeO.refl _)
      | (with_reducible exact LeO.none _)
      | (with_reducible refine LeO.ite ?_ ?_)
      | (with_reducible refine LeO.bind ?_ (fun _ => ?_))
      | exact ih0 _ _ _ _ _ _ _ _ _
      | exact ih1 _ _ _ _ _ _ _ _ _
      | exact ih2 _ _ _ _ _ _ _ _ _ _
      | exact selfstabref42_Valid.mono _ _ _ _ _ _ _ _
      | exact LeO.none _
      | refine LeO.ite ?_ ?_
      | refine LeO.bind ?_ (fun _ => ?_)
set_option maxHeartbeats 8000000 in
set_option maxRecDepth 100000 in
theorem selfstabref42_Aligned.calls (k : Nat) (a0_0 : Int) (a0_1 : Int) (a0_2 : Int) (a0_3 : Int) (a0_4 : Int) (A0_5 : Option Addr) (c0_5 : Nat) (l0_5 : List (S46)) (A0_6 : Option Addr) (c0_6 : Nat) (l0_6 : List Int) (r : Bool) (w : World) (hr0_5 : Kd.C k46 w A0_5 l0_5.length l0_5) (hc0_5 : l0_5.length ≤ c0_5) (hr0_6 : Kd.C (Kd.int .i64) w A0_6 l0_6.length l0_6) (hc0_6 : l0_6.length ≤ c0_6) (h : selfstabref42_Aligned.f k a0_0 a0_1 a0_2 a0_3 a0_4 l0_5 l0_6 = some r) :
    Calls Try.prog 22 #[.agg #[.int .i64 a0_0, .int .i64 a0_1, .int .i64 a0_2, .int .i64 a0_3, .int .i64 a0_4, .slice A0_5 l0_5.length c0_5, .slice A0_6 l0_6.length c0_6]] w fun e w' => e = .returned (.bool r) ∧ Below w.heap.size w w' := by
  have hu29 := Try.underlying29
  have HR0_5 := Aside0.mk hr0_5
  have HC0_5 := Aside0.mk hc0_5
  clear hr0_5 hc0_5
  have HR0_6 := Aside0.mk hr0_6
  have HC0_6 := Aside0.mk hc0_6
  clear hr0_6 hc0_6
  have HB := Aside0.mk (Below.refl w.heap.size w)
  have H : ((selfstabref42_Valid.f k a0_0 a0_1 a0_2 a0_3 a0_4 l0_5 l0_6).bind fun t361 => (if t361 = true then (selfstabref42_Aligned.l0 k ([] : List Int) (wrap64 ((l0_5.length : Int) - 1)) a0_0 a0_1 a0_2 a0_3 a0_4 l0_5 l0_6) else (some false))) = some r := h
  clear h
  replace H := Option.bind_eq_some_iff.mp H
  obtain ⟨t361, A20, H⟩ := H
  replace H : (if t361 = true then (selfstabref42_Aligned.l0 k ([] : List Int) (wrap64 ((l0_5.length : Int) - 1)) a0_0 a0_1 a0_2 a0_3 a0_4 l0_5 l0_6) else (some false)) = some r := H
  have A2 := Aside0.mk A20
  clear A20
  by_cases c3 : t361 = true
  · subst c3
    have H1 : (selfstabref42_Aligned.l0 k ([] : List Int) (wrap64 ((l0_5.length : Int) - 1)) a0_0 a0_1 a0_2 a0_3 a0_4 l0_5 l0_6) = some r := by rw [if_pos rfl] at H; exact H
    clear H
    have H := H1
    clear H1
    have H' := Aside0.mk H
    clear H
    go_enter Try.func22, Try.ntmps22
    go_wp2_with (first | ((with_reducible refine gate_dst (N := 1) rfl ?_); refine box_event ?hg (N := 1) ?hd (cs := #[.int .i64 a0_0, .int .i64 a0_1, .int .i64 a0_2, .int .i64 a0_3, .int .i64 a0_4, .slice A0_5 l0_5.length c0_5, .slice A0_6 l0_6.length c0_6]) (t := 29) ?hr ?_; (case hd => rfl); (case hg => rfl); (case hr => first | (go_simp; done) | (go_simp; rfl)); intro gb360 hg w4 hbox hb; have n0_ := Aside0.mk (below_step (by repeat (first | (with_reducible first | exact HB.out | apply below_alloc | apply pw_below_drewN | apply below_drew1) | exact HB.out)) hb); have n1_ := Aside0.mk (hbox); have n2_ := Aside0.mk ((by rw [hg]; exact (below_size (by repeat (first | (with_reducible first | exact HB.out | apply below_alloc | apply pw_below_drewN | apply below_drew1) | exact HB.out))) : w.heap.size ≤ gb360)); have n3_ := Aside0.mk ((by rw [hg]; exact (below_size (by repeat (first | (with_reducible first | exact HB.out | apply below_alloc | apply pw_below_drewN | apply below_drew1) | exact HB.out))) : w.heap.size ≤ gb360)); clear HB; have HB := n0_; have BK360 := n1_; have GW360 := n2_; have GE360 := n3_; clear n0_ n1_ n2_ n3_; clear hb hbox hg; have hcz5_0 : w4.cell? ⟨gb360, 0, none⟩ = some (.int .i64 a0_0) := (blk_cell BK360.out 0).trans rfl; have hcz5_1 : w4.cell? ⟨gb360, 1, none⟩ = some (.int .i64 a0_1) := (blk_cell BK360.out 1).trans rfl; have hcz5_2 : w4.cell? ⟨gb360, 2, none⟩ = some (.int .i64 a0_2) := (blk_cell BK360.out 2).trans rfl; have hcz5_3 : w4.cell? ⟨gb360, 3, none⟩ = some (.int .i64 a0_3) := (blk_cell BK360.out 3).trans rfl; have hcz5_4 : w4.cell? ⟨gb360, 4, none⟩ = some (.int .i64 a0_4) := (blk_cell BK360.out 4).trans rfl; have hcz5_5 : w4.cell? ⟨gb360, 5, none⟩ = some (.slice A0_5 l0_5.length c0_5) := (blk_cell BK360.out 5).trans rfl; have hcz5_6 : w4.cell? ⟨gb360, 6, none⟩ = some (.slice A0_6 l0_6.length c0_6) := (blk_cell BK360.out 6).trans rfl; have hfz5_0 := blk_frozen BK360.out 0; have hfz5_1 := blk_frozen BK360.out 1; have hfz5_2 := blk_frozen BK360.out 2; have hfz5_3 := blk_frozen BK360.out 3; have hfz5_4 := blk_frozen BK360.out 4; have hfz5_5 := blk_frozen BK360.out 5; have hfz5_6 := blk_frozen BK360.out 6) | (go_at_call 20; (with_reducible refine (selfstabref42_Valid.calls k a0_0 a0_1 a0_2 a0_3 a0_4 _ _ l0_5 _ _ l0_6 true _ ?side1 ?side2 ?side3 ?side4 A2.out).mono ?_); (case side1 => repeat (first | exact (Kd.C_below HR0_5.out HB.out) | (with_reducible refine Kd.C_alloc ?_ _) | (with_reducible refine Kd.C_drewN ?_ _) | (with_reducible refine Kd.C_drew ?_))); (case side2 => exact HC0_5.out); (case side3 => repeat (first | exact (Kd.C_below HR0_6.out HB.out) | (with_reducible refine Kd.C_alloc ?_ _) | (with_reducible refine Kd.C_drewN ?_ _) | (with_reducible refine Kd.C_drew ?_))); (case side4 => exact HC0_6.out); rintro e w6 ⟨rfl, hb⟩; have n0_ := Aside0.mk (blk_below (g := gb360) (o := .cells #[.int .i64 a0_0, .int .i64 a0_1, .int .i64 a0_2, .int .i64 a0_3, .int .i64 a0_4, .slice A0_5 l0_5.length c0_5, .slice A0_6 l0_6.length c0_6] 29 (0, 0)) (by (with_reducible repeat (first | refine blk_drewN ?_ _ | refine blk_drew ?_ | refine blk_alloc ?_ _)); exact BK360.out) hb); have n1_ := Aside0.mk (below_step (by repeat (first | (with_reducible first | exact HB.out | apply below_alloc | apply pw_below_drewN | apply below_drew1 | refine below_set ?_ GE360.out) | exact HB.out)) hb); clear BK360; clear HB; have BK360 := n0_; have HB := n1_; clear n0_ n1_; (try clear hb); (try clear hb2); (try clear hk); (try clear hi); have hcz7_0 : w6.cell? ⟨gb360, 0, none⟩ = some (.int .i64 a0_0) := (blk_cell BK360.out 0).trans rfl; have hcz7_1 : w6.cell? ⟨gb360, 1, none⟩ = some (.int .i64 a0_1) := (blk_cell BK360.out 1).trans rfl; have hcz7_2 : w6.cell? ⟨gb360, 2, none⟩ = some (.int .i64 a0_2) := (blk_cell BK360.out 2).trans rfl; have hcz7_3 : w6.cell? ⟨gb360, 3, none⟩ = some (.int .i64 a0_3) := (blk_cell BK360.out 3).trans rfl; have hcz7_4 : w6.cell? ⟨gb360, 4, none⟩ = some (.int .i64 a0_4) := (blk_cell BK360.out 4).trans rfl; have hcz7_5 : w6.cell? ⟨gb360, 5, none⟩ = some (.slice A0_5 l0_5.length c0_5) := (blk_cell BK360.out 5).trans rfl; have hcz7_6 : w6.cell? ⟨gb360, 6, none⟩ = some (.slice A0_6 l0_6.length c0_6) := (blk_cell BK360.out 6).trans rfl; have hfz7_0 := blk_frozen BK360.out 0; have hfz7_1 := blk_frozen BK360.out 1; have hfz7_2 := blk_frozen BK360.out 2; have hfz7_3 := blk_frozen BK360.out 3; have hfz7_4 := blk_frozen BK360.out 4; have hfz7_5 := blk_frozen BK360.out 5; have hfz7_6 := blk_frozen BK360.out 6))
    repeat (go_quiet (first | ((with_reducible refine gate_dst (N := 1) rfl ?_); refine box_event ?hg (N := 1) ?hd (cs := #[.int .i64 a0_0, .int .i64 a0_1, .int .i64 a0_2, .int .i64 a0_3, .int .i64 a0_4, .slice A0_5 l0_5.length c0_5, .slice A0_6 l0_6.length c0_6]) (t := 29) ?hr ?_; (case hd => rfl); (case hg => rfl); (case hr => first | (go_simp; done) | (go_simp; rfl)); intro gb360 hg w4 hbox hb; have n0_ := Aside0.mk (below_step (by repeat (first | (with_reducible first | exact HB.out | apply below_alloc | apply pw_below_drewN | apply below_drew1) | exact HB.out)) hb); have n1_ := Aside0.mk (hbox); have n2_ := Aside0.mk ((by rw [hg]; exact (below_size (by repeat (first | (with_reducible first | exact HB.out | apply below_alloc | apply pw_below_drewN | apply below_drew1) | exact HB.out))) : w.heap.size ≤ gb360)); have n3_ := Aside0.mk ((by rw [hg]; exact (below_size (by repeat (first | (with_reducible first | exact HB.out | apply below_alloc | apply pw_below_drewN | apply below_drew1) | exact HB.out))) : w.heap.size ≤ gb360)); clear HB; have HB := n0_; have BK360 := n1_; have GW360 := n2_; have GE360 := n3_; clear n0_ n1_ n2_ n3_; clear hb hbox hg; have hcz5_0 : w4.cell? ⟨gb360, 0, none⟩ = some (.int .i64 a0_0) := (blk_cell BK360.out 0).trans rfl; have hcz5_1 : w4.cell? ⟨gb360, 1, none⟩ = some (.int .i64 a0_1) := (blk_cell BK360.out 1).trans rfl; have hcz5_2 : w4.cell? ⟨gb360, 2, none⟩ = some (.int .i64 a0_2) := (blk_cell BK360.out 2).trans rfl; have hcz5_3 : w4.cell? ⟨gb360, 3, none⟩ = some (.int .i64 a0_3) := (blk_cell BK360.out 3).trans rfl; have hcz5_4 : w4.cell? ⟨gb360, 4, none⟩ = some (.int .i64 a0_4) := (blk_cell BK360.out 4).trans rfl; have hcz5_5 : w4.cell? ⟨gb360, 5, none⟩ = some (.slice A0_5 l0_5.length c0_5) := (blk_cell BK360.out 5).trans rfl; have hcz5_6 : w4.cell? ⟨gb360, 6, none⟩ = some (.slice A0_6 l0_6.length c0_6) := (blk_cell BK360.out 6).trans rfl; have hfz5_0 := blk_frozen BK360.out 0; have hfz5_1 := blk_frozen BK360.out 1; have hfz5_2 := blk_frozen BK360.out 2; have hfz5_3 := blk_frozen BK360.out 3; have hfz5_4 := blk_frozen BK360.out 4; have hfz5_5 := blk_frozen BK360.out 5; have hfz5_6 := blk_frozen BK360.out 6) | (go_at_call 20; (with_reducible refine (selfstabref42_Valid.calls k a0_0 a0_1 a0_2 a0_3 a0_4 _ _ l0_5 _ _ l0_6 true _ ?side1 ?side2 ?side3 ?side4 A2.out).mono ?_); (case side1 => repeat (first | exact (Kd.C_below HR0_5.out HB.out) | (with_reducible refine Kd.C_alloc ?_ _) | (with_reducible refine Kd.C_drewN ?_ _) | (with_reducible refine Kd.C_drew ?_))); (case side2 => exact HC0_5.out); (case side3 => repeat (first | exact (Kd.C_below HR0_6.out HB.out) | (with_reducible refine Kd.C_alloc ?_ _) | (with_reducible refine Kd.C_drewN ?_ _) | (with_reducible refine Kd.C_drew ?_))); (case side4 => exact HC0_6.out); rintro e w6 ⟨rfl, hb⟩; have n0_ := Aside0.mk (blk_below (g := gb360) (o := .cells #[.int .i64 a0_0, .int .i64 a0_1, .int .i64 a0_2, .int .i64 a0_3, .int .i64 a0_4, .slice A0_5 l0_5.length c0_5, .slice A0_6 l0_6.length c0_6] 29 (0, 0)) (by (with_reducible repeat (first | refine blk_drewN ?_ _ | refine blk_drew ?_ | refine blk_alloc ?_ _)); exact BK360.out) hb); have n1_ := Aside0.mk (below_step (by repeat (first | (with_reducible first | exact HB.out | apply below_alloc | apply pw_below_drewN | apply below_drew1 | refine below_set ?_ GE360.out) | exact HB.out)) hb); clear BK360; clear HB; have BK360 := n0_; have HB := n1_; clear n0_ n1_; (try clear hb); (try clear hb2); (try clear hk); (try clear hi); have hcz7_0 : w6.cell? ⟨gb360, 0, none⟩ = some (.int .i64 a0_0) := (blk_cell BK360.out 0).trans rfl; have hcz7_1 : w6.cell? ⟨gb360, 1, none⟩ = some (.int .i64 a0_1) := (blk_cell BK360.out 1).trans rfl; have hcz7_2 : w6.cell? ⟨gb360, 2, none⟩ = some (.int .i64 a0_2) := (blk_cell BK360.out 2).trans rfl; have hcz7_3 : w6.cell? ⟨gb360, 3, none⟩ = some (.int .i64 a0_3) := (blk_cell BK360.out 3).trans rfl; have hcz7_4 : w6.cell? ⟨gb360, 4, none⟩ = some (.int .i64 a0_4) := (blk_cell BK360.out 4).trans rfl; have hcz7_5 : w6.cell? ⟨gb360, 5, none⟩ = some (.slice A0_5 l0_5.length c0_5) := (blk_cell BK360.out 5).trans rfl; have hcz7_6 : w6.cell? ⟨gb360, 6, none⟩ = some (.slice A0_6 l0_6.length c0_6) := (blk_cell BK360.out 6).trans rfl; have hfz7_0 := blk_frozen BK360.out 0; have hfz7_1 := blk_frozen BK360.out 1; have hfz7_2 := blk_frozen BK360.out 2; have hfz7_3 := blk_frozen BK360.out 3; have hfz7_4 := blk_frozen BK360.out 4; have hfz7_5 := blk_frozen BK360.out 5; have hfz7_6 := blk_frozen BK360.out 6)); try go_wp2_with (first | ((with_reducible refine gate_dst (N := 1) rfl ?_); refine box_event ?hg (N := 1) ?hd (cs := #[.int .i64 a0_0, .int .i64 a0_1, .int .i64 a0_2, .int .i64 a0_3, .int .i64 a0_4, .slice A0_5 l0_5.length c0_5, .slice A0_6 l0_6.length c0_6]) (t := 29) ?hr ?_; (case hd => rfl); (case hg => rfl); (case hr => first | (go_simp; done) | (go_simp; rfl)); intro gb360 hg w4 hbox hb; have n0_ := Aside0.mk (below_step (by repeat (first | (with_reducible first | exact HB.out | apply below_alloc | apply pw_below_drewN | apply below_drew1) | exact HB.out)) hb); have n1_ := Aside0.mk (hbox); have n2_ := Aside0.mk ((by rw [hg]; exact (below_size (by repeat (first | (with_reducible first | exact HB.out | apply below_alloc | apply pw_below_drewN | apply below_drew1) | exact HB.out))) : w.heap.size ≤ gb360)); have n3_ := Aside0.mk ((by rw [hg]; exact (below_size (by repeat (first | (with_reducible first | exact HB.out | apply below_alloc | apply pw_below_drewN | apply below_drew1) | exact HB.out))) : w.heap.size ≤ gb360)); clear HB; have HB := n0_; have BK360 := n1_; have GW360 := n2_; have GE360 := n3_; clear n0_ n1_ n2_ n3_; clear hb hbox hg; have hcz5_0 : w4.cell? ⟨gb360, 0, none⟩ = some (.int .i64 a0_0) := (blk_cell BK360.out 0).trans rfl; have hcz5_1 : w4.cell? ⟨gb360, 1, none⟩ = some (.int .i64 a0_1) := (blk_cell BK360.out 1).trans rfl; have hcz5_2 : w4.cell? ⟨gb360, 2, none⟩ = some (.int .i64 a0_2) := (blk_cell BK360.out 2).trans rfl; have hcz5_3 : w4.cell? ⟨gb360, 3, none⟩ = some (.int .i64 a0_3) := (blk_cell BK360.out 3).trans rfl; have hcz5_4 : w4.cell? ⟨gb360, 4, none⟩ = some (.int .i64 a0_4) := (blk_cell BK360.out 4).trans rfl; have hcz5_5 : w4.cell? ⟨gb360, 5, none⟩ = some (.slice A0_5 l0_5.length c0_5) := (blk_cell BK360.out 5).trans rfl; have hcz5_6 : w4.cell? ⟨gb360, 6, none⟩ = some (.slice A0_6 l0_6.length c0_6) := (blk_cell BK360.out 6).trans rfl; have hfz5_0 := blk_frozen BK360.out 0; have hfz5_1 := blk_frozen BK360.out 1; have hfz5_2 := blk_frozen BK360.out 2; have hfz5_3 := blk_frozen BK360.out 3; have hfz5_4 := blk_frozen BK360.out 4; have hfz5_5 := blk_frozen BK360.out 5; have hfz5_6 := blk_frozen BK360.out 6) | (go_at_call 20; (with_reducible refine (selfstabref42_Valid.calls k a0_0 a0_1 a0_2 a0_3 a0_4 _ _ l0_5 _ _ l0_6 true _ ?side1 ?side2 ?side3 ?side4 A2.out).mono ?_); (case side1 => repeat (first | exact (Kd.C_below HR0_5.out HB.out) | (with_reducible refine Kd.C_alloc ?_ _) | (with_reducible refine Kd.C_drewN ?_ _) | (with_reducible refine Kd.C_drew ?_))); (case side2 => exact HC0_5.out); (case side3 => repeat (first | exact (Kd.C_below HR0_6.out HB.out) | (with_reducible refine Kd.C_alloc ?_ _) | (with_reducible refine Kd.C_drewN ?_ _) | (with_reducible refine Kd.C_drew ?_))); (case side4 => exact HC0_6.out); rintro e w6 ⟨rfl, hb⟩; have n0_ := Aside0.mk (blk_below (g := gb360) (o := .cells #[.int .i64 a0_0, .int .i64 a0_1, .int .i64 a0_2, .int .i64 a0_3, .int .i64 a0_4, .slice A0_5 l0_5.length c0_5, .slice A0_6 l0_6.length c0_6] 29 (0, 0)) (by (with_reducible repeat (first | refine blk_drewN ?_ _ | refine blk_drew ?_ | refine blk_alloc ?_ _)); exact BK360.out) hb); have n1_ := Aside0.mk (below_step (by repeat (first | (with_reducible first | exact HB.out | apply below_alloc | apply pw_below_drewN | apply below_drew1 | refine below_set ?_ GE360.out) | exact HB.out)) hb); clear BK360; clear HB; have BK360 := n0_; have HB := n1_; clear n0_ n1_; (try clear hb); (try clear hb2); (try clear hk); (try clear hi); have hcz7_0 : w6.cell? ⟨gb360, 0, none⟩ = some (.int .i64 a0_0) := (blk_cell BK360.out 0).trans rfl; have hcz7_1 : w6.cell? ⟨gb360, 1, none⟩ = some (.int .i64 a0_1) := (blk_cell BK360.out 1).trans rfl; have hcz7_2 : w6.cell? ⟨gb360, 2, none⟩ = some (.int .i64 a0_2) := (blk_cell BK360.out 2).trans rfl; have hcz7_3 : w6.cell? ⟨gb360, 3, none⟩ = some (.int .i64 a0_3) := (blk_cell BK360.out 3).trans rfl; have hcz7_4 : w6.cell? ⟨gb360, 4, none⟩ = some (.int .i64 a0_4) := (blk_cell BK360.out 4).trans rfl; have hcz7_5 : w6.cell? ⟨gb360, 5, none⟩ = some (.slice A0_5 l0_5.length c0_5) := (blk_cell BK360.out 5).trans rfl; have hcz7_6 : w6.cell? ⟨gb360, 6, none⟩ = some (.slice A0_6 l0_6.length c0_6) := (blk_cell BK360.out 6).trans rfl; have hfz7_0 := blk_frozen BK360.out 0; have hfz7_1 := blk_frozen BK360.out 1; have hfz7_2 := blk_frozen BK360.out 2; have hfz7_3 := blk_frozen BK360.out 3; have hfz7_4 := blk_frozen BK360.out 4; have hfz7_5 := blk_frozen BK360.out 5; have hfz7_6 := blk_frozen BK360.out 6)))
    go_loopg [3, 4] k (fun kq v3 v4 w' => ∃ (x3_1 : List Int) (x4_1 : Int), v4 = .int .i64 x4_1 ∧ Aside0 (selfstabref42_Aligned.l0 kq x3_1 x4_1 a0_0 a0_1 a0_2 a0_3 a0_4 l0_5 l0_6 = some r) ∧ Aside0 (kq ≤ k) ∧ Aside0 (Kd.R (Kd.int .i64) 3 w' w.heap.size (fun _ => True) v3 x3_1) ∧ Aside0 (w'.heap[gb360]? = some (.cells #[.int .i64 a0_0, .int .i64 a0_1, .int .i64 a0_2, .int .i64 a0_3, .int .i64 a0_4, (.slice A0_5 l0_5.length c0_5), (.slice A0_6 l0_6.length c0_6)] 29 (0, 0))) ∧ Aside0 (Below w.heap.size w w'))
    case atStart => exact ⟨(([] : List Int)), (wrap64 ((l0_5.length : Int) - 1)), (by first | rfl | (simp; done) | (simp [*]; done)), H', ⟨Nat.le_refl _⟩, ⟨by first | exact Kd.R_nil _ _ _ _ _ | exact Kd.N_nil _ _ _ _ _ | exact Kd.V_nil _ _ _ _ _ | exact Kd.Q_nil _ _ _ _ _ | exact Kd.S_nil _ _ _ _ _⟩, ⟨by (with_reducible repeat (first | refine blk_drewN ?_ _ | refine blk_drew ?_ | refine blk_alloc ?_ _)); exact BK360.out⟩, ⟨by repeat (first | (with_reducible first | exact HB.out | apply below_alloc | apply pw_below_drewN | apply below_drew1 | refine below_set ?_ GE360.out) | exact HB.out)⟩⟩
    case round =>
      clear H'
      try clear c2
      try clear p2
      try clear c3
      try clear p6
      try clear hcz5_0
      try clear hcz5_1
      try clear hcz5_2
      try clear hcz5_3
      try clear hcz5_4
      try clear hcz5_5
      try clear hcz5_6
      try clear hcz7_0
      try clear hcz7_1
      try clear hcz7_2
      try clear hcz7_3
      try clear hcz7_4
      try clear hcz7_5
      try clear hcz7_6
      try clear hfz5_0
      try clear hfz5_1
      try clear hfz5_2
      try clear hfz5_3
      try clear hfz5_4
      try clear hfz5_5
      try clear hfz5_6
      try clear hfz7_0
      try clear hfz7_1
      try clear hfz7_2
      try clear hfz7_3
      try clear hfz7_4
      try clear hfz7_5
      try clear hfz7_6
      obtain ⟨x3_1, x4_1, rfl, HA, HK1, HO_3, BK360, HB⟩ := hrel
      cases gk with
      | zero => exact absurd HA.out (by simp [selfstabref42_Aligned.l0])
      | succ k1 =>
        have H := HA.out
        clear HA
        simp only [selfstabref42_Aligned.l0] at H
        by_cases c8 : x4_1 ≥ 0
        · rw [if_pos c8] at H
          have c8b0 : decide (0 ≤ x4_1) = true := decide_eq_true c8
          clear c8
          by_cases c9 : 0 ≤ x4_1
          · rw [if_pos c9] at H
            have c9b0 : decide (0 ≤ x4_1) = true := decide_eq_true c9
            clear c9
            by_cases c10 : x4_1 < (l0_5.length : Int)
            · rw [if_pos c10] at H
              have c10b0 : decide (x4_1 < (l0_5.length : Int)) = true := decide_eq_true c10
              clear c10
              by_cases c11 : x3_1.length < 17592186044416
              · rw [if_pos c11] at H
                have LMc11 := Aside0.mk c11
                clear c11
                obtain ⟨y363, hy363⟩ : ∃ y_ : List Int, y_ = (x3_1 ++ [(rd_T46 l0_5 x4_1).f0]) := ⟨_, rfl⟩
                replace H : (selfstabref42_Aligned.l0 k1 y363 (wrap64 (x4_1 - 1)) a0_0 a0_1 a0_2 a0_3 a0_4 l0_5 l0_6) = some r := by first | (rw [hy363]; with_reducible exact H) | (have H2_ := (Option.bind_some _ _).symm.trans H; rw [hy363]; with_reducible exact H2_) | (have H2_ := (Option.bind_some _ _).symm.trans H; with_reducible exact H2_) | with_reducible exact H | (rw [hy363]; exact H) | exact H
                have Ny363 := Aside0.mk hy363
                clear hy363
                have H' := Aside0.mk H
                clear H
                have hcz12_0 : wr.cell? ⟨gb360, 0, none⟩ = some (.int .i64 a0_0) := (blk_cell BK360.out 0).trans rfl
                have hcz12_1 : wr.cell? ⟨gb360, 1, none⟩ = some (.int .i64 a0_1) := (blk_cell BK360.out 1).trans rfl
                have hcz12_2 : wr.cell? ⟨gb360, 2, none⟩ = some (.int .i64 a0_2) := (blk_cell BK360.out 2).trans rfl
                have hcz12_3 : wr.cell? ⟨gb360, 3, none⟩ = some (.int .i64 a0_3) := (blk_cell BK360.out 3).trans rfl
                have hcz12_4 : wr.cell? ⟨gb360, 4, none⟩ = some (.int .i64 a0_4) := (blk_cell BK360.out 4).trans rfl
                have hcz12_5 : wr.cell? ⟨gb360, 5, none⟩ = some (.slice A0_5 l0_5.length c0_5) := (blk_cell BK360.out 5).trans rfl
                have hcz12_6 : wr.cell? ⟨gb360, 6, none⟩ = some (.slice A0_6 l0_6.length c0_6) := (blk_cell BK360.out 6).trans rfl
                have hfz12_0 := blk_frozen BK360.out 0
                have hfz12_1 := blk_frozen BK360.out 1
                have hfz12_2 := blk_frozen BK360.out 2
                have hfz12_3 := blk_frozen BK360.out 3
                have hfz12_4 := blk_frozen BK360.out 4
                have hfz12_5 := blk_frozen BK360.out 5
                have hfz12_6 := blk_frozen BK360.out 6
                have p362 : 0 ≤ (x4_1 : Int) := of_decide_eq_true (by first | (with_reducible assumption) | assumption)
                have q362 : x4_1 < (l0_5.length : Int) := of_decide_eq_true (by first | (with_reducible assumption) | assumption)
                obtain ⟨ad362, e362, hx362_0, hx362_1⟩ := at_T46 HR0_5.out x4_1 p362 q362
                cases e362
                replace hx362_0 := (HB.out.cell (World.block_lt_of_cell? w _ hx362_0)).trans hx362_0
                replace hx362_1 := (HB.out.cell (World.block_lt_of_cell? w _ hx362_1)).trans hx362_1
                replace p362 := eq_true p362
                replace q362 := eq_true q362
                go_wp2_with (first | ((with_reducible refine gate_builtin (b := .append) (xs := #[.tmp 19, .tmp 26]) rfl ?_); at_builtin; refine Kd.R_append (Kd.int .i64) (w0 := w) w.heap.size rfl (.tmp 19) (.tmp 26) 22 3 (.int .i64 0) 8 rfl Try.underlying22 info3 rfl (by decide) (by omega) u3 x3_1 ((rd_T46 l0_5 x4_1).f0) [.int .i64 ((rd_T46 l0_5 x4_1).f0)] (fun _ => True) (fun _ => False) rfl rfl ?aP (fun _ hk => hk.elim) ?aF ?aO ?aB ?aS ?aL ?_; (case aP => exact rfl); (case aB => exact (by repeat (first | (with_reducible first | exact HB.out | apply below_alloc | apply pw_below_drewN | apply below_drew1 | refine below_set ?_ GE360.out) | exact HB.out))); (case aF => exact (fun _ _ => trivial)); (case aO => exact (by (with_reducible repeat (first | apply Kd.R_alloc | apply Kd.R_drewN | apply Kd.R_drew)); exact HO_3.out)); (case aS => exact (below_size (by repeat (first | (with_reducible first | exact HB.out | apply below_alloc | apply pw_below_drewN | apply below_drew1 | refine below_set ?_ GE360.out) | exact HB.out)))); (case aL => have := LMc11.out; omega); intro v364 w13 ho hb hg hat; rw [← Ny363.out] at ho; have n0_ := Aside0.mk (blk_grown (g := gb360) (o := .cells #[.int .i64 a0_0, .int .i64 a0_1, .int .i64 a0_2, .int .i64 a0_3, .int .i64 a0_4, .slice (some ad362) l0_5.length c0_5, .slice A0_6 l0_6.length c0_6] 29 (0, 0)) (by (with_reducible repeat (first | refine blk_drewN ?_ _ | refine blk_drew ?_ | refine blk_alloc ?_ _)); exact BK360.out) hg (Kd.R_ne HO_3.out BK360.out (by decide))); have n1_ := Aside0.mk (hb); have n2_ := Aside0.mk (ho); clear BK360; clear HB; clear HO_3; have BK360 := n0_; have HB := n1_; have HO365 := n2_; clear n0_ n1_ n2_; clear ho hb hg hat))
                repeat (go_quiet (first | ((with_reducible refine gate_builtin (b := .append) (xs := #[.tmp 19, .tmp 26]) rfl ?_); at_builtin; refine Kd.R_append (Kd.int .i64) (w0 := w) w.heap.size rfl (.tmp 19) (.tmp 26) 22 3 (.int .i64 0) 8 rfl Try.underlying22 info3 rfl (by decide) (by omega) u3 x3_1 ((rd_T46 l0_5 x4_1).f0) [.int .i64 ((rd_T46 l0_5 x4_1).f0)] (fun _ => True) (fun _ => False) rfl rfl ?aP (fun _ hk => hk.elim) ?aF ?aO ?aB ?aS ?aL ?_; (case aP => exact rfl); (case aB => exact (by repeat (first | (with_reducible first | exact HB.out | apply below_alloc | apply pw_below_drewN | apply below_drew1 | refine below_set ?_ GE360.out) | exact HB.out))); (case aF => exact (fun _ _ => trivial)); (case aO => exact (by (with_reducible repeat (first | apply Kd.R_alloc | apply Kd.R_drewN | apply Kd.R_drew)); exact HO_3.out)); (case aS => exact (below_size (by repeat (first | (with_reducible first | exact HB.out | apply below_alloc | apply pw_below_drewN | apply below_drew1 | refine below_set ?_ GE360.out) | exact HB.out)))); (case aL => have := LMc11.out; omega); intro v364 w13 ho hb hg hat; rw [← Ny363.out] at ho; have n0_ := Aside0.mk (blk_grown (g := gb360) (o := .cells #[.int .i64 a0_0, .int .i64 a0_1, .int .i64 a0_2, .int .i64 a0_3, .int .i64 a0_4, .slice (some ad362) l0_5.length c0_5, .slice A0_6 l0_6.length c0_6] 29 (0, 0)) (by (with_reducible repeat (first | refine blk_drewN ?_ _ | refine blk_drew ?_ | refine blk_alloc ?_ _)); exact BK360.out) hg (Kd.R_ne HO_3.out BK360.out (by decide))); have n1_ := Aside0.mk (hb); have n2_ := Aside0.mk (ho); clear BK360; clear HB; clear HO_3; have BK360 := n0_; have HB := n1_; have HO365 := n2_; clear n0_ n1_ n2_; clear ho hb hg hat)); try go_wp2_with (first | ((with_reducible refine gate_builtin (b := .append) (xs := #[.tmp 19, .tmp 26]) rfl ?_); at_builtin; refine Kd.R_append (Kd.int .i64) (w0 := w) w.heap.size rfl (.tmp 19) (.tmp 26) 22 3 (.int .i64 0) 8 rfl Try.underlying22 info3 rfl (by decide) (by omega) u3 x3_1 ((rd_T46 l0_5 x4_1).f0) [.int .i64 ((rd_T46 l0_5 x4_1).f0)] (fun _ => True) (fun _ => False) rfl rfl ?aP (fun _ hk => hk.elim) ?aF ?aO ?aB ?aS ?aL ?_; (case aP => exact rfl); (case aB => exact (by repeat (first | (with_reducible first | exact HB.out | apply below_alloc | apply pw_below_drewN | apply below_drew1 | refine below_set ?_ GE360.out) | exact HB.out))); (case aF => exact (fun _ _ => trivial)); (case aO => exact (by (with_reducible repeat (first | apply Kd.R_alloc | apply Kd.R_drewN | apply Kd.R_drew)); exact HO_3.out)); (case aS => exact (below_size (by repeat (first | (with_reducible first | exact HB.out | apply below_alloc | apply pw_below_drewN | apply below_drew1 | refine below_set ?_ GE360.out) | exact HB.out)))); (case aL => have := LMc11.out; omega); intro v364 w13 ho hb hg hat; rw [← Ny363.out] at ho; have n0_ := Aside0.mk (blk_grown (g := gb360) (o := .cells #[.int .i64 a0_0, .int .i64 a0_1, .int .i64 a0_2, .int .i64 a0_3, .int .i64 a0_4, .slice (some ad362) l0_5.length c0_5, .slice A0_6 l0_6.length c0_6] 29 (0, 0)) (by (with_reducible repeat (first | refine blk_drewN ?_ _ | refine blk_drew ?_ | refine blk_alloc ?_ _)); exact BK360.out) hg (Kd.R_ne HO_3.out BK360.out (by decide))); have n1_ := Aside0.mk (hb); have n2_ := Aside0.mk (ho); clear BK360; clear HB; clear HO_3; have BK360 := n0_; have HB := n1_; have HO365 := n2_; clear n0_ n1_ n2_; clear ho hb hg hat)))
                go_roundg k1
                case measure => have := HK1.out; omega
                case rel => exact ⟨(y363), (wrap64 (x4_1 - 1)), (by first | rfl | (simp; done) | (simp [*]; done)), H', ⟨by have := HK1.out; omega⟩, ⟨by (with_reducible repeat (first | apply Kd.R_alloc | apply Kd.R_drewN | apply Kd.R_drew)); exact HO365.out⟩, ⟨by (with_reducible repeat (first | refine blk_drewN ?_ _ | refine blk_drew ?_ | refine blk_alloc ?_ _)); exact BK360.out⟩, ⟨by repeat (first | (with_reducible first | exact HB.out | apply below_alloc | apply pw_below_drewN | apply below_drew1 | refine below_set ?_ GE360.out) | exact HB.out)⟩⟩
              · rw [if_neg c11] at H
                exact absurd H (by simp)
            · rw [if_neg c10] at H
              exact absurd H (by simp)
          · rw [if_neg c9] at H
            exact absurd H (by simp)
        · rw [if_neg c8] at H
          have c8b0 : decide (0 ≤ x4_1) = false := decide_eq_false c8
          clear c8
          by_cases c14 : x3_1.length < 17592186044416
          · rw [if_pos c14] at H
            have LMc14 := Aside0.mk c14
            clear c14
            obtain ⟨y366, hy366⟩ : ∃ y_ : List Int, y_ = (x3_1 ++ [a0_4]) := ⟨_, rfl⟩
            replace H : (selfstabref42_Aligned.l1 k1 y366 (wrap64 ((l0_6.length : Int) - 1)) a0_0 a0_1 a0_2 a0_3 a0_4 l0_5 l0_6) = some r := by first | (rw [hy366]; with_reducible exact H) | (have H2_ := (Option.bind_some _ _).symm.trans H; rw [hy366]; with_reducible exact H2_) | (have H2_ := (Option.bind_some _ _).symm.trans H; with_reducible exact H2_) | with_reducible exact H | (rw [hy366]; exact H) | exact H
            have Ny366 := Aside0.mk hy366
            clear hy366
            have H' := Aside0.mk H
            clear H
            have hcz15_0 : wr.cell? ⟨gb360, 0, none⟩ = some (.int .i64 a0_0) := (blk_cell BK360.out 0).trans rfl
            have hcz15_1 : wr.cell? ⟨gb360, 1, none⟩ = some (.int .i64 a0_1) := (blk_cell BK360.out 1).trans rfl
            have hcz15_2 : wr.cell? ⟨gb360, 2, none⟩ = some (.int .i64 a0_2) := (blk_cell BK360.out 2).trans rfl
            have hcz15_3 : wr.cell? ⟨gb360, 3, none⟩ = some (.int .i64 a0_3) := (blk_cell BK360.out 3).trans rfl
            have hcz15_4 : wr.cell? ⟨gb360, 4, none⟩ = some (.int .i64 a0_4) := (blk_cell BK360.out 4).trans rfl
            have hcz15_5 : wr.cell? ⟨gb360, 5, none⟩ = some (.slice A0_5 l0_5.length c0_5) := (blk_cell BK360.out 5).trans rfl
            have hcz15_6 : wr.cell? ⟨gb360, 6, none⟩ = some (.slice A0_6 l0_6.length c0_6) := (blk_cell BK360.out 6).trans rfl
            have hfz15_0 := blk_frozen BK360.out 0
            have hfz15_1 := blk_frozen BK360.out 1
            have hfz15_2 := blk_frozen BK360.out 2
            have hfz15_3 := blk_frozen BK360.out 3
            have hfz15_4 := blk_frozen BK360.out 4
            have hfz15_5 := blk_frozen BK360.out 5
            have hfz15_6 := blk_frozen BK360.out 6
            go_wp2_with (first | ((with_reducible refine gate_builtin (b := .append) (xs := #[.tmp 28, .tmp 31]) rfl ?_); at_builtin; refine Kd.R_append (Kd.int .i64) (w0 := w) w.heap.size rfl (.tmp 28) (.tmp 31) 22 3 (.int .i64 0) 8 rfl Try.underlying22 info3 rfl (by decide) (by omega) u3 x3_1 a0_4 [.int .i64 a0_4] (fun _ => True) (fun _ => False) rfl rfl ?aP (fun _ hk => hk.elim) ?aF ?aO ?aB ?aS ?aL ?_; (case aP => exact rfl); (case aB => exact (by repeat (first | (with_reducible first | exact HB.out | apply below_alloc | apply pw_below_drewN | apply below_drew1 | refine below_set ?_ GE360.out) | exact HB.out))); (case aF => exact (fun _ _ => trivial)); (case aO => exact (by (with_reducible repeat (first | apply Kd.R_alloc | apply Kd.R_drewN | apply Kd.R_drew)); exact HO_3.out)); (case aS => exact (below_size (by repeat (first | (with_reducible first | exact HB.out | apply below_alloc | apply pw_below_drewN | apply below_drew1 | refine below_set ?_ GE360.out) | exact HB.out)))); (case aL => have := LMc14.out; omega); intro v367 w16 ho hb hg hat; rw [← Ny366.out] at ho; have n0_ := Aside0.mk (blk_grown (g := gb360) (o := .cells #[.int .i64 a0_0, .int .i64 a0_1, .int .i64 a0_2, .int .i64 a0_3, .int .i64 a0_4, .slice A0_5 l0_5.length c0_5, .slice A0_6 l0_6.length c0_6] 29 (0, 0)) (by (with_reducible repeat (first | refine blk_drewN ?_ _ | refine blk_drew ?_ | refine blk_alloc ?_ _)); exact BK360.out) hg (Kd.R_ne HO_3.out BK360.out (by decide))); have n1_ := Aside0.mk (hb); have n2_ := Aside0.mk (ho); clear BK360; clear HB; clear HO_3; have BK360 := n0_; have HB := n1_; have HO368 := n2_; clear n0_ n1_ n2_; clear ho hb hg hat; have hcz17_0 : w16.cell? ⟨gb360, 0, none⟩ = some (.int .i64 a0_0) := (blk_cell BK360.out 0).trans rfl; have hcz17_1 : w16.cell? ⟨gb360, 1, none⟩ = some (.int .i64 a0_1) := (blk_cell BK360.out 1).trans rfl; have hcz17_2 : w16.cell? ⟨gb360, 2, none⟩ = some (.int .i64 a0_2) := (blk_cell BK360.out 2).trans rfl; have hcz17_3 : w16.cell? ⟨gb360, 3, none⟩ = some (.int .i64 a0_3) := (blk_cell BK360.out 3).trans rfl; have hcz17_4 : w16.cell? ⟨gb360, 4, none⟩ = some (.int .i64 a0_4) := (blk_cell BK360.out 4).trans rfl; have hcz17_5 : w16.cell? ⟨gb360, 5, none⟩ = some (.slice A0_5 l0_5.length c0_5) := (blk_cell BK360.out 5).trans rfl; have hcz17_6 : w16.cell? ⟨gb360, 6, none⟩ = some (.slice A0_6 l0_6.length c0_6) := (blk_cell BK360.out 6).trans rfl; have hfz17_0 := blk_frozen BK360.out 0; have hfz17_1 := blk_frozen BK360.out 1; have hfz17_2 := blk_frozen BK360.out 2; have hfz17_3 := blk_frozen BK360.out 3; have hfz17_4 := blk_frozen BK360.out 4; have hfz17_5 := blk_frozen BK360.out 5; have hfz17_6 := blk_frozen BK360.out 6))
            repeat (go_quiet (first | ((with_reducible refine gate_builtin (b := .append) (xs := #[.tmp 28, .tmp 31]) rfl ?_); at_builtin; refine Kd.R_append (Kd.int .i64) (w0 := w) w.heap.size rfl (.tmp 28) (.tmp 31) 22 3 (.int .i64 0) 8 rfl Try.underlying22 info3 rfl (by decide) (by omega) u3 x3_1 a0_4 [.int .i64 a0_4] (fun _ => True) (fun _ => False) rfl rfl ?aP (fun _ hk => hk.elim) ?aF ?aO ?aB ?aS ?aL ?_; (case aP => exact rfl); (case aB => exact (by repeat (first | (with_reducible first | exact HB.out | apply below_alloc | apply pw_below_drewN | apply below_drew1 | refine below_set ?_ GE360.out) | exact HB.out))); (case aF => exact (fun _ _ => trivial)); (case aO => exact (by (with_reducible repeat (first | apply Kd.R_alloc | apply Kd.R_drewN | apply Kd.R_drew)); exact HO_3.out)); (case aS => exact (below_size (by repeat (first | (with_reducible first | exact HB.out | apply below_alloc | apply pw_below_drewN | apply below_drew1 | refine below_set ?_ GE360.out) | exact HB.out)))); (case aL => have := LMc14.out; omega); intro v367 w16 ho hb hg hat; rw [← Ny366.out] at ho; have n0_ := Aside0.mk (blk_grown (g := gb360) (o := .cells #[.int .i64 a0_0, .int .i64 a0_1, .int .i64 a0_2, .int .i64 a0_3, .int .i64 a0_4, .slice A0_5 l0_5.length c0_5, .slice A0_6 l0_6.length c0_6] 29 (0, 0)) (by (with_reducible repeat (first | refine blk_drewN ?_ _ | refine blk_drew ?_ | refine blk_alloc ?_ _)); exact BK360.out) hg (Kd.R_ne HO_3.out BK360.out (by decide))); have n1_ := Aside0.mk (hb); have n2_ := Aside0.mk (ho); clear BK360; clear HB; clear HO_3; have BK360 := n0_; have HB := n1_; have HO368 := n2_; clear n0_ n1_ n2_; clear ho hb hg hat; have hcz17_0 : w16.cell? ⟨gb360, 0, none⟩ = some (.int .i64 a0_0) := (blk_cell BK360.out 0).trans rfl; have hcz17_1 : w16.cell? ⟨gb360, 1, none⟩ = some (.int .i64 a0_1) := (blk_cell BK360.out 1).trans rfl; have hcz17_2 : w16.cell? ⟨gb360, 2, none⟩ = some (.int .i64 a0_2) := (blk_cell BK360.out 2).trans rfl; have hcz17_3 : w16.cell? ⟨gb360, 3, none⟩ = some (.int .i64 a0_3) := (blk_cell BK360.out 3).trans rfl; have hcz17_4 : w16.cell? ⟨gb360, 4, none⟩ = some (.int .i64 a0_4) := (blk_cell BK360.out 4).trans rfl; have hcz17_5 : w16.cell? ⟨gb360, 5, none⟩ = some (.slice A0_5 l0_5.length c0_5) := (blk_cell BK360.out 5).trans rfl; have hcz17_6 : w16.cell? ⟨gb360, 6, none⟩ = some (.slice A0_6 l0_6.length c0_6) := (blk_cell BK360.out 6).trans rfl; have hfz17_0 := blk_frozen BK360.out 0; have hfz17_1 := blk_frozen BK360.out 1; have hfz17_2 := blk_frozen BK360.out 2; have hfz17_3 := blk_frozen BK360.out 3; have hfz17_4 := blk_frozen BK360.out 4; have hfz17_5 := blk_frozen BK360.out 5; have hfz17_6 := blk_frozen BK360.out 6)); try go_wp2_with (first | ((with_reducible refine gate_builtin (b := .append) (xs := #[.tmp 28, .tmp 31]) rfl ?_); at_builtin; refine Kd.R_append (Kd.int .i64) (w0 := w) w.heap.size rfl (.tmp 28) (.tmp 31) 22 3 (.int .i64 0) 8 rfl Try.underlying22 info3 rfl (by decide) (by omega) u3 x3_1 a0_4 [.int .i64 a0_4] (fun _ => True) (fun _ => False) rfl rfl ?aP (fun _ hk => hk.elim) ?aF ?aO ?aB ?aS ?aL ?_; (case aP => exact rfl); (case aB => exact (by repeat (first | (with_reducible first | exact HB.out | apply below_alloc | apply pw_below_drewN | apply below_drew1 | refine below_set ?_ GE360.out) | exact HB.out))); (case aF => exact (fun _ _ => trivial)); (case aO => exact (by (with_reducible repeat (first | apply Kd.R_alloc | apply Kd.R_drewN | apply Kd.R_drew)); exact HO_3.out)); (case aS => exact (below_size (by repeat (first | (with_reducible first | exact HB.out | apply below_alloc | apply pw_below_drewN | apply below_drew1 | refine below_set ?_ GE360.out) | exact HB.out)))); (case aL => have := LMc14.out; omega); intro v367 w16 ho hb hg hat; rw [← Ny366.out] at ho; have n0_ := Aside0.mk (blk_grown (g := gb360) (o := .cells #[.int .i64 a0_0, .int .i64 a0_1, .int .i64 a0_2, .int .i64 a0_3, .int .i64 a0_4, .slice A0_5 l0_5.length c0_5, .slice A0_6 l0_6.length c0_6] 29 (0, 0)) (by (with_reducible repeat (first | refine blk_drewN ?_ _ | refine blk_drew ?_ | refine blk_alloc ?_ _)); exact BK360.out) hg (Kd.R_ne HO_3.out BK360.out (by decide))); have n1_ := Aside0.mk (hb); have n2_ := Aside0.mk (ho); clear BK360; clear HB; clear HO_3; have BK360 := n0_; have HB := n1_; have HO368 := n2_; clear n0_ n1_ n2_; clear ho hb hg hat; have hcz17_0 : w16.cell? ⟨gb360, 0, none⟩ = some (.int .i64 a0_0) := (blk_cell BK360.out 0).trans rfl; have hcz17_1 : w16.cell? ⟨gb360, 1, none⟩ = some (.int .i64 a0_1) := (blk_cell BK360.out 1).trans rfl; have hcz17_2 : w16.cell? ⟨gb360, 2, none⟩ = some (.int .i64 a0_2) := (blk_cell BK360.out 2).trans rfl; have hcz17_3 : w16.cell? ⟨gb360, 3, none⟩ = some (.int .i64 a0_3) := (blk_cell BK360.out 3).trans rfl; have hcz17_4 : w16.cell? ⟨gb360, 4, none⟩ = some (.int .i64 a0_4) := (blk_cell BK360.out 4).trans rfl; have hcz17_5 : w16.cell? ⟨gb360, 5, none⟩ = some (.slice A0_5 l0_5.length c0_5) := (blk_cell BK360.out 5).trans rfl; have hcz17_6 : w16.cell? ⟨gb360, 6, none⟩ = some (.slice A0_6 l0_6.length c0_6) := (blk_cell BK360.out 6).trans rfl; have hfz17_0 := blk_frozen BK360.out 0; have hfz17_1 := blk_frozen BK360.out 1; have hfz17_2 := blk_frozen BK360.out 2; have hfz17_3 := blk_frozen BK360.out 3; have hfz17_4 := blk_frozen BK360.out 4; have hfz17_5 := blk_frozen BK360.out 5; have hfz17_6 := blk_frozen BK360.out 6)))
            go_loopg [3, 5] k1 (fun kq v3 v5 w' => ∃ (x3_2 : List Int) (x5_2 : Int), v5 = .int .i64 x5_2 ∧ Aside0 (selfstabref42_Aligned.l1 kq x3_2 x5_2 a0_0 a0_1 a0_2 a0_3 a0_4 l0_5 l0_6 = some r) ∧ Aside0 (kq ≤ k1) ∧ Aside0 (Kd.R (Kd.int .i64) 3 w' w.heap.size (fun _ => True) v3 x3_2) ∧ Aside0 (w'.heap[gb360]? = some (.cells #[.int .i64 a0_0, .int .i64 a0_1, .int .i64 a0_2, .int .i64 a0_3, .int .i64 a0_4, (.slice A0_5 l0_5.length c0_5), (.slice A0_6 l0_6.length c0_6)] 29 (0, 0))) ∧ Aside0 (Below w.heap.size w w'))
            case atStart => exact ⟨(y366), (wrap64 ((l0_6.length : Int) - 1)), (by first | rfl | (simp; done) | (simp [*]; done)), H', ⟨Nat.le_refl _⟩, ⟨by (with_reducible repeat (first | apply Kd.R_alloc | apply Kd.R_drewN | apply Kd.R_drew)); exact HO368.out⟩, ⟨by (with_reducible repeat (first | refine blk_drewN ?_ _ | refine blk_drew ?_ | refine blk_alloc ?_ _)); exact BK360.out⟩, ⟨by repeat (first | (with_reducible first | exact HB.out | apply below_alloc | apply pw_below_drewN | apply below_drew1 | refine below_set ?_ GE360.out) | exact HB.out)⟩⟩
            case round =>
              clear H'
              try clear c1
              try clear c2
              try clear p2
              try clear c3
              try clear p3
              try clear q3
              try clear hx3
              try clear p6
              try clear c8
              try clear c8b0
              try clear c9
              try clear c9b0
              try clear c10
              try clear c10b0
              try clear c11
              try clear c14
              try clear hcz12_0
              try clear hcz12_1
              try clear hcz12_2
              try clear hcz12_3
              try clear hcz12_4
              try clear hcz12_5
              try clear hcz12_6
              try clear hcz15_0
              try clear hcz15_1
              try clear hcz15_2
              try clear hcz15_3
              try clear hcz15_4
              try clear hcz15_5
              try clear hcz15_6
              try clear hcz17_0
              try clear hcz17_1
              try clear hcz17_2
              try clear hcz17_3
              try clear hcz17_4
              try clear hcz17_5
              try clear hcz17_6
              try clear hcz5_0
              try clear hcz5_1
              try clear hcz5_2
              try clear hcz5_3
              try clear hcz5_4
              try clear hcz5_5
              try clear hcz5_6
              try clear hcz7_0
              try clear hcz7_1
              try clear hcz7_2
              try clear hcz7_3
              try clear hcz7_4
              try clear hcz7_5
              try clear hcz7_6
              try clear hfz12_0
              try clear hfz12_1
              try clear hfz12_2
              try clear hfz12_3
              try clear hfz12_4
              try clear hfz12_5
              try clear hfz12_6
              try clear hfz15_0
              try clear hfz15_1
              try clear hfz15_2
              try clear hfz15_3
              try clear hfz15_4
              try clear hfz15_5
              try clear hfz15_6
              try clear hfz17_0
              try clear hfz17_1
              try clear hfz17_2
              try clear hfz17_3
              try clear hfz17_4
              try clear hfz17_5
              try clear hfz17_6
              try clear hfz5_0
              try clear hfz5_1
              try clear hfz5_2
              try clear hfz5_3
              try clear hfz5_4
              try clear hfz5_5
              try clear hfz5_6
              try clear hfz7_0
              try clear hfz7_1
              try clear hfz7_2
              try clear hfz7_3
              try clear hfz7_4
              try clear hfz7_5
              try clear hfz7_6
              try clear hx362_0
              try clear hx362_1
              try clear p2
              try clear p362
              try clear p6
              try clear q362
              obtain ⟨x3_2, x5_2, rfl, HA, HK2, HO_3, BK360, HB⟩ := hrel
              cases gk with
              | zero => exact absurd HA.out (by simp [selfstabref42_Aligned.l1])
              | succ k2 =>
                have H := HA.out
                clear HA
                simp only [selfstabref42_Aligned.l1] at H
                by_cases c18 : x5_2 ≥ 0
                · rw [if_pos c18] at H
                  have c18b0 : decide (0 ≤ x5_2) = true := decide_eq_true c18
                  clear c18
                  by_cases c19 : 0 ≤ x5_2
                  · rw [if_pos c19] at H
                    have c19b0 : decide (0 ≤ x5_2) = true := decide_eq_true c19
                    clear c19
                    by_cases c20 : x5_2 < (l0_6.length : Int)
                    · rw [if_pos c20] at H
                      have c20b0 : decide (x5_2 < (l0_6.length : Int)) = true := decide_eq_true c20
                      clear c20
                      by_cases c21 : x3_2.length < 17592186044416
                      · rw [if_pos c21] at H
                        have LMc21 := Aside0.mk c21
                        clear c21
                        obtain ⟨y370, hy370⟩ : ∃ y_ : List Int, y_ = (x3_2 ++ [rd l0_6 x5_2]) := ⟨_, rfl⟩
                        replace H : (selfstabref42_Aligned.l1 k2 y370 (wrap64 (x5_2 - 1)) a0_0 a0_1 a0_2 a0_3 a0_4 l0_5 l0_6) = some r := by first | (rw [hy370]; with_reducible exact H) | (have H2_ := (Option.bind_some _ _).symm.trans H; rw [hy370]; with_reducible exact H2_) | (have H2_ := (Option.bind_some _ _).symm.trans H; with_reducible exact H2_) | with_reducible exact H | (rw [hy370]; exact H) | exact H
                        have Ny370 := Aside0.mk hy370
                        clear hy370
                        have H' := Aside0.mk H
                        clear H
                        have hcz22_0 : wr.cell? ⟨gb360, 0, none⟩ = some (.int .i64 a0_0) := (blk_cell BK360.out 0).trans rfl
                        have hcz22_1 : wr.cell? ⟨gb360, 1, none⟩ = some (.int .i64 a0_1) := (blk_cell BK360.out 1).trans rfl
                        have hcz22_2 : wr.cell? ⟨gb360, 2, none⟩ = some (.int .i64 a0_2) := (blk_cell BK360.out 2).trans rfl
                        have hcz22_3 : wr.cell? ⟨gb360, 3, none⟩ = some (.int .i64 a0_3) := (blk_cell BK360.out 3).trans rfl
                        have hcz22_4 : wr.cell? ⟨gb360, 4, none⟩ = some (.int .i64 a0_4) := (blk_cell BK360.out 4).trans rfl
                        have hcz22_5 : wr.cell? ⟨gb360, 5, none⟩ = some (.slice A0_5 l0_5.length c0_5) := (blk_cell BK360.out 5).trans rfl
                        have hcz22_6 : wr.cell? ⟨gb360, 6, none⟩ = some (.slice A0_6 l0_6.length c0_6) := (blk_cell BK360.out 6).trans rfl
                        have hfz22_0 := blk_frozen BK360.out 0
                        have hfz22_1 := blk_frozen BK360.out 1
                        have hfz22_2 := blk_frozen BK360.out 2
                        have hfz22_3 := blk_frozen BK360.out 3
                        have hfz22_4 := blk_frozen BK360.out 4
                        have hfz22_5 := blk_frozen BK360.out 5
                        have hfz22_6 := blk_frozen BK360.out 6
                        have p369 : 0 ≤ (x5_2 : Int) := of_decide_eq_true (by first | (with_reducible assumption) | assumption)
                        have q369 : x5_2 < (l0_6.length : Int) := of_decide_eq_true (by first | (with_reducible assumption) | assumption)
                        obtain ⟨ad369, e369, hx369_0⟩ := Kd.at_int HR0_6.out x5_2 p369 q369
                        cases e369
                        replace hx369_0 := (HB.out.cell (World.block_lt_of_cell? w _ hx369_0)).trans hx369_0
                        replace p369 := eq_true p369
                        replace q369 := eq_true q369
                        go_wp2_with (first | ((with_reducible refine gate_builtin (b := .append) (xs := #[.tmp 41, .tmp 47]) rfl ?_); at_builtin; refine Kd.R_append (Kd.int .i64) (w0 := w) w.heap.size rfl (.tmp 41) (.tmp 47) 22 3 (.int .i64 0) 8 rfl Try.underlying22 info3 rfl (by decide) (by omega) u3 x3_2 (rd l0_6 x5_2) [.int .i64 (rd l0_6 x5_2)] (fun _ => True) (fun _ => False) rfl rfl ?aP (fun _ hk => hk.elim) ?aF ?aO ?aB ?aS ?aL ?_; (case aP => exact rfl); (case aB => exact (by repeat (first | (with_reducible first | exact HB.out | apply below_alloc | apply pw_below_drewN | apply below_drew1 | refine below_set ?_ GE360.out) | exact HB.out))); (case aF => exact (fun _ _ => trivial)); (case aO => exact (by (with_reducible repeat (first | apply Kd.R_alloc | apply Kd.R_drewN | apply Kd.R_drew)); exact HO_3.out)); (case aS => exact (below_size (by repeat (first | (with_reducible first | exact HB.out | apply below_alloc | apply pw_below_drewN | apply below_drew1 | refine below_set ?_ GE360.out) | exact HB.out)))); (case aL => have := LMc21.out; omega); intro v371 w23 ho hb hg hat; rw [← Ny370.out] at ho; have n0_ := Aside0.mk (blk_grown (g := gb360) (o := .cells #[.int .i64 a0_0, .int .i64 a0_1, .int .i64 a0_2, .int .i64 a0_3, .int .i64 a0_4, .slice A0_5 l0_5.length c0_5, .slice (some ad369) l0_6.length c0_6] 29 (0, 0)) (by (with_reducible repeat (first | refine blk_drewN ?_ _ | refine blk_drew ?_ | refine blk_alloc ?_ _)); exact BK360.out) hg (Kd.R_ne HO_3.out BK360.out (by decide))); have n1_ := Aside0.mk (hb); have n2_ := Aside0.mk (ho); clear BK360; clear HB; clear HO_3; have BK360 := n0_; have HB := n1_; have HO372 := n2_; clear n0_ n1_ n2_; clear ho hb hg hat))
                        repeat (go_quiet (first | ((with_reducible refine gate_builtin (b := .append) (xs := #[.tmp 41, .tmp 47]) rfl ?_); at_builtin; refine Kd.R_append (Kd.int .i64) (w0 := w) w.heap.size rfl (.tmp 41) (.tmp 47) 22 3 (.int .i64 0) 8 rfl Try.underlying22 info3 rfl (by decide) (by omega) u3 x3_2 (rd l0_6 x5_2) [.int .i64 (rd l0_6 x5_2)] (fun _ => True) (fun _ => False) rfl rfl ?aP (fun _ hk => hk.elim) ?aF ?aO ?aB ?aS ?aL ?_; (case aP => exact rfl); (case aB => exact (by repeat (first | (with_reducible first | exact HB.out | apply below_alloc | apply pw_below_drewN | apply below_drew1 | refine below_set ?_ GE360.out) | exact HB.out))); (case aF => exact (fun _ _ => trivial)); (case aO => exact (by (with_reducible repeat (first | apply Kd.R_alloc | apply Kd.R_drewN | apply Kd.R_drew)); exact HO_3.out)); (case aS => exact (below_size (by repeat (first | (with_reducible first | exact HB.out | apply below_alloc | apply pw_below_drewN | apply below_drew1 | refine below_set ?_ GE360.out) | exact HB.out)))); (case aL => have := LMc21.out; omega); intro v371 w23 ho hb hg hat; rw [← Ny370.out] at ho; have n0_ := Aside0.mk (blk_grown (g := gb360) (o := .cells #[.int .i64 a0_0, .int .i64 a0_1, .int .i64 a0_2, .int .i64 a0_3, .int .i64 a0_4, .slice A0_5 l0_5.length c0_5, .slice (some ad369) l0_6.length c0_6] 29 (0, 0)) (by (with_reducible repeat (first | refine blk_drewN ?_ _ | refine blk_drew ?_ | refine blk_alloc ?_ _)); exact BK360.out) hg (Kd.R_ne HO_3.out BK360.out (by decide))); have n1_ := Aside0.mk (hb); have n2_ := Aside0.mk (ho); clear BK360; clear HB; clear HO_3; have BK360 := n0_; have HB := n1_; have HO372 := n2_; clear n0_ n1_ n2_; clear ho hb hg hat)); try go_wp2_with (first | ((with_reducible refine gate_builtin (b := .append) (xs := #[.tmp 41, .tmp 47]) rfl ?_); at_builtin; refine Kd.R_append (Kd.int .i64) (w0 := w) w.heap.size rfl (.tmp 41) (.tmp 47) 22 3 (.int .i64 0) 8 rfl Try.underlying22 info3 rfl (by decide) (by omega) u3 x3_2 (rd l0_6 x5_2) [.int .i64 (rd l0_6 x5_2)] (fun _ => True) (fun _ => False) rfl rfl ?aP (fun _ hk => hk.elim) ?aF ?aO ?aB ?aS ?aL ?_; (case aP => exact rfl); (case aB => exact (by repeat (first | (with_reducible first | exact HB.out | apply below_alloc | apply pw_below_drewN | apply below_drew1 | refine below_set ?_ GE360.out) | exact HB.out))); (case aF => exact (fun _ _ => trivial)); (case aO => exact (by (with_reducible repeat (first | apply Kd.R_alloc | apply Kd.R_drewN | apply Kd.R_drew)); exact HO_3.out)); (case aS => exact (below_size (by repeat (first | (with_reducible first | exact HB.out | apply below_alloc | apply pw_below_drewN | apply below_drew1 | refine below_set ?_ GE360.out) | exact HB.out)))); (case aL => have := LMc21.out; omega); intro v371 w23 ho hb hg hat; rw [← Ny370.out] at ho; have n0_ := Aside0.mk (blk_grown (g := gb360) (o := .cells #[.int .i64 a0_0, .int .i64 a0_1, .int .i64 a0_2, .int .i64 a0_3, .int .i64 a0_4, .slice A0_5 l0_5.length c0_5, .slice (some ad369) l0_6.length c0_6] 29 (0, 0)) (by (with_reducible repeat (first | refine blk_drewN ?_ _ | refine blk_drew ?_ | refine blk_alloc ?_ _)); exact BK360.out) hg (Kd.R_ne HO_3.out BK360.out (by decide))); have n1_ := Aside0.mk (hb); have n2_ := Aside0.mk (ho); clear BK360; clear HB; clear HO_3; have BK360 := n0_; have HB := n1_; have HO372 := n2_; clear n0_ n1_ n2_; clear ho hb hg hat)))
                        go_roundg k2
                        case measure => have := HK1.out; have := HK2.out; omega
                        case rel => exact ⟨(y370), (wrap64 (x5_2 - 1)), (by first | rfl | (simp; done) | (simp [*]; done)), H', ⟨by have := HK1.out; have := HK2.out; omega⟩, ⟨by (with_reducible repeat (first | apply Kd.R_alloc | apply Kd.R_drewN | apply Kd.R_drew)); exact HO372.out⟩, ⟨by (with_reducible repeat (first | refine blk_drewN ?_ _ | refine blk_drew ?_ | refine blk_alloc ?_ _)); exact BK360.out⟩, ⟨by repeat (first | (with_reducible first | exact HB.out | apply below_alloc | apply pw_below_drewN | apply below_drew1 | refine below_set ?_ GE360.out) | exact HB.out)⟩⟩
                      · rw [if_neg c21] at H
                        exact absurd H (by simp)
                    · rw [if_neg c20] at H
                      exact absurd H (by simp)
                  · rw [if_neg c19] at H
                    exact absurd H (by simp)
                · rw [if_neg c18] at H
                  have c18b0 : decide (0 ≤ x5_2) = false := decide_eq_false c18
                  clear c18
                  have H' := Aside0.mk H
                  clear H
                  go_wp2
                  repeat (go_quiet (fail); try go_wp2)
                  go_loopg [6, 7] k2 (fun kq v6 v7 w' => ∃ (x6_3 : Bool) (x7_3 : Int), v6 = .bool x6_3 ∧ v7 = .int .i64 x7_3 ∧ Aside0 (selfstabref42_Aligned.l2 kq x3_2 x6_3 x7_3 a0_0 a0_1 a0_2 a0_3 a0_4 l0_5 l0_6 = some r) ∧ Aside0 (kq ≤ k2) ∧ Aside0 (Kd.R (Kd.int .i64) 3 w' w.heap.size (fun _ => True) u3 x3_2) ∧ Aside0 (w'.heap[gb360]? = some (.cells #[.int .i64 a0_0, .int .i64 a0_1, .int .i64 a0_2, .int .i64 a0_3, .int .i64 a0_4, (.slice A0_5 l0_5.length c0_5), (.slice A0_6 l0_6.length c0_6)] 29 (0, 0))) ∧ Aside0 (Below w.heap.size w w'))
                  case atStart => exact ⟨(false), (0), (by first | rfl | (simp; done) | (simp [*]; done)), (by first | rfl | (simp; done) | (simp [*]; done)), H', ⟨Nat.le_refl _⟩, ⟨by (with_reducible repeat (first | apply Kd.R_alloc | apply Kd.R_drewN | apply Kd.R_drew)); exact HO_3.out⟩, ⟨by (with_reducible repeat (first | refine blk_drewN ?_ _ | refine blk_drew ?_ | refine blk_alloc ?_ _)); exact BK360.out⟩, ⟨by repeat (first | (with_reducible first | exact HB.out | apply below_alloc | apply pw_below_drewN | apply below_drew1 | refine below_set ?_ GE360.out) | exact HB.out)⟩⟩
                  case round =>
                    clear H'
                    try clear c1
                    try clear c2
                    try clear p2
                    try clear c3
                    try clear p3
                    try clear q3
                    try clear hx3
                    try clear p6
                    try clear c8
                    try clear c8b0
                    try clear c9
                    try clear c9b0
                    try clear c10
                    try clear c10b0
                    try clear c11
                    try clear c14
                    try clear c18
                    try clear c18b0
                    try clear c19
                    try clear c19b0
                    try clear c20
                    try clear c20b0
                    try clear c21
                    try clear c22
                    try clear hcz12_0
                    try clear hcz12_1
                    try clear hcz12_2
                    try clear hcz12_3
                    try clear hcz12_4
                    try clear hcz12_5
                    try clear hcz12_6
                    try clear hcz15_0
                    try clear hcz15_1
                    try clear hcz15_2
                    try clear hcz15_3
                    try clear hcz15_4
                    try clear hcz15_5
                    try clear hcz15_6
                    try clear hcz17_0
                    try clear hcz17_1
                    try clear hcz17_2
                    try clear hcz17_3
                    try clear hcz17_4
                    try clear hcz17_5
                    try clear hcz17_6
                    try clear hcz22_0
                    try clear hcz22_1
                    try clear hcz22_2
                    try clear hcz22_3
                    try clear hcz22_4
                    try clear hcz22_5
                    try clear hcz22_6
                    try clear hcz5_0
                    try clear hcz5_1
                    try clear hcz5_2
                    try clear hcz5_3
                    try clear hcz5_4
                    try clear hcz5_5
                    try clear hcz5_6
                    try clear hcz7_0
                    try clear hcz7_1
                    try clear hcz7_2
                    try clear hcz7_3
                    try clear hcz7_4
                    try clear hcz7_5
                    try clear hcz7_6
                    try clear hfz12_0
                    try clear hfz12_1
                    try clear hfz12_2
                    try clear hfz12_3
                    try clear hfz12_4
                    try clear hfz12_5
                    try clear hfz12_6
                    try clear hfz15_0
                    try clear hfz15_1
                    try clear hfz15_2
                    try clear hfz15_3
                    try clear hfz15_4
                    try clear hfz15_5
                    try clear hfz15_6
                    try clear hfz17_0
                    try clear hfz17_1
                    try clear hfz17_2
                    try clear hfz17_3
                    try clear hfz17_4
                    try clear hfz17_5
                    try clear hfz17_6
                    try clear hfz22_0
                    try clear hfz22_1
                    try clear hfz22_2
                    try clear hfz22_3
                    try clear hfz22_4
                    try clear hfz22_5
                    try clear hfz22_6
                    try clear hfz5_0
                    try clear hfz5_1
                    try clear hfz5_2
                    try clear hfz5_3
                    try clear hfz5_4
                    try clear hfz5_5
                    try clear hfz5_6
                    try clear hfz7_0
                    try clear hfz7_1
                    try clear hfz7_2
                    try clear hfz7_3
                    try clear hfz7_4
                    try clear hfz7_5
                    try clear hfz7_6
                    try clear hx362_0
                    try clear hx362_1
                    try clear hx369_0
                    try clear p2
                    try clear p3
                    try clear p362
                    try clear p369
                    try clear p6
                    try clear q3
                    try clear q362
                    try clear q369
                    obtain ⟨x6_3, x7_3, rfl, rfl, HA, HK3, HO_3, BK360, HB⟩ := hrel
                    cases gk with
                    | zero => exact absurd HA.out (by simp [selfstabref42_Aligned.l2])
                    | succ k3 =>
                      have H := HA.out
                      clear HA
                      simp only [selfstabref42_Aligned.l2] at H
                      by_cases c24 : x7_3 < (x3_2.length : Int)
                      · rw [if_pos c24] at H
                        have c24b0 : decide (x7_3 < (x3_2.length : Int)) = true := decide_eq_true c24
                        clear c24
                        by_cases c25 : 0 ≤ x7_3
                        · rw [if_pos c25] at H
                          have c25b0 : decide (0 ≤ x7_3) = true := decide_eq_true c25
                          clear c25
                          by_cases c26 : (rd x3_2 x7_3) = a0_2
                          · rw [if_pos c26] at H
                            have c26b0 : ((rd x3_2 x7_3) == a0_2) = true := beq_iff_eq.mpr c26
                            have c26b1 : ((rd x3_2 x7_3) != a0_2) = false := bne_eq_false_iff_eq.mpr c26
                            clear c26
                            by_cases c27 : x6_3 = true
                            · subst c27
                              have H1 : (some false) = some r := by rw [if_pos rfl] at H; exact H
                              clear H
                              have H := H1
                              clear H1
                              obtain rfl := Option.some.inj H
                              obtain ⟨Ao28, co28, eo28⟩ := Kd.R_slice HO_3.out
                              subst eo28
                              have p373 : 0 ≤ (x7_3 : Int) := of_decide_eq_true (by first | (with_reducible assumption) | assumption)
                              have q373 : x7_3 < (x3_2.length : Int) := of_decide_eq_true (by first | (with_reducible assumption) | assumption)
                              (try (obtain ⟨Az373, cz373, ez373⟩ := Kd.R_slice HO_3.out; subst ez373))
                              obtain ⟨ad373, e373, hx373_0⟩ := Kd.at_int (Kd.R_reads' HO_3.out).2.2 x7_3 p373 q373
                              cases e373
                              replace p373 := eq_true p373
                              replace q373 := eq_true q373
                              have hcz29_0 : wr.cell? ⟨gb360, 0, none⟩ = some (.int .i64 a0_0) := (blk_cell BK360.out 0).trans rfl
                              have hcz29_1 : wr.cell? ⟨gb360, 1, none⟩ = some (.int .i64 a0_1) := (blk_cell BK360.out 1).trans rfl
                              have hcz29_2 : wr.cell? ⟨gb360, 2, none⟩ = some (.int .i64 a0_2) := (blk_cell BK360.out 2).trans rfl
                              have hcz29_3 : wr.cell? ⟨gb360, 3, none⟩ = some (.int .i64 a0_3) := (blk_cell BK360.out 3).trans rfl
                              have hcz29_4 : wr.cell? ⟨gb360, 4, none⟩ = some (.int .i64 a0_4) := (blk_cell BK360.out 4).trans rfl
                              have hcz29_5 : wr.cell? ⟨gb360, 5, none⟩ = some (.slice A0_5 l0_5.length c0_5) := (blk_cell BK360.out 5).trans rfl
                              have hcz29_6 : wr.cell? ⟨gb360, 6, none⟩ = some (.slice A0_6 l0_6.length c0_6) := (blk_cell BK360.out 6).trans rfl
                              have hfz29_0 := blk_frozen BK360.out 0
                              have hfz29_1 := blk_frozen BK360.out 1
                              have hfz29_2 := blk_frozen BK360.out 2
                              have hfz29_3 := blk_frozen BK360.out 3
                              have hfz29_4 := blk_frozen BK360.out 4
                              have hfz29_5 := blk_frozen BK360.out 5
                              have hfz29_6 := blk_frozen BK360.out 6
                              go_wp2
                              repeat (go_quiet (fail); try go_wp2)
                              go_ret
                              exact ⟨by first | rfl | (simp [errW_none, errW_some] <;> rfl) | (simp [*, errW_none, errW_some] <;> rfl), by repeat (first | (with_reducible first | exact HB.out | apply below_alloc | apply pw_below_drewN | apply below_drew1 | refine below_set ?_ GE360.out) | exact HB.out)⟩
                            · replace c27 := Bool.eq_false_iff.mpr c27
                              subst c27
                              have H1 : (selfstabref42_Aligned.l2 k3 x3_2 ((rd x3_2 x7_3) != a0_2) (wrap64 (x7_3 + 1)) a0_0 a0_1 a0_2 a0_3 a0_4 l0_5 l0_6) = some r := by rw [if_neg (show ¬ (false = true) by decide)] at H; exact H
                              clear H
                              have H := H1
                              clear H1
                              have H' := Aside0.mk H
                              clear H
                              obtain ⟨Ao30, co30, eo30⟩ := Kd.R_slice HO_3.out
                              subst eo30
                              have p373 : 0 ≤ (x7_3 : Int) := of_decide_eq_true (by first | (with_reducible assumption) | assumption)
                              have q373 : x7_3 < (x3_2.length : Int) := of_decide_eq_true (by first | (with_reducible assumption) | assumption)
                              (try (obtain ⟨Az373, cz373, ez373⟩ := Kd.R_slice HO_3.out; subst ez373))
                              obtain ⟨ad373, e373, hx373_0⟩ := Kd.at_int (Kd.R_reads' HO_3.out).2.2 x7_3 p373 q373
                              cases e373
                              replace p373 := eq_true p373
                              replace q373 := eq_true q373
                              have hcz31_0 : wr.cell? ⟨gb360, 0, none⟩ = some (.int .i64 a0_0) := (blk_cell BK360.out 0).trans rfl
                              have hcz31_1 : wr.cell? ⟨gb360, 1, none⟩ = some (.int .i64 a0_1) := (blk_cell BK360.out 1).trans rfl
                              have hcz31_2 : wr.cell? ⟨gb360, 2, none⟩ = some (.int .i64 a0_2) := (blk_cell BK360.out 2).trans rfl
                              have hcz31_3 : wr.cell? ⟨gb360, 3, none⟩ = some (.int .i64 a0_3) := (blk_cell BK360.out 3).trans rfl
                              have hcz31_4 : wr.cell? ⟨gb360, 4, none⟩ = some (.int .i64 a0_4) := (blk_cell BK360.out 4).trans rfl
                              have hcz31_5 : wr.cell? ⟨gb360, 5, none⟩ = some (.slice A0_5 l0_5.length c0_5) := (blk_cell BK360.out 5).trans rfl
                              have hcz31_6 : wr.cell? ⟨gb360, 6, none⟩ = some (.slice A0_6 l0_6.length c0_6) := (blk_cell BK360.out 6).trans rfl
                              have hfz31_0 := blk_frozen BK360.out 0
                              have hfz31_1 := blk_frozen BK360.out 1
                              have hfz31_2 := blk_frozen BK360.out 2
                              have hfz31_3 := blk_frozen BK360.out 3
                              have hfz31_4 := blk_frozen BK360.out 4
                              have hfz31_5 := blk_frozen BK360.out 5
                              have hfz31_6 := blk_frozen BK360.out 6
                              have p374 : 0 ≤ (x7_3 : Int) := of_decide_eq_true (by first | (with_reducible assumption) | assumption)
                              have q374 : x7_3 < (x3_2.length : Int) := of_decide_eq_true (by first | (with_reducible assumption) | assumption)
                              (try (obtain ⟨Az374, cz374, ez374⟩ := Kd.R_slice HO_3.out; subst ez374))
                              obtain ⟨ad374, e374, hx374_0⟩ := Kd.at_int (Kd.R_reads' HO_3.out).2.2 x7_3 p374 q374
                              obtain rfl : ad373 = ad374 := (by injection e374)
                              replace p374 := eq_true p374
                              replace q374 := eq_true q374
                              have p375 : 0 ≤ (x7_3 : Int) := of_decide_eq_true (by first | (with_reducible assumption) | assumption)
                              have q375 : x7_3 < (x3_2.length : Int) := of_decide_eq_true (by first | (with_reducible assumption) | assumption)
                              (try (obtain ⟨Az375, cz375, ez375⟩ := Kd.R_slice HO_3.out; subst ez375))
                              obtain ⟨ad375, e375, hx375_0⟩ := Kd.at_int (Kd.R_reads' HO_3.out).2.2 x7_3 p375 q375
                              obtain rfl : ad373 = ad375 := (by injection e375)
                              replace p375 := eq_true p375
                              replace q375 := eq_true q375
                              go_wp2
                              repeat (go_quiet (fail); try go_wp2)
                              go_roundg k3
                              case measure => have := HK1.out; have := HK2.out; have := HK3.out; omega
                              case rel => exact ⟨(((rd x3_2 x7_3) != a0_2)), (wrap64 (x7_3 + 1)), (by first | rfl | (simp; done) | (simp [*]; done)), (by first | rfl | (simp; done) | (simp [*]; done)), H', ⟨by have := HK1.out; have := HK2.out; have := HK3.out; omega⟩, ⟨by (with_reducible repeat (first | apply Kd.R_alloc | apply Kd.R_drewN | apply Kd.R_drew)); exact HO_3.out⟩, ⟨by (with_reducible repeat (first | refine blk_drewN ?_ _ | refine blk_drew ?_ | refine blk_alloc ?_ _)); exact BK360.out⟩, ⟨by repeat (first | (with_reducible first | exact HB.out | apply below_alloc | apply pw_below_drewN | apply below_drew1 | refine below_set ?_ GE360.out) | exact HB.out)⟩⟩
                          · rw [if_neg c26] at H
                            have c26b0 : ((rd x3_2 x7_3) == a0_2) = false := beq_eq_false_iff_ne.mpr c26
                            have c26b1 : ((rd x3_2 x7_3) != a0_2) = true := bne_iff_ne.mpr c26
                            by_cases c32 : a0_1 = 0
                            · rw [if_pos c32] at H
                              exact absurd H (by simp)
                            · rw [if_neg c32] at H
                              have c32b0 : (a0_1 == 0) = false := beq_eq_false_iff_ne.mpr c32
                              have c32b1 : (a0_1 != 0) = true := bne_iff_ne.mpr c32
                              by_cases c33 : (rd x3_2 x7_3) = (Int.tmod (wrap64 ((wrap64 (a0_2 + a0_1)) - 1)) a0_1)
                              · rw [if_pos c33] at H
                                have c33b0 : ((rd x3_2 x7_3) == (Int.tmod (wrap64 ((wrap64 (a0_2 + a0_1)) - 1)) a0_1)) = true := beq_iff_eq.mpr c33
                                have c33b1 : ((rd x3_2 x7_3) != (Int.tmod (wrap64 ((wrap64 (a0_2 + a0_1)) - 1)) a0_1)) = false := bne_eq_false_iff_eq.mpr c33
                                clear c33
                                by_cases c34 : x6_3 = true
                                · subst c34
                                  have H1 : (selfstabref42_Aligned.l2 k3 x3_2 true (wrap64 (x7_3 + 1)) a0_0 a0_1 a0_2 a0_3 a0_4 l0_5 l0_6) = some r := by rw [if_pos rfl] at H; exact H
                                  clear H
                                  have H := H1
                                  clear H1
                                  have H' := Aside0.mk H
                                  clear H
                                  obtain ⟨Ao35, co35, eo35⟩ := Kd.R_slice HO_3.out
                                  subst eo35
                                  have p373 : 0 ≤ (x7_3 : Int) := of_decide_eq_true (by first | (with_reducible assumption) | assumption)
                                  have q373 : x7_3 < (x3_2.length : Int) := of_decide_eq_true (by first | (with_reducible assumption) | assumption)
                                  (try (obtain ⟨Az373, cz373, ez373⟩ := Kd.R_slice HO_3.out; subst ez373))
                                  obtain ⟨ad373, e373, hx373_0⟩ := Kd.at_int (Kd.R_reads' HO_3.out).2.2 x7_3 p373 q373
                                  cases e373
                                  replace p373 := eq_true p373
                                  replace q373 := eq_true q373
                                  have hcz36_0 : wr.cell? ⟨gb360, 0, none⟩ = some (.int .i64 a0_0) := (blk_cell BK360.out 0).trans rfl
                                  have hcz36_1 : wr.cell? ⟨gb360, 1, none⟩ = some (.int .i64 a0_1) := (blk_cell BK360.out 1).trans rfl
                                  have hcz36_2 : wr.cell? ⟨gb360, 2, none⟩ = some (.int .i64 a0_2) := (blk_cell BK360.out 2).trans rfl
                                  have hcz36_3 : wr.cell? ⟨gb360, 3, none⟩ = some (.int .i64 a0_3) := (blk_cell BK360.out 3).trans rfl
                                  have hcz36_4 : wr.cell? ⟨gb360, 4, none⟩ = some (.int .i64 a0_4) := (blk_cell BK360.out 4).trans rfl
                                  have hcz36_5 : wr.cell? ⟨gb360, 5, none⟩ = some (.slice A0_5 l0_5.length c0_5) := (blk_cell BK360.out 5).trans rfl
                                  have hcz36_6 : wr.cell? ⟨gb360, 6, none⟩ = some (.slice A0_6 l0_6.length c0_6) := (blk_cell BK360.out 6).trans rfl
                                  have hfz36_0 := blk_frozen BK360.out 0
                                  have hfz36_1 := blk_frozen BK360.out 1
                                  have hfz36_2 := blk_frozen BK360.out 2
                                  have hfz36_3 := blk_frozen BK360.out 3
                                  have hfz36_4 := blk_frozen BK360.out 4
                                  have hfz36_5 := blk_frozen BK360.out 5
                                  have hfz36_6 := blk_frozen BK360.out 6
                                  have p376 : 0 ≤ (x7_3 : Int) := of_decide_eq_true (by first | (with_reducible assumption) | assumption)
                                  have q376 : x7_3 < (x3_2.length : Int) := of_decide_eq_true (by first | (with_reducible assumption) | assumption)
                                  (try (obtain ⟨Az376, cz376, ez376⟩ := Kd.R_slice HO_3.out; subst ez376))
                                  obtain ⟨ad376, e376, hx376_0⟩ := Kd.at_int (Kd.R_reads' HO_3.out).2.2 x7_3 p376 q376
                                  obtain rfl : ad373 = ad376 := (by injection e376)
                                  replace p376 := eq_true p376
                                  replace q376 := eq_true q376
                                  have p377 : 0 ≤ (x7_3 : Int) := of_decide_eq_true (by first | (with_reducible assumption) | assumption)
                                  have q377 : x7_3 < (x3_2.length : Int) := of_decide_eq_true (by first | (with_reducible assumption) | assumption)
                                  (try (obtain ⟨Az377, cz377, ez377⟩ := Kd.R_slice HO_3.out; subst ez377))
                                  obtain ⟨ad377, e377, hx377_0⟩ := Kd.at_int (Kd.R_reads' HO_3.out).2.2 x7_3 p377 q377
                                  obtain rfl : ad373 = ad377 := (by injection e377)
                                  replace p377 := eq_true p377
                                  replace q377 := eq_true q377
                                  go_wp2
                                  repeat (go_quiet (fail); try go_wp2)
                                  go_roundg k3
                                  case measure => have := HK1.out; have := HK2.out; have := HK3.out; omega
                                  case rel => exact ⟨(true), (wrap64 (x7_3 + 1)), (by first | rfl | (simp; done) | (simp [*]; done)), (by first | rfl | (simp; done) | (simp [*]; done)), H', ⟨by have := HK1.out; have := HK2.out; have := HK3.out; omega⟩, ⟨by (with_reducible repeat (first | apply Kd.R_alloc | apply Kd.R_drewN | apply Kd.R_drew)); exact HO_3.out⟩, ⟨by (with_reducible repeat (first | refine blk_drewN ?_ _ | refine blk_drew ?_ | refine blk_alloc ?_ _)); exact BK360.out⟩, ⟨by repeat (first | (with_reducible first | exact HB.out | apply below_alloc | apply pw_below_drewN | apply below_drew1 | refine below_set ?_ GE360.out) | exact HB.out)⟩⟩
                                · replace c34 := Bool.eq_false_iff.mpr c34
                                  subst c34
                                  have H1 : (selfstabref42_Aligned.l2 k3 x3_2 ((rd x3_2 x7_3) != a0_2) (wrap64 (x7_3 + 1)) a0_0 a0_1 a0_2 a0_3 a0_4 l0_5 l0_6) = some r := by rw [if_neg (show ¬ (false = true) by decide)] at H; exact H
                                  clear H
                                  have H := H1
                                  clear H1
                                  have H' := Aside0.mk H
                                  clear H
                                  obtain ⟨Ao37, co37, eo37⟩ := Kd.R_slice HO_3.out
                                  subst eo37
                                  have p373 : 0 ≤ (x7_3 : Int) := of_decide_eq_true (by first | (with_reducible assumption) | assumption)
                                  have q373 : x7_3 < (x3_2.length : Int) := of_decide_eq_true (by first | (with_reducible assumption) | assumption)
                                  (try (obtain ⟨Az373, cz373, ez373⟩ := Kd.R_slice HO_3.out; subst ez373))
                                  obtain ⟨ad373, e373, hx373_0⟩ := Kd.at_int (Kd.R_reads' HO_3.out).2.2 x7_3 p373 q373
                                  cases e373
                                  replace p373 := eq_true p373
                                  replace q373 := eq_true q373
                                  have hcz38_0 : wr.cell? ⟨gb360, 0, none⟩ = some (.int .i64 a0_0) := (blk_cell BK360.out 0).trans rfl
                                  have hcz38_1 : wr.cell? ⟨gb360, 1, none⟩ = some (.int .i64 a0_1) := (blk_cell BK360.out 1).trans rfl
                                  have hcz38_2 : wr.cell? ⟨gb360, 2, none⟩ = some (.int .i64 a0_2) := (blk_cell BK360.out 2).trans rfl
                                  have hcz38_3 : wr.cell? ⟨gb360, 3, none⟩ = some (.int .i64 a0_3) := (blk_cell BK360.out 3).trans rfl
                                  have hcz38_4 : wr.cell? ⟨gb360, 4, none⟩ = some (.int .i64 a0_4) := (blk_cell BK360.out 4).trans rfl
                                  have hcz38_5 : wr.cell? ⟨gb360, 5, none⟩ = some (.slice A0_5 l0_5.length c0_5) := (blk_cell BK360.out 5).trans rfl
                                  have hcz38_6 : wr.cell? ⟨gb360, 6, none⟩ = some (.slice A0_6 l0_6.length c0_6) := (blk_cell BK360.out 6).trans rfl
                                  have hfz38_0 := blk_frozen BK360.out 0
                                  have hfz38_1 := blk_frozen BK360.out 1
                                  have hfz38_2 := blk_frozen BK360.out 2
                                  have hfz38_3 := blk_frozen BK360.out 3
                                  have hfz38_4 := blk_frozen BK360.out 4
                                  have hfz38_5 := blk_frozen BK360.out 5
                                  have hfz38_6 := blk_frozen BK360.out 6
                                  have p376 : 0 ≤ (x7_3 : Int) := of_decide_eq_true (by first | (with_reducible assumption) | assumption)
                                  have q376 : x7_3 < (x3_2.length : Int) := of_decide_eq_true (by first | (with_reducible assumption) | assumption)
                                  (try (obtain ⟨Az376, cz376, ez376⟩ := Kd.R_slice HO_3.out; subst ez376))
                                  obtain ⟨ad376, e376, hx376_0⟩ := Kd.at_int (Kd.R_reads' HO_3.out).2.2 x7_3 p376 q376
                                  obtain rfl : ad373 = ad376 := (by injection e376)
                                  replace p376 := eq_true p376
                                  replace q376 := eq_true q376
                                  have p377 : 0 ≤ (x7_3 : Int) := of_decide_eq_true (by first | (with_reducible assumption) | assumption)
                                  have q377 : x7_3 < (x3_2.length : Int) := of_decide_eq_true (by first | (with_reducible assumption) | assumption)
                                  (try (obtain ⟨Az377, cz377, ez377⟩ := Kd.R_slice HO_3.out; subst ez377))
                                  obtain ⟨ad377, e377, hx377_0⟩ := Kd.at_int (Kd.R_reads' HO_3.out).2.2 x7_3 p377 q377
                                  obtain rfl : ad373 = ad377 := (by injection e377)
                                  replace p377 := eq_true p377
                                  replace q377 := eq_true q377
                                  have p378 : 0 ≤ (x7_3 : Int) := of_decide_eq_true (by first | (with_reducible assumption) | assumption)
                                  have q378 : x7_3 < (x3_2.length : Int) := of_decide_eq_true (by first | (with_reducible assumption) | assumption)
                                  (try (obtain ⟨Az378, cz378, ez378⟩ := Kd.R_slice HO_3.out; subst ez378))
                                  obtain ⟨ad378, e378, hx378_0⟩ := Kd.at_int (Kd.R_reads' HO_3.out).2.2 x7_3 p378 q378
                                  obtain rfl : ad373 = ad378 := (by injection e378)
                                  replace p378 := eq_true p378
                                  replace q378 := eq_true q378
                                  go_wp2
                                  repeat (go_quiet (fail); try go_wp2)
                                  go_roundg k3
                                  case measure => have := HK1.out; have := HK2.out; have := HK3.out; omega
                                  case rel => exact ⟨(((rd x3_2 x7_3) != a0_2)), (wrap64 (x7_3 + 1)), (by first | rfl | (simp; done) | (simp [*]; done)), (by first | rfl | (simp; done) | (simp [*]; done)), H', ⟨by have := HK1.out; have := HK2.out; have := HK3.out; omega⟩, ⟨by (with_reducible repeat (first | apply Kd.R_alloc | apply Kd.R_drewN | apply Kd.R_drew)); exact HO_3.out⟩, ⟨by (with_reducible repeat (first | refine blk_drewN ?_ _ | refine blk_drew ?_ | refine blk_alloc ?_ _)); exact BK360.out⟩, ⟨by repeat (first | (with_reducible first | exact HB.out | apply below_alloc | apply pw_below_drewN | apply below_drew1 | refine below_set ?_ GE360.out) | exact HB.out)⟩⟩
                              · rw [if_neg c33] at H
                                have c33b0 : ((rd x3_2 x7_3) == (Int.tmod (wrap64 ((wrap64 (a0_2 + a0_1)) - 1)) a0_1)) = false := beq_eq_false_iff_ne.mpr c33
                                have c33b1 : ((rd x3_2 x7_3) != (Int.tmod (wrap64 ((wrap64 (a0_2 + a0_1)) - 1)) a0_1)) = true := bne_iff_ne.mpr c33
                                obtain rfl := Option.some.inj H
                                obtain ⟨Ao39, co39, eo39⟩ := Kd.R_slice HO_3.out
                                subst eo39
                                have p373 : 0 ≤ (x7_3 : Int) := of_decide_eq_true (by first | (with_reducible assumption) | assumption)
                                have q373 : x7_3 < (x3_2.length : Int) := of_decide_eq_true (by first | (with_reducible assumption) | assumption)
                                (try (obtain ⟨Az373, cz373, ez373⟩ := Kd.R_slice HO_3.out; subst ez373))
                                obtain ⟨ad373, e373, hx373_0⟩ := Kd.at_int (Kd.R_reads' HO_3.out).2.2 x7_3 p373 q373
                                cases e373
                                replace p373 := eq_true p373
                                replace q373 := eq_true q373
                                have hcz40_0 : wr.cell? ⟨gb360, 0, none⟩ = some (.int .i64 a0_0) := (blk_cell BK360.out 0).trans rfl
                                have hcz40_1 : wr.cell? ⟨gb360, 1, none⟩ = some (.int .i64 a0_1) := (blk_cell BK360.out 1).trans rfl
                                have hcz40_2 : wr.cell? ⟨gb360, 2, none⟩ = some (.int .i64 a0_2) := (blk_cell BK360.out 2).trans rfl
                                have hcz40_3 : wr.cell? ⟨gb360, 3, none⟩ = some (.int .i64 a0_3) := (blk_cell BK360.out 3).trans rfl
                                have hcz40_4 : wr.cell? ⟨gb360, 4, none⟩ = some (.int .i64 a0_4) := (blk_cell BK360.out 4).trans rfl
                                have hcz40_5 : wr.cell? ⟨gb360, 5, none⟩ = some (.slice A0_5 l0_5.length c0_5) := (blk_cell BK360.out 5).trans rfl
                                have hcz40_6 : wr.cell? ⟨gb360, 6, none⟩ = some (.slice A0_6 l0_6.length c0_6) := (blk_cell BK360.out 6).trans rfl
                                have hfz40_0 := blk_frozen BK360.out 0
                                have hfz40_1 := blk_frozen BK360.out 1
                                have hfz40_2 := blk_frozen BK360.out 2
                                have hfz40_3 := blk_frozen BK360.out 3
                                have hfz40_4 := blk_frozen BK360.out 4
                                have hfz40_5 := blk_frozen BK360.out 5
                                have hfz40_6 := blk_frozen BK360.out 6
                                have p376 : 0 ≤ (x7_3 : Int) := of_decide_eq_true (by first | (with_reducible assumption) | assumption)
                                have q376 : x7_3 < (x3_2.length : Int) := of_decide_eq_true (by first | (with_reducible assumption) | assumption)
                                (try (obtain ⟨Az376, cz376, ez376⟩ := Kd.R_slice HO_3.out; subst ez376))
                                obtain ⟨ad376, e376, hx376_0⟩ := Kd.at_int (Kd.R_reads' HO_3.out).2.2 x7_3 p376 q376
                                obtain rfl : ad373 = ad376 := (by injection e376)
                                replace p376 := eq_true p376
                                replace q376 := eq_true q376
                                have p377 : 0 ≤ (x7_3 : Int) := of_decide_eq_true (by first | (with_reducible assumption) | assumption)
                                have q377 : x7_3 < (x3_2.length : Int) := of_decide_eq_true (by first | (with_reducible assumption) | assumption)
                                (try (obtain ⟨Az377, cz377, ez377⟩ := Kd.R_slice HO_3.out; subst ez377))
                                obtain ⟨ad377, e377, hx377_0⟩ := Kd.at_int (Kd.R_reads' HO_3.out).2.2 x7_3 p377 q377
                                obtain rfl : ad373 = ad377 := (by injection e377)
                                replace p377 := eq_true p377
                                replace q377 := eq_true q377
                                go_wp2
                                repeat (go_quiet (fail); try go_wp2)
                                go_ret
                                exact ⟨by first | rfl | (simp [errW_none, errW_some] <;> rfl) | (simp [*, errW_none, errW_some] <;> rfl), by repeat (first | (with_reducible first | exact HB.out | apply below_alloc | apply pw_below_drewN | apply below_drew1 | refine below_set ?_ GE360.out) | exact HB.out)⟩
                        · rw [if_neg c25] at H
                          exact absurd H (by simp)
                      · rw [if_neg c24] at H
                        have c24b0 : decide (x7_3 < (x3_2.length : Int)) = false := decide_eq_false c24
                        clear c24
                        obtain rfl := Option.some.inj H
                        obtain ⟨Ao41, co41, eo41⟩ := Kd.R_slice HO_3.out
                        subst eo41
                        go_wp2
                        repeat (go_quiet (fail); try go_wp2)
                        go_ret
                        exact ⟨by first | rfl | (simp [errW_none, errW_some] <;> rfl) | (simp [*, errW_none, errW_some] <;> rfl), by repeat (first | (with_reducible first | exact HB.out | apply below_alloc | apply pw_below_drewN | apply below_drew1 | refine below_set ?_ GE360.out) | exact HB.out)⟩
          · rw [if_neg c14] at H
            exact absurd H (by simp)
  · replace c3 := Bool.eq_false_iff.mpr c3
    subst c3
    have H1 : (some false) = some r := by rw [if_neg (show ¬ (false = true) by decide)] at H; exact H
    clear H
    have H := H1
    clear H1
    obtain rfl := Option.some.inj H
    go_enter Try.func22, Try.ntmps22
    go_wp2_with (first | ((with_reducible refine gate_dst (N := 1) rfl ?_); refine box_event ?hg (N := 1) ?hd (cs := #[.int .i64 a0_0, .int .i64 a0_1, .int .i64 a0_2, .int .i64 a0_3, .int .i64 a0_4, .slice A0_5 l0_5.length c0_5, .slice A0_6 l0_6.length c0_6]) (t := 29) ?hr ?_; (case hd => rfl); (case hg => rfl); (case hr => first | (go_simp; done) | (go_simp; rfl)); intro gb360 hg w42 hbox hb; have n0_ := Aside0.mk (below_step (by repeat (first | (with_reducible first | exact HB.out | apply below_alloc | apply pw_below_drewN | apply below_drew1) | exact HB.out)) hb); have n1_ := Aside0.mk (hbox); have n2_ := Aside0.mk ((by rw [hg]; exact (below_size (by repeat (first | (with_reducible first | exact HB.out | apply below_alloc | apply pw_below_drewN | apply below_drew1) | exact HB.out))) : w.heap.size ≤ gb360)); have n3_ := Aside0.mk ((by rw [hg]; exact (below_size (by repeat (first | (with_reducible first | exact HB.out | apply below_alloc | apply pw_below_drewN | apply below_drew1) | exact HB.out))) : w.heap.size ≤ gb360)); clear HB; have HB := n0_; have BK360 := n1_; have GW360 := n2_; have GE360 := n3_; clear n0_ n1_ n2_ n3_; clear hb hbox hg; have hcz43_0 : w42.cell? ⟨gb360, 0, none⟩ = some (.int .i64 a0_0) := (blk_cell BK360.out 0).trans rfl; have hcz43_1 : w42.cell? ⟨gb360, 1, none⟩ = some (.int .i64 a0_1) := (blk_cell BK360.out 1).trans rfl; have hcz43_2 : w42.cell? ⟨gb360, 2, none⟩ = some (.int .i64 a0_2) := (blk_cell BK360.out 2).trans rfl; have hcz43_3 : w42.cell? ⟨gb360, 3, none⟩ = some (.int .i64 a0_3) := (blk_cell BK360.out 3).trans rfl; have hcz43_4 : w42.cell? ⟨gb360, 4, none⟩ = some (.int .i64 a0_4) := (blk_cell BK360.out 4).trans rfl; have hcz43_5 : w42.cell? ⟨gb360, 5, none⟩ = some (.slice A0_5 l0_5.length c0_5) := (blk_cell BK360.out 5).trans rfl; have hcz43_6 : w42.cell? ⟨gb360, 6, none⟩ = some (.slice A0_6 l0_6.length c0_6) := (blk_cell BK360.out 6).trans rfl; have hfz43_0 := blk_frozen BK360.out 0; have hfz43_1 := blk_frozen BK360.out 1; have hfz43_2 := blk_frozen BK360.out 2; have hfz43_3 := blk_frozen BK360.out 3; have hfz43_4 := blk_frozen BK360.out 4; have hfz43_5 := blk_frozen BK360.out 5; have hfz43_6 := blk_frozen BK360.out 6) | (go_at_call 20; (with_reducible refine (selfstabref42_Valid.calls k a0_0 a0_1 a0_2 a0_3 a0_4 _ _ l0_5 _ _ l0_6 false _ ?side1 ?side2 ?side3 ?side4 A2.out).mono ?_); (case side1 => repeat (first | exact (Kd.C_below HR0_5.out HB.out) | (with_reducible refine Kd.C_alloc ?_ _) | (with_reducible refine Kd.C_drewN ?_ _) | (with_reducible refine Kd.C_drew ?_))); (case side2 => exact HC0_5.out); (case side3 => repeat (first | exact (Kd.C_below HR0_6.out HB.out) | (with_reducible refine Kd.C_alloc ?_ _) | (with_reducible refine Kd.C_drewN ?_ _) | (with_reducible refine Kd.C_drew ?_))); (case side4 => exact HC0_6.out); rintro e w44 ⟨rfl, hb⟩; have n0_ := Aside0.mk (blk_below (g := gb360) (o := .cells #[.int .i64 a0_0, .int .i64 a0_1, .int .i64 a0_2, .int .i64 a0_3, .int .i64 a0_4, .slice A0_5 l0_5.length c0_5, .slice A0_6 l0_6.length c0_6] 29 (0, 0)) (by (with_reducible repeat (first | refine blk_drewN ?_ _ | refine blk_drew ?_ | refine blk_alloc ?_ _)); exact BK360.out) hb); have n1_ := Aside0.mk (below_step (by repeat (first | (with_reducible first | exact HB.out | apply below_alloc | apply pw_below_drewN | apply below_drew1 | refine below_set ?_ GE360.out) | exact HB.out)) hb); clear BK360; clear HB; have BK360 := n0_; have HB := n1_; clear n0_ n1_; (try clear hb); (try clear hb2); (try clear hk); (try clear hi)))
    repeat (go_quiet (first | ((with_reducible refine gate_dst (N := 1) rfl ?_); refine box_event ?hg (N := 1) ?hd (cs := #[.int .i64 a0_0, .int .i64 a0_1, .int .i64 a0_2, .int .i64 a0_3, .int .i64 a0_4, .slice A0_5 l0_5.length c0_5, .slice A0_6 l0_6.length c0_6]) (t := 29) ?hr ?_; (case hd => rfl); (case hg => rfl); (case hr => first | (go_simp; done) | (go_simp; rfl)); intro gb360 hg w42 hbox hb; have n0_ := Aside0.mk (below_step (by repeat (first | (with_reducible first | exact HB.out | apply below_alloc | apply pw_below_drewN | apply below_drew1) | exact HB.out)) hb); have n1_ := Aside0.mk (hbox); have n2_ := Aside0.mk ((by rw [hg]; exact (below_size (by repeat (first | (with_reducible first | exact HB.out | apply below_alloc | apply pw_below_drewN | apply below_drew1) | exact HB.out))) : w.heap.size ≤ gb360)); have n3_ := Aside0.mk ((by rw [hg]; exact (below_size (by repeat (first | (with_reducible first | exact HB.out | apply below_alloc | apply pw_below_drewN | apply below_drew1) | exact HB.out))) : w.heap.size ≤ gb360)); clear HB; have HB := n0_; have BK360 := n1_; have GW360 := n2_; have GE360 := n3_; clear n0_ n1_ n2_ n3_; clear hb hbox hg; have hcz43_0 : w42.cell? ⟨gb360, 0, none⟩ = some (.int .i64 a0_0) := (blk_cell BK360.out 0).trans rfl; have hcz43_1 : w42.cell? ⟨gb360, 1, none⟩ = some (.int .i64 a0_1) := (blk_cell BK360.out 1).trans rfl; have hcz43_2 : w42.cell? ⟨gb360, 2, none⟩ = some (.int .i64 a0_2) := (blk_cell BK360.out 2).trans rfl; have hcz43_3 : w42.cell? ⟨gb360, 3, none⟩ = some (.int .i64 a0_3) := (blk_cell BK360.out 3).trans rfl; have hcz43_4 : w42.cell? ⟨gb360, 4, none⟩ = some (.int .i64 a0_4) := (blk_cell BK360.out 4).trans rfl; have hcz43_5 : w42.cell? ⟨gb360, 5, none⟩ = some (.slice A0_5 l0_5.length c0_5) := (blk_cell BK360.out 5).trans rfl; have hcz43_6 : w42.cell? ⟨gb360, 6, none⟩ = some (.slice A0_6 l0_6.length c0_6) := (blk_cell BK360.out 6).trans rfl; have hfz43_0 := blk_frozen BK360.out 0; have hfz43_1 := blk_frozen BK360.out 1; have hfz43_2 := blk_frozen BK360.out 2; have hfz43_3 := blk_frozen BK360.out 3; have hfz43_4 := blk_frozen BK360.out 4; have hfz43_5 := blk_frozen BK360.out 5; have hfz43_6 := blk_frozen BK360.out 6) | (go_at_call 20; (with_reducible refine (selfstabref42_Valid.calls k a0_0 a0_1 a0_2 a0_3 a0_4 _ _ l0_5 _ _ l0_6 false _ ?side1 ?side2 ?side3 ?side4 A2.out).mono ?_); (case side1 => repeat (first | exact (Kd.C_below HR0_5.out HB.out) | (with_reducible refine Kd.C_alloc ?_ _) | (with_reducible refine Kd.C_drewN ?_ _) | (with_reducible refine Kd.C_drew ?_))); (case side2 => exact HC0_5.out); (case side3 => repeat (first | exact (Kd.C_below HR0_6.out HB.out) | (with_reducible refine Kd.C_alloc ?_ _) | (with_reducible refine Kd.C_drewN ?_ _) | (with_reducible refine Kd.C_drew ?_))); (case side4 => exact HC0_6.out); rintro e w44 ⟨rfl, hb⟩; have n0_ := Aside0.mk (blk_below (g := gb360) (o := .cells #[.int .i64 a0_0, .int .i64 a0_1, .int .i64 a0_2, .int .i64 a0_3, .int .i64 a0_4, .slice A0_5 l0_5.length c0_5, .slice A0_6 l0_6.length c0_6] 29 (0, 0)) (by (with_reducible repeat (first | refine blk_drewN ?_ _ | refine blk_drew ?_ | refine blk_alloc ?_ _)); exact BK360.out) hb); have n1_ := Aside0.mk (below_step (by repeat (first | (with_reducible first | exact HB.out | apply below_alloc | apply pw_below_drewN | apply below_drew1 | refine below_set ?_ GE360.out) | exact HB.out)) hb); clear BK360; clear HB; have BK360 := n0_; have HB := n1_; clear n0_ n1_; (try clear hb); (try clear hb2); (try clear hk); (try clear hi))); try go_wp2_with (first | ((with_reducible refine gate_dst (N := 1) rfl ?_); refine box_event ?hg (N := 1) ?hd (cs := #[.int .i64 a0_0, .int .i64 a0_1, .int .i64 a0_2, .int .i64 a0_3, .int .i64 a0_4, .slice A0_5 l0_5.length c0_5, .slice A0_6 l0_6.length c0_6]) (t := 29) ?hr ?_; (case hd => rfl); (case hg => rfl); (case hr => first | (go_simp; done) | (go_simp; rfl)); intro gb360 hg w42 hbox hb; have n0_ := Aside0.mk (below_step (by repeat (first | (with_reducible first | exact HB.out | apply below_alloc | apply pw_below_drewN | apply below_drew1) | exact HB.out)) hb); have n1_ := Aside0.mk (hbox); have n2_ := Aside0.mk ((by rw [hg]; exact (below_size (by repeat (first | (with_reducible first | exact HB.out | apply below_alloc | apply pw_below_drewN | apply below_drew1) | exact HB.out))) : w.heap.size ≤ gb360)); have n3_ := Aside0.mk ((by rw [hg]; exact (below_size (by repeat (first | (with_reducible first | exact HB.out | apply below_alloc | apply pw_below_drewN | apply below_drew1) | exact HB.out))) : w.heap.size ≤ gb360)); clear HB; have HB := n0_; have BK360 := n1_; have GW360 := n2_; have GE360 := n3_; clear n0_ n1_ n2_ n3_; clear hb hbox hg; have hcz43_0 : w42.cell? ⟨gb360, 0, none⟩ = some (.int .i64 a0_0) := (blk_cell BK360.out 0).trans rfl; have hcz43_1 : w42.cell? ⟨gb360, 1, none⟩ = some (.int .i64 a0_1) := (blk_cell BK360.out 1).trans rfl; have hcz43_2 : w42.cell? ⟨gb360, 2, none⟩ = some (.int .i64 a0_2) := (blk_cell BK360.out 2).trans rfl; have hcz43_3 : w42.cell? ⟨gb360, 3, none⟩ = some (.int .i64 a0_3) := (blk_cell BK360.out 3).trans rfl; have hcz43_4 : w42.cell? ⟨gb360, 4, none⟩ = some (.int .i64 a0_4) := (blk_cell BK360.out 4).trans rfl; have hcz43_5 : w42.cell? ⟨gb360, 5, none⟩ = some (.slice A0_5 l0_5.length c0_5) := (blk_cell BK360.out 5).trans rfl; have hcz43_6 : w42.cell? ⟨gb360, 6, none⟩ = some (.slice A0_6 l0_6.length c0_6) := (blk_cell BK360.out 6).trans rfl; have hfz43_0 := blk_frozen BK360.out 0; have hfz43_1 := blk_frozen BK360.out 1; have hfz43_2 := blk_frozen BK360.out 2; have hfz43_3 := blk_frozen BK360.out 3; have hfz43_4 := blk_frozen BK360.out 4; have hfz43_5 := blk_frozen BK360.out 5; have hfz43_6 := blk_frozen BK360.out 6) | (go_at_call 20; (with_reducible refine (selfstabref42_Valid.calls k a0_0 a0_1 a0_2 a0_3 a0_4 _ _ l0_5 _ _ l0_6 false _ ?side1 ?side2 ?side3 ?side4 A2.out).mono ?_); (case side1 => repeat (first | exact (Kd.C_below HR0_5.out HB.out) | (with_reducible refine Kd.C_alloc ?_ _) | (with_reducible refine Kd.C_drewN ?_ _) | (with_reducible refine Kd.C_drew ?_))); (case side2 => exact HC0_5.out); (case side3 => repeat (first | exact (Kd.C_below HR0_6.out HB.out) | (with_reducible refine Kd.C_alloc ?_ _) | (with_reducible refine Kd.C_drewN ?_ _) | (with_reducible refine Kd.C_drew ?_))); (case side4 => exact HC0_6.out); rintro e w44 ⟨rfl, hb⟩; have n0_ := Aside0.mk (blk_below (g := gb360) (o := .cells #[.int .i64 a0_0, .int .i64 a0_1, .int .i64 a0_2, .int .i64 a0_3, .int .i64 a0_4, .slice A0_5 l0_5.length c0_5, .slice A0_6 l0_6.length c0_6] 29 (0, 0)) (by (with_reducible repeat (first | refine blk_drewN ?_ _ | refine blk_drew ?_ | refine blk_alloc ?_ _)); exact BK360.out) hb); have n1_ := Aside0.mk (below_step (by repeat (first | (with_reducible first | exact HB.out | apply below_alloc | apply pw_below_drewN | apply below_drew1 | refine below_set ?_ GE360.out) | exact HB.out)) hb); clear BK360; clear HB; have BK360 := n0_; have HB := n1_; clear n0_ n1_; (try clear hb); (try clear hb2); (try clear hk); (try clear hi))))
    go_ret
    exact ⟨by first | rfl | (simp [errW_none, errW_some] <;> rfl) | (simp [*, errW_none, errW_some] <;> rfl), by repeat (first | (with_reducible first | exact HB.out | apply below_alloc | apply pw_below_drewN | apply below_drew1 | refine below_set ?_ GE360.out) | exact HB.out)⟩

end Go.Proofs.Ytdhkplfkbdldfaa.P
