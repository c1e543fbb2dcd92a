-- By a program of this session (wip/tools/myprint.py over the kit's printer). Not trusted: Lean checks it.
import Derived.Test.YtbpolpagcaacoaaP0
import Derived.Test.YtbpolpagcaacoaaP3
import Derived.Test.YtbpolpagcaacoaaP4
namespace Go.Proofs.Ytbpolpagcaacoaa.P
open Go.RowKit Go.Proofs.YtbpolpagcaacoaaW.PrintWords Go.Proofs.YtbpolpagcaacoaaW.PrintLast Go.Proofs.YtbpolpagcaacoaaW.PrintMore
attribute [local go_sem] max2_int min2_int max_two min_two max_three min_three max_four min_four   -- for this text's walks alone
set_option linter.unusedVariables false
set_option linter.unusedSimpArgs false

/-! ### selfstablaw01_GraphDistancesAreSteps: function 3 -/
mutual
def selfstablaw01_GraphDistancesAreSteps.l0 : Nat → Int → List Int → Int → List Int → List (List (S32)) → Option (Bool)
  | 0, _, _, _, _, _ => none
  | k + 1, x1, x5, x6, x180000, x180001 => if x6 < (x5.length : Int) then (if 0 ≤ x6 then (if (rd x5 x6) < (-1) then (selfstablaw01_GraphDistancesAreSteps.j1 k x1 x5 x6 true x180000 x180001) else (selfstablaw01_GraphDistancesAreSteps.j1 k x1 x5 x6 (((rd x5 x6) == 0) != (x6 == x1)) x180000 x180001)) else (none)) else ((selfstablaw01_awake.f k).bind fun t186 => (some t186))
def selfstablaw01_GraphDistancesAreSteps.j1 : Nat → Int → List Int → Int → Bool → List Int → List (List (S32)) → Option (Bool)
  | 0, _, _, _, _, _, _ => none
  | k + 1, x1, x5, x6, x49, x180000, x180001 => if x49 = true then (none) else (selfstablaw01_GraphDistancesAreSteps.l1 k x1 x5 x6 false 0 x180000 x180001)
def selfstablaw01_GraphDistancesAreSteps.l1 : Nat → Int → List Int → Int → Bool → Int → List Int → List (List (S32)) → Option (Bool)
  | 0, _, _, _, _, _, _, _ => none
  | k + 1, x1, x5, x6, x7, x8, x180000, x180001 => if 0 ≤ x6 then (if x6 < (x180001.length : Int) then (if x8 < ((rd_L2 x180001 x6).length : Int) then (if 0 ≤ x8 then (if 0 ≤ ((rd_T32 (rd_L2 x180001 x6) x8).f0) then (if ((rd_T32 (rd_L2 x180001 x6) x8).f0) < (x5.length : Int) then (if x6 < (x5.length : Int) then (if ((decide ((rd x5 ((rd_T32 (rd_L2 x180001 x6) x8).f0)) < 0)) != (decide ((rd x5 x6) < 0))) = true then (none) else (if (wrap64 ((rd x5 ((rd_T32 (rd_L2 x180001 x6) x8).f0)) - (rd x5 x6))) > 1 then (none) else (if (wrap64 ((rd x5 x6) - (rd x5 ((rd_T32 (rd_L2 x180001 x6) x8).f0)))) > 1 then (none) else (if x7 = true then (selfstablaw01_GraphDistancesAreSteps.l1 k x1 x5 x6 true (wrap64 (x8 + 1)) x180000 x180001) else (selfstablaw01_GraphDistancesAreSteps.l1 k x1 x5 x6 ((rd x5 ((rd_T32 (rd_L2 x180001 x6) x8).f0)) == (wrap64 ((rd x5 x6) - 1))) (wrap64 (x8 + 1)) x180000 x180001))))) else (none)) else (none)) else (none)) else (none)) else (if x6 < (x5.length : Int) then (if (rd x5 x6) > 0 then (if x7 = true then (selfstablaw01_GraphDistancesAreSteps.l0 k x1 x5 (wrap64 (x6 + 1)) x180000 x180001) else (none)) else (selfstablaw01_GraphDistancesAreSteps.l0 k x1 x5 (wrap64 (x6 + 1)) x180000 x180001)) else (none))) else (none)) else (none)
end
def selfstablaw01_GraphDistancesAreSteps.f (k : Nat) (l0_0 : List Int) (l0_1 : List (List (S32))) (a1 : Int) : Option (Bool) := (selfstablaw01_fair.f k l0_0 l0_1).bind fun t180 => (if t180 = true then ((selfstabmade_Mod.f a1 (l0_1.length : Int)).bind fun t182 => ((graph_Distances.f k l0_0 l0_1 t182).bind fun t183 => (if (t183.length : Int) = (l0_1.length : Int) then (selfstablaw01_GraphDistancesAreSteps.l0 k t182 t183 0 l0_0 l0_1) else (none)))) else ((selfstablaw01_awake.f k).bind fun t181 => (some t181)))
theorem selfstablaw01_GraphDistancesAreSteps.mono_l : ∀ k, (∀ y0 y1 y2 y3 y4, LeO (selfstablaw01_GraphDistancesAreSteps.l0 k y0 y1 y2 y3 y4) (selfstablaw01_GraphDistancesAreSteps.l0 (k + 1) y0 y1 y2 y3 y4)) ∧ (∀ y0 y1 y2 y3 y4 y5, LeO (selfstablaw01_GraphDistancesAreSteps.j1 k y0 y1 y2 y3 y4 y5) (selfstablaw01_GraphDistancesAreSteps.j1 (k + 1) y0 y1 y2 y3 y4 y5)) ∧ (∀ y0 y1 y2 y3 y4 y5 y6, LeO (selfstablaw01_GraphDistancesAreSteps.l1 k y0 y1 y2 y3 y4 y5 y6) (selfstablaw01_GraphDistancesAreSteps.l1 (k + 1) y0 y1 y2 y3 y4 y5 y6))
  | 0 => ⟨fun _ _ _ _ _ r h => by simp [selfstablaw01_GraphDistancesAreSteps.l0] at h, fun _ _ _ _ _ _ r h => by simp [selfstablaw01_GraphDistancesAreSteps.j1] at h, fun _ _ _ _ _ _ _ r h => by simp [selfstablaw01_GraphDistancesAreSteps.l1] at h⟩
  | k + 1 => by
    obtain ⟨ih0, ih1, ih2⟩ := selfstablaw01_GraphDistancesAreSteps.mono_l k
    refine ⟨?_, ?_, ?_⟩
    · intro y0 y1 y2 y3 y4
      unfold selfstablaw01_GraphDistancesAreSteps.l0
      repeat' first
      | (with_reducible exact ih0 _ _ _ _ _)
      | (with_reducible exact ih1 _ _ _ _ _ _)
      | (with_reducible exact ih2 _ _ _ _ _ _ _)
      | (with_reducible exact graph_Distances.mono _ _ _ _)
      | (with_reducible exact selfstablaw01_awake.mono _)
      | (with_reducible exact selfstablaw01_fair.mono _ _ _)
      | (with_reducible exact LeO.refl _)
      | (with_reducible exact LeO.none _)
      | (with_reducible refine LeO.ite ?_ ?_)
      | (with_reducible refine LeO.bind ?_ (fun _ => ?_))
      | exact ih0 _ _ _ _ _
      | exact ih1 _ _ _ _ _ _
      | exact ih2 _ _ _ _ _ _ _
      | exact graph_Distances.mono _ _ _ _
      | exact selfstablaw01_awake.mono _
      | exact selfstablaw01_fair.mono _ _ _
      | exact LeO.none _
      | refine LeO.ite ?_ ?_
      | refine LeO.bind ?_ (fun _ => ?_)
    · intro y0 y1 y2 y3 y4 y5
      unfold selfstablaw01_GraphDistancesAreSteps.j1
      repeat' first
      | (with_reducible exact ih0 _ _ _ _ _)
      | (with_reducible exact ih1 _ _ _ _ _ _)
      | (with_reducible exact ih2 _ _ _ _ _ _ _)
      | (with_reducible exact graph_Distances.mono _ _ _ _)
      | (with_reducible exact selfstablaw01_awake.mono _)
      | (with_reducible exact selfstablaw01_fair.mono _ _ _)
      | (with_reducible exact LeO.refl _)
      | (with_reducible exact LeO.none _)
      | (with_reducible refine LeO.ite ?_ ?_)
      | (with_reducible refine LeO.bind ?_ (fun _ => ?_))
      | exact ih0 _ _ _ _ _
      | exact ih1 _ _ _ _ _ _
      | exact ih2 _ _ _ _ _ _ _
      | exact graph_Distances.mono _ _ _ _
      | exact selfstablaw01_awake.mono _
      | exact selfstablaw01_fair.mono _ _ _
      | exact LeO.none _
      | refine LeO.ite ?_ ?_
      | refine LeO.bind ?_ (fun _ => ?_)
    · intro y0 y1 y2 y3 y4 y5 y6
      unfold selfstablaw01_GraphDistancesAreSteps.l1
      repeat' first
      | (with_reducible exact ih0 _ _ _ _ _)
      | (with_reducible exact ih1 _ _ _ _ _ _)
      | (with_reducible exact ih2 _ _ _ _ _ _ _)
      | (with_reducible exact graph_Distances.mono _ _ _ _)
      | (with_reducible exact selfstablaw01_awake.mono _)
      | (with_reducible exact selfstablaw01_fair.mono _ _ _)
      | (with_reducible exact LeO.refl _)
      | (with_reducible exact LeO.none _)
      | (with_reducible refine LeO.ite ?_ ?_)
      | (with_reducible refine LeO.bind ?_ (fun _ => ?_))
      | exact ih0 _ _ _ _ _
      | exact ih1 _ _ _ _ _ _
      | exact ih2 _ _ _ _ _ _ _
      | exact graph_Distances.mono _ _ _ _
      | exact selfstablaw01_awake.mono _
      | exact selfstablaw01_fair.mono _ _ _
      | exact LeO.none _
      | refine LeO.ite ?_ ?_
      | refine LeO.bind ?_ (fun _ => ?_)
theorem selfstablaw01_GraphDistancesAreSteps.mono : ∀ a0 a1 a2 k, LeO (selfstablaw01_GraphDistancesAreSteps.f k a0 a1 a2) (selfstablaw01_GraphDistancesAreSteps.f (k + 1) a0 a1 a2) := by
  intro a0 a1 a2 k
  obtain ⟨ih0, ih1, ih2⟩ := selfstablaw01_GraphDistancesAreSteps.mono_l k
  unfold selfstablaw01_GraphDistancesAreSteps.f
  repeat' first
      | (with_reducible exact ih0 _ _ _ _ _)
      | (with_reducible exact ih1 _ _ _ _ _ _)
      | (with_reducible exact ih2 _ _ _ _ _ _ _)
      | (with_reducible exact graph_Distances.mono _ _ _ _)
      | (with_reducible exact selfstablaw01_awake.mono _)
      | (with_reducible exact selfstablaw01_fair.mono _ _ _)
      | (with_reducible exact LeO.refl _)
      | (with_reducible exact LeO.none _)
      | (with_reducible refine LeO.ite ?_ ?_)
      | (with_reducible refine LeO.bind ?_ (fun _ => ?_))
      | exact ih0 _ _ _ _ _
      | exact ih1 _ _ _ _ _ _
      | exact ih2 _ _ _ _ _ _ _
      | exact graph_Distances.mono _ _ _ _
      | exact selfstablaw01_awake.mono _
      | exact selfstablaw01_fair.mono _ _ _
      | exact LeO.none _
      | refine LeO.ite ?_ ?_
      | refine LeO.bind ?_ (fun _ => ?_)
set_option maxHeartbeats 8000000 in
set_option maxRecDepth 100000 in
theorem selfstablaw01_GraphDistancesAreSteps.calls (k : Nat) (A0_0 : Option Addr) (c0_0 : Nat) (l0_0 : List Int) (A0_1 : Option Addr) (c0_1 : Nat) (l0_1 : List (List (S32))) (a1 : Int) (r : Bool) (w : World) (hr0_0 : Kd.C (Kd.int .i64) w A0_0 l0_0.length l0_0) (hc0_0 : l0_0.length ≤ c0_0) (hr0_1 : Kd.C (Kd.slice 32 k32) w A0_1 l0_1.length l0_1) (hc0_1 : l0_1.length ≤ c0_1) (h : selfstablaw01_GraphDistancesAreSteps.f k l0_0 l0_1 a1 = some r) :
    Calls Try.prog 3 #[.agg #[.slice A0_0 l0_0.length c0_0, .slice A0_1 l0_1.length c0_1], .int .i64 a1] w fun e w' => e = .returned (.bool r) ∧ Below w.heap.size w w' := by
  have hu25 := Try.underlying25
  have HR0_0 := Aside0.mk hr0_0
  have HC0_0 := Aside0.mk hc0_0
  clear hr0_0 hc0_0
  have HR0_1 := Aside0.mk hr0_1
  have HC0_1 := Aside0.mk hc0_1
  clear hr0_1 hc0_1
  have HB := Aside0.mk (Below.refl w.heap.size w)
  have H : ((selfstablaw01_fair.f k l0_0 l0_1).bind fun t180 => (if t180 = true then ((selfstabmade_Mod.f a1 (l0_1.length : Int)).bind fun t182 => ((graph_Distances.f k l0_0 l0_1 t182).bind fun t183 => (if (t183.length : Int) = (l0_1.length : Int) then (selfstablaw01_GraphDistancesAreSteps.l0 k t182 t183 0 l0_0 l0_1) else (none)))) else ((selfstablaw01_awake.f k).bind fun t181 => (some t181)))) = some r := h
  clear h
  replace H := Option.bind_eq_some_iff.mp H
  obtain ⟨t180, A30, H⟩ := H
  replace H : (if t180 = true then ((selfstabmade_Mod.f a1 (l0_1.length : Int)).bind fun t182 => ((graph_Distances.f k l0_0 l0_1 t182).bind fun t183 => (if (t183.length : Int) = (l0_1.length : Int) then (selfstablaw01_GraphDistancesAreSteps.l0 k t182 t183 0 l0_0 l0_1) else (none)))) else ((selfstablaw01_awake.f k).bind fun t181 => (some t181))) = some r := H
  have A3 := Aside0.mk A30
  clear A30
  by_cases c4 : t180 = true
  · subst c4
    have H1 : ((selfstabmade_Mod.f a1 (l0_1.length : Int)).bind fun t182 => ((graph_Distances.f k l0_0 l0_1 t182).bind fun t183 => (if (t183.length : Int) = (l0_1.length : Int) then (selfstablaw01_GraphDistancesAreSteps.l0 k t182 t183 0 l0_0 l0_1) else (none)))) = some r := by rw [if_pos rfl] at H; exact H
    clear H
    have H := H1
    clear H1
    replace H := Option.bind_eq_some_iff.mp H
    obtain ⟨t182, A50, H⟩ := H
    replace H : ((graph_Distances.f k l0_0 l0_1 t182).bind fun t183 => (if (t183.length : Int) = (l0_1.length : Int) then (selfstablaw01_GraphDistancesAreSteps.l0 k t182 t183 0 l0_0 l0_1) else (none))) = some r := H
    have A5 := Aside0.mk A50
    clear A50
    replace H := Option.bind_eq_some_iff.mp H
    obtain ⟨t183, A60, H⟩ := H
    replace H : (if (t183.length : Int) = (l0_1.length : Int) then (selfstablaw01_GraphDistancesAreSteps.l0 k t182 t183 0 l0_0 l0_1) else (none)) = some r := H
    have A6 := Aside0.mk A60
    clear A60
    by_cases c7 : (t183.length : Int) = (l0_1.length : Int)
    · rw [if_pos c7] at H
      have c7b0 : ((t183.length : Int) == (l0_1.length : Int)) = true := beq_iff_eq.mpr c7
      have c7b1 : ((t183.length : Int) != (l0_1.length : Int)) = false := bne_eq_false_iff_eq.mpr c7
      have c7b2 : (t183.length == l0_1.length) = true := by first | simpa using c7 | (simp at c7 ⊢; omega)
      clear c7
      have H' := Aside0.mk H
      clear H
      go_enter Try.func3, Try.ntmps3
      go_wp2_with (first | ((with_reducible refine gate_dst (N := 2) rfl ?_); refine box_event ?hg (N := 2) ?hd (cs := #[.slice A0_0 l0_0.length c0_0, .slice A0_1 l0_1.length c0_1]) (t := 25) ?hr ?_; (case hd => rfl); (case hg => rfl); (case hr => first | (go_simp; done) | (go_simp; rfl)); intro gb179 hg w8 hbox hb; have n0_ := Aside0.mk (below_step (by repeat (first | (with_reducible first | exact HB.out | apply below_alloc | apply pw_below_drewN | apply below_drew1) | exact HB.out)) hb); have n1_ := Aside0.mk (hbox); have n2_ := Aside0.mk ((by rw [hg]; exact (below_size (by repeat (first | (with_reducible first | exact HB.out | apply below_alloc | apply pw_below_drewN | apply below_drew1) | exact HB.out))) : w.heap.size ≤ gb179)); have n3_ := Aside0.mk ((by rw [hg]; exact (below_size (by repeat (first | (with_reducible first | exact HB.out | apply below_alloc | apply pw_below_drewN | apply below_drew1) | exact HB.out))) : w.heap.size ≤ gb179)); clear HB; have HB := n0_; have BK179 := n1_; have GW179 := n2_; have GE179 := n3_; clear n0_ n1_ n2_ n3_; clear hb hbox hg; have hcz9_0 : w8.cell? ⟨gb179, 0, none⟩ = some (.slice A0_0 l0_0.length c0_0) := (blk_cell BK179.out 0).trans rfl; have hcz9_1 : w8.cell? ⟨gb179, 1, none⟩ = some (.slice A0_1 l0_1.length c0_1) := (blk_cell BK179.out 1).trans rfl; have hfz9_0 := blk_frozen BK179.out 0; have hfz9_1 := blk_frozen BK179.out 1) | ((with_reducible refine gate_callee (f := 11) rfl ?_); refine goesL_ (some 11) rfl rfl Try.func11 (by kernel_rfl) rfl #[.agg #[.slice A0_0 l0_0.length c0_0, .slice A0_1 l0_1.length c0_1]] rfl (by (try simp only [List.map_toArray, List.map_cons, List.map_nil]); first | done | rfl | (simp only [List.length_drop, List.length_take]; rfl)) ?_; (with_reducible refine (selfstablaw01_fair.calls k _ _ l0_0 _ _ l0_1 true _ ?side1 ?side2 ?side3 ?side4 A3.out).mono ?_); (case side1 => repeat (first | exact (Kd.C_below HR0_0.out HB.out) | (with_reducible refine Kd.C_alloc ?_ _) | (with_reducible refine Kd.C_drewN ?_ _) | (with_reducible refine Kd.C_drew ?_))); (case side2 => exact HC0_0.out); (case side3 => repeat (first | exact (Kd.C_below HR0_1.out HB.out) | (with_reducible refine Kd.C_alloc ?_ _) | (with_reducible refine Kd.C_drewN ?_ _) | (with_reducible refine Kd.C_drew ?_))); (case side4 => exact HC0_1.out); rintro e w10 ⟨rfl, hb⟩; refine ⟨_, rfl, ?_⟩; have n0_ := Aside0.mk (blk_below (g := gb179) (o := .cells #[.slice A0_0 l0_0.length c0_0, .slice A0_1 l0_1.length c0_1] 25 (0, 0)) (by (with_reducible repeat (first | refine blk_drewN ?_ _ | refine blk_drew ?_ | refine blk_alloc ?_ _)); exact BK179.out) hb); have n1_ := Aside0.mk (below_step (by repeat (first | (with_reducible first | exact HB.out | apply below_alloc | apply pw_below_drewN | apply below_drew1 | refine below_set ?_ GE179.out) | exact HB.out)) hb); clear BK179; clear HB; have BK179 := n0_; have HB := n1_; clear n0_ n1_; (try clear hb); (try clear hb2); (try clear hk); (try clear hi); have hcz11_0 : w10.cell? ⟨gb179, 0, none⟩ = some (.slice A0_0 l0_0.length c0_0) := (blk_cell BK179.out 0).trans rfl; have hcz11_1 : w10.cell? ⟨gb179, 1, none⟩ = some (.slice A0_1 l0_1.length c0_1) := (blk_cell BK179.out 1).trans rfl; have hfz11_0 := blk_frozen BK179.out 0; have hfz11_1 := blk_frozen BK179.out 1) | ((with_reducible refine gate_callee (f := 13) rfl ?_); refine goesL_ (some 18) rfl rfl Try.func13 (by kernel_rfl) rfl #[.int .i64 a1, .int .i64 (l0_1.length : Int)] rfl (by (try simp only [List.map_toArray, List.map_cons, List.map_nil]); first | done | rfl | (simp only [List.length_drop, List.length_take]; rfl)) ?_; (with_reducible refine (selfstabmade_Mod.calls a1 (l0_1.length : Int) t182 _ A5.out).mono ?_); rintro e w' ⟨rfl, ⟨nd, rfl⟩⟩; refine ⟨_, rfl, ?_⟩) | ((with_reducible refine gate_callee (f := 14) rfl ?_); refine goesL_ (some 21) rfl rfl Try.func14 (by kernel_rfl) rfl #[.agg #[.slice A0_0 l0_0.length c0_0, .slice A0_1 l0_1.length c0_1], .int .i64 t182] rfl (by (try simp only [List.map_toArray, List.map_cons, List.map_nil]); first | done | rfl | (simp only [List.length_drop, List.length_take]; rfl)) ?_; (with_reducible refine (graph_Distances.calls k _ _ l0_0 _ _ l0_1 t182 t183 _ ?side1 ?side2 ?side3 ?side4 A6.out).mono ?_); (case side1 => repeat (first | exact (Kd.C_below HR0_0.out (by repeat (first | (with_reducible first | exact HB.out | apply below_alloc | apply pw_below_drewN | apply below_drew1 | refine below_set ?_ GE179.out) | exact HB.out))) | (with_reducible refine Kd.C_alloc ?_ _) | (with_reducible refine Kd.C_drewN ?_ _) | (with_reducible refine Kd.C_drew ?_))); (case side2 => exact HC0_0.out); (case side3 => repeat (first | exact (Kd.C_below HR0_1.out (by repeat (first | (with_reducible first | exact HB.out | apply below_alloc | apply pw_below_drewN | apply below_drew1 | refine below_set ?_ GE179.out) | exact HB.out))) | (with_reducible refine Kd.C_alloc ?_ _) | (with_reducible refine Kd.C_drewN ?_ _) | (with_reducible refine Kd.C_drew ?_))); (case side4 => exact HC0_1.out); rintro e w12 ⟨v184, rfl, ho0, hb⟩; refine ⟨_, rfl, ?_⟩; have n0_ := Aside0.mk (Kd.R_lower ho0 (below_size (by repeat (first | (with_reducible first | exact HB.out | apply below_alloc | apply pw_below_drewN | apply below_drew1 | refine below_set ?_ GE179.out) | exact HB.out)))); have n1_ := Aside0.mk (blk_below (g := gb179) (o := .cells #[.slice A0_0 l0_0.length c0_0, .slice A0_1 l0_1.length c0_1] 25 (0, 0)) (by (with_reducible repeat (first | refine blk_drewN ?_ _ | refine blk_drew ?_ | refine blk_alloc ?_ _)); exact BK179.out) hb); have n2_ := Aside0.mk (below_step (by repeat (first | (with_reducible first | exact HB.out | apply below_alloc | apply pw_below_drewN | apply below_drew1 | refine below_set ?_ GE179.out) | exact HB.out)) hb); clear BK179; clear HB; have HO185 := n0_; have BK179 := n1_; have HB := n2_; clear n0_ n1_ n2_; (try clear hb); (try clear hb2); (try clear hk); (try clear hi); (try clear ho0); obtain ⟨Ao13, co13, eo13⟩ := Kd.R_slice HO185.out; subst eo13; have hcz14_0 : w12.cell? ⟨gb179, 0, none⟩ = some (.slice A0_0 l0_0.length c0_0) := (blk_cell BK179.out 0).trans rfl; have hcz14_1 : w12.cell? ⟨gb179, 1, none⟩ = some (.slice A0_1 l0_1.length c0_1) := (blk_cell BK179.out 1).trans rfl; have hfz14_0 := blk_frozen BK179.out 0; have hfz14_1 := blk_frozen BK179.out 1))
      go_loopg [6] k (fun kq v6 w' => ∃ (x6_1 : Int), v6 = .int .i64 x6_1 ∧ Aside0 (selfstablaw01_GraphDistancesAreSteps.l0 kq t182 t183 x6_1 l0_0 l0_1 = some r) ∧ Aside0 (kq ≤ k) ∧ Aside0 (Kd.R (Kd.int .i64) 3 w' w.heap.size (fun _ => True) (.slice Ao13 t183.length co13) t183) ∧ Aside0 (w'.heap[gb179]? = some (.cells #[(.slice A0_0 l0_0.length c0_0), (.slice A0_1 l0_1.length c0_1)] 25 (0, 0))) ∧ Aside0 (Below w.heap.size w w'))
      case atStart => exact ⟨(0), (by first | rfl | (simp; done) | (simp [*]; done)), H', ⟨Nat.le_refl _⟩, ⟨by (with_reducible repeat (first | apply Kd.R_alloc | apply Kd.R_drewN | apply Kd.R_drew)); exact HO185.out⟩, ⟨by (with_reducible repeat (first | refine blk_drewN ?_ _ | refine blk_drew ?_ | refine blk_alloc ?_ _)); exact BK179.out⟩, ⟨by repeat (first | (with_reducible first | exact HB.out | apply below_alloc | apply pw_below_drewN | apply below_drew1 | refine below_set ?_ GE179.out) | exact HB.out)⟩⟩
      case round =>
        clear H'
        try clear c1
        try clear p2
        try clear c3
        try clear c4
        try clear c7
        try clear c7b0
        try clear c7b1
        try clear c7b2
        try clear c11
        try clear c13
        try clear c14
        try clear hcz11_0
        try clear hcz11_1
        try clear hcz14_0
        try clear hcz14_1
        try clear hcz9_0
        try clear hcz9_1
        try clear hfz11_0
        try clear hfz11_1
        try clear hfz14_0
        try clear hfz14_1
        try clear hfz9_0
        try clear hfz9_1
        obtain ⟨x6_1, rfl, HA, HK1, HO_5, BK179, HB⟩ := hrel
        cases gk with
        | zero => exact absurd HA.out (by simp [selfstablaw01_GraphDistancesAreSteps.l0])
        | succ k1 =>
          have H := HA.out
          clear HA
          simp only [selfstablaw01_GraphDistancesAreSteps.l0] at H
          by_cases c15 : x6_1 < (t183.length : Int)
          · rw [if_pos c15] at H
            have c15b0 : decide (x6_1 < (t183.length : Int)) = true := decide_eq_true c15
            clear c15
            have HC16 := Aside0.mk H
            clear H
            go_upto_region 10 with (fail)
            go_cut [49] (fun v49 wc => ∃ (kq : Nat) (x49_15 : Bool), v49 = .bool x49_15 ∧ Aside0 (selfstablaw01_GraphDistancesAreSteps.j1 kq t182 t183 x6_1 x49_15 l0_0 l0_1 = some r) ∧ Aside0 (kq ≤ k1) ∧ Aside0 (Kd.R (Kd.int .i64) 3 wc w.heap.size (fun _ => True) (.slice Ao13 t183.length co13) t183) ∧ Aside0 (wc.heap[gb179]? = some (.cells #[(.slice A0_0 l0_0.length c0_0), (.slice A0_1 l0_1.length c0_1)] 25 (0, 0))) ∧ Aside0 (Below w.heap.size w wc))
            case first =>
              have H := HC16.out
              clear HC16
              by_cases c17 : 0 ≤ x6_1
              · rw [if_pos c17] at H
                have c17b0 : decide (0 ≤ x6_1) = true := decide_eq_true c17
                clear c17
                (first | rw [c17b0] | (simp only [i64_w, i32_w]; rw [c17b0]) | skip)
                by_cases c18 : (rd t183 x6_1) < (-1)
                · rw [if_pos c18] at H
                  have c18b0 : decide ((rd t183 x6_1) < (-1)) = true := decide_eq_true c18
                  clear c18
                  have H' := Aside0.mk H
                  clear H
                  have p187 : 0 ≤ (x6_1 : Int) := of_decide_eq_true (by first | (with_reducible assumption) | assumption)
                  have q187 : x6_1 < (t183.length : Int) := of_decide_eq_true (by first | (with_reducible assumption) | assumption)
                  (try (obtain ⟨Az187, cz187, ez187⟩ := Kd.R_slice HO_5.out; subst ez187))
                  obtain ⟨ad187, e187, hx187_0⟩ := Kd.at_int (Kd.R_reads' HO_5.out).2.2 x6_1 p187 q187
                  cases e187
                  replace p187 := eq_true p187
                  replace q187 := eq_true q187
                  go_wp2
                  go_meet
                  case rel => exact ⟨_, (true), (by first | rfl | (simp; done) | (simp [*]; done)), H', ⟨by have := HK1.out; first | omega | exact Nat.le_refl _⟩, ⟨by (with_reducible repeat (first | apply Kd.R_alloc | apply Kd.R_drewN | apply Kd.R_drew)); exact HO_5.out⟩, ⟨by (with_reducible repeat (first | refine blk_drewN ?_ _ | refine blk_drew ?_ | refine blk_alloc ?_ _)); exact BK179.out⟩, ⟨by repeat (first | (with_reducible first | exact HB.out | apply below_alloc | apply pw_below_drewN | apply below_drew1 | refine below_set ?_ GE179.out) | exact HB.out)⟩⟩
                · rw [if_neg c18] at H
                  have c18b0 : decide ((rd t183 x6_1) < (-1)) = false := decide_eq_false c18
                  clear c18
                  have H' := Aside0.mk H
                  clear H
                  have p187 : 0 ≤ (x6_1 : Int) := of_decide_eq_true (by first | (with_reducible assumption) | assumption)
                  have q187 : x6_1 < (t183.length : Int) := of_decide_eq_true (by first | (with_reducible assumption) | assumption)
                  (try (obtain ⟨Az187, cz187, ez187⟩ := Kd.R_slice HO_5.out; subst ez187))
                  obtain ⟨ad187, e187, hx187_0⟩ := Kd.at_int (Kd.R_reads' HO_5.out).2.2 x6_1 p187 q187
                  cases e187
                  replace p187 := eq_true p187
                  replace q187 := eq_true q187
                  have p188 : 0 ≤ (x6_1 : Int) := of_decide_eq_true (by first | (with_reducible assumption) | assumption)
                  have q188 : x6_1 < (t183.length : Int) := of_decide_eq_true (by first | (with_reducible assumption) | assumption)
                  (try (obtain ⟨Az188, cz188, ez188⟩ := Kd.R_slice HO_5.out; subst ez188))
                  obtain ⟨ad188, e188, hx188_0⟩ := Kd.at_int (Kd.R_reads' HO_5.out).2.2 x6_1 p188 q188
                  obtain rfl : ad187 = ad188 := (by injection e188)
                  replace p188 := eq_true p188
                  replace q188 := eq_true q188
                  go_wp2
                  go_meet
                  case rel => exact ⟨_, ((((rd t183 x6_1) == 0) != (x6_1 == t182))), (by first | rfl | (simp; done) | (simp [*]; done)), H', ⟨by have := HK1.out; first | omega | exact Nat.le_refl _⟩, ⟨by (with_reducible repeat (first | apply Kd.R_alloc | apply Kd.R_drewN | apply Kd.R_drew)); exact HO_5.out⟩, ⟨by (with_reducible repeat (first | refine blk_drewN ?_ _ | refine blk_drew ?_ | refine blk_alloc ?_ _)); exact BK179.out⟩, ⟨by repeat (first | (with_reducible first | exact HB.out | apply below_alloc | apply pw_below_drewN | apply below_drew1 | refine below_set ?_ GE179.out) | exact HB.out)⟩⟩
              · rw [if_neg c17] at H
                exact absurd H (by simp)
            case rest =>
              clear HC16
              try clear c1
              try clear p1
              try clear q1
              try clear hx1
              try clear p2
              try clear c3
              try clear c4
              try clear c7
              try clear c7b0
              try clear c7b1
              try clear c7b2
              try clear c11
              try clear c13
              try clear c14
              try clear c15
              try clear c15b0
              try clear c17
              try clear c17b0
              try clear c18
              try clear c18b0
              try clear p18
              try clear q18
              try clear hx18
              try clear hcz11_0
              try clear hcz11_1
              try clear hcz14_0
              try clear hcz14_1
              try clear hcz9_0
              try clear hcz9_1
              try clear hfz11_0
              try clear hfz11_1
              try clear hfz14_0
              try clear hfz14_1
              try clear hfz9_0
              try clear hfz9_1
              try clear hx187_0
              try clear hx188_0
              try clear p187
              try clear p188
              try clear p2
              try clear q187
              try clear q188
              obtain ⟨kq, x49_15, rfl, HA, HJ15, HO_5, BK179, HB⟩ := hcut
              cases kq with
              | zero => exact absurd HA.out (by simp [selfstablaw01_GraphDistancesAreSteps.j1])
              | succ kj15 =>
                have H := HA.out
                clear HA
                simp only [selfstablaw01_GraphDistancesAreSteps.j1] at H
                by_cases c19 : x49_15 = true
                · subst c19
                  have H1 : (none) = some r := by rw [if_pos rfl] at H; exact H
                  clear H
                  have H := H1
                  clear H1
                  exact absurd H (by simp)
                · replace c19 := Bool.eq_false_iff.mpr c19
                  subst c19
                  have H1 : (selfstablaw01_GraphDistancesAreSteps.l1 kj15 t182 t183 x6_1 false 0 l0_0 l0_1) = some r := by rw [if_neg (show ¬ (false = true) by decide)] at H; exact H
                  clear H
                  have H := H1
                  clear H1
                  have H' := Aside0.mk H
                  clear H
                  go_wp2
                  go_loopg [7, 8] kj15 (fun kq v7 v8 w' => ∃ (x7_3 : Bool) (x8_3 : Int), v7 = .bool x7_3 ∧ v8 = .int .i64 x8_3 ∧ Aside0 (selfstablaw01_GraphDistancesAreSteps.l1 kq t182 t183 x6_1 x7_3 x8_3 l0_0 l0_1 = some r) ∧ Aside0 (kq ≤ kj15) ∧ Aside0 (Kd.R (Kd.int .i64) 3 w' w.heap.size (fun _ => True) (.slice Ao13 t183.length co13) t183) ∧ Aside0 (w'.heap[gb179]? = some (.cells #[(.slice A0_0 l0_0.length c0_0), (.slice A0_1 l0_1.length c0_1)] 25 (0, 0))) ∧ Aside0 (Below w.heap.size w w'))
                  case atStart => exact ⟨(false), (0), (by first | rfl | (simp; done) | (simp [*]; done)), (by first | rfl | (simp; done) | (simp [*]; done)), H', ⟨Nat.le_refl _⟩, ⟨by (with_reducible repeat (first | apply Kd.R_alloc | apply Kd.R_drewN | apply Kd.R_drew)); exact HO_5.out⟩, ⟨by (with_reducible repeat (first | refine blk_drewN ?_ _ | refine blk_drew ?_ | refine blk_alloc ?_ _)); exact BK179.out⟩, ⟨by repeat (first | (with_reducible first | exact HB.out | apply below_alloc | apply pw_below_drewN | apply below_drew1 | refine below_set ?_ GE179.out) | exact HB.out)⟩⟩
                  case round =>
                    clear H'
                    try clear c1
                    try clear p1
                    try clear q1
                    try clear hx1
                    try clear p2
                    try clear c3
                    try clear c4
                    try clear c7
                    try clear c7b0
                    try clear c7b1
                    try clear c7b2
                    try clear c11
                    try clear c13
                    try clear c14
                    try clear c15
                    try clear c15b0
                    try clear c17
                    try clear c17b0
                    try clear c18
                    try clear c18b0
                    try clear p18
                    try clear q18
                    try clear hx18
                    try clear c19
                    try clear hcz11_0
                    try clear hcz11_1
                    try clear hcz14_0
                    try clear hcz14_1
                    try clear hcz9_0
                    try clear hcz9_1
                    try clear hfz11_0
                    try clear hfz11_1
                    try clear hfz14_0
                    try clear hfz14_1
                    try clear hfz9_0
                    try clear hfz9_1
                    try clear hx187_0
                    try clear hx188_0
                    try clear p1
                    try clear p18
                    try clear p187
                    try clear p188
                    try clear p2
                    try clear q1
                    try clear q18
                    try clear q187
                    try clear q188
                    obtain ⟨x7_3, x8_3, rfl, rfl, HA, HK3, HO_5, BK179, HB⟩ := hrel
                    cases gk with
                    | zero => exact absurd HA.out (by simp [selfstablaw01_GraphDistancesAreSteps.l1])
                    | succ k3 =>
                      have H := HA.out
                      clear HA
                      simp only [selfstablaw01_GraphDistancesAreSteps.l1] at H
                      by_cases c20 : 0 ≤ x6_1
                      · rw [if_pos c20] at H
                        have c20b0 : decide (0 ≤ x6_1) = true := decide_eq_true c20
                        clear c20
                        by_cases c21 : x6_1 < (l0_1.length : Int)
                        · rw [if_pos c21] at H
                          have c21b0 : decide (x6_1 < (l0_1.length : Int)) = true := decide_eq_true c21
                          clear c21
                          by_cases c22 : x8_3 < ((rd_L2 l0_1 x6_1).length : Int)
                          · rw [if_pos c22] at H
                            have c22b0 : decide (x8_3 < ((rd_L2 l0_1 x6_1).length : Int)) = true := decide_eq_true c22
                            clear c22
                            by_cases c23 : 0 ≤ x8_3
                            · rw [if_pos c23] at H
                              have c23b0 : decide (0 ≤ x8_3) = true := decide_eq_true c23
                              clear c23
                              by_cases c24 : 0 ≤ ((rd_T32 (rd_L2 l0_1 x6_1) x8_3).f0)
                              · rw [if_pos c24] at H
                                have c24b0 : decide (0 ≤ ((rd_T32 (rd_L2 l0_1 x6_1) x8_3).f0)) = true := decide_eq_true c24
                                clear c24
                                by_cases c25 : ((rd_T32 (rd_L2 l0_1 x6_1) x8_3).f0) < (t183.length : Int)
                                · rw [if_pos c25] at H
                                  have c25b0 : decide (((rd_T32 (rd_L2 l0_1 x6_1) x8_3).f0) < (t183.length : Int)) = true := decide_eq_true c25
                                  clear c25
                                  by_cases c26 : x6_1 < (t183.length : Int)
                                  · rw [if_pos c26] at H
                                    have c26b0 : decide (x6_1 < (t183.length : Int)) = true := decide_eq_true c26
                                    clear c26
                                    by_cases c27 : ((decide ((rd t183 ((rd_T32 (rd_L2 l0_1 x6_1) x8_3).f0)) < 0)) != (decide ((rd t183 x6_1) < 0))) = true
                                    · rw [if_pos c27] at H
                                      exact absurd H (by simp)
                                    · rw [if_neg c27] at H
                                      have c27b0 : ((decide ((rd t183 ((rd_T32 (rd_L2 l0_1 x6_1) x8_3).f0)) < 0)) != (decide ((rd t183 x6_1) < 0))) = false := by simpa using c27
                                      (try (have c27b1 : decide ((decide ((rd t183 ((rd_T32 (rd_L2 l0_1 x6_1) x8_3).f0)) < 0)) = (decide ((rd t183 x6_1) < 0))) = true := by simpa using c27))
                                      (try (have c27b2 : ((decide ((rd t183 ((rd_T32 (rd_L2 l0_1 x6_1) x8_3).f0)) < 0)) == (decide ((rd t183 x6_1) < 0))) = true := by simpa using c27))
                                      clear c27
                                      by_cases c28 : (wrap64 ((rd t183 ((rd_T32 (rd_L2 l0_1 x6_1) x8_3).f0)) - (rd t183 x6_1))) > 1
                                      · rw [if_pos c28] at H
                                        exact absurd H (by simp)
                                      · rw [if_neg c28] at H
                                        have c28b0 : decide (1 < (wrap64 ((rd t183 ((rd_T32 (rd_L2 l0_1 x6_1) x8_3).f0)) - (rd t183 x6_1)))) = false := decide_eq_false c28
                                        clear c28
                                        by_cases c29 : (wrap64 ((rd t183 x6_1) - (rd t183 ((rd_T32 (rd_L2 l0_1 x6_1) x8_3).f0)))) > 1
                                        · rw [if_pos c29] at H
                                          exact absurd H (by simp)
                                        · rw [if_neg c29] at H
                                          have c29b0 : decide (1 < (wrap64 ((rd t183 x6_1) - (rd t183 ((rd_T32 (rd_L2 l0_1 x6_1) x8_3).f0))))) = false := decide_eq_false c29
                                          clear c29
                                          by_cases c30 : x7_3 = true
                                          · subst c30
                                            have H1 : (selfstablaw01_GraphDistancesAreSteps.l1 k3 t182 t183 x6_1 true (wrap64 (x8_3 + 1)) l0_0 l0_1) = some r := by rw [if_pos rfl] at H; exact H
                                            clear H
                                            have H := H1
                                            clear H1
                                            have H' := Aside0.mk H
                                            clear H
                                            have hcz31_0 : wr.cell? ⟨gb179, 0, none⟩ = some (.slice A0_0 l0_0.length c0_0) := (blk_cell BK179.out 0).trans rfl
                                            have hcz31_1 : wr.cell? ⟨gb179, 1, none⟩ = some (.slice A0_1 l0_1.length c0_1) := (blk_cell BK179.out 1).trans rfl
                                            have hfz31_0 := blk_frozen BK179.out 0
                                            have hfz31_1 := blk_frozen BK179.out 1
                                            have p189 : 0 ≤ (x6_1 : Int) := of_decide_eq_true (by first | (with_reducible assumption) | assumption)
                                            have q189 : x6_1 < (l0_1.length : Int) := of_decide_eq_true (by first | (with_reducible assumption) | assumption)
                                            obtain ⟨ad189, A189_0, c189_0, e189, hx189_0, hl189_0, hi189_0⟩ := at_L2 HR0_1.out x6_1 p189 q189
                                            cases e189
                                            replace hx189_0 := (HB.out.cell (World.block_lt_of_cell? w _ hx189_0)).trans hx189_0
                                            have HR189_0 := Aside0.mk hi189_0
                                            have HC189_0 := Aside0.mk hl189_0
                                            clear hi189_0 hl189_0
                                            replace p189 := eq_true p189
                                            replace q189 := eq_true q189
                                            have p190 : 0 ≤ (x6_1 : Int) := of_decide_eq_true (by first | (with_reducible assumption) | assumption)
                                            have q190 : x6_1 < (l0_1.length : Int) := of_decide_eq_true (by first | (with_reducible assumption) | assumption)
                                            obtain ⟨ad190, A190_0, c190_0, e190, hx190_0, hl190_0, hi190_0⟩ := at_L2 HR0_1.out x6_1 p190 q190
                                            obtain rfl : ad189 = ad190 := (by injection e190)
                                            replace hx190_0 := (HB.out.cell (World.block_lt_of_cell? w _ hx190_0)).trans hx190_0
                                            have HR190_0 := Aside0.mk hi190_0
                                            have HC190_0 := Aside0.mk hl190_0
                                            clear hi190_0 hl190_0
                                            replace p190 := eq_true p190
                                            replace q190 := eq_true q190
                                            have ea_ := Option.some.inj (hx189_0.symm.trans hx190_0)
                                            injection ea_ with ea_ en_ ec_
                                            subst ea_
                                            subst ec_
                                            clear en_
                                            have p191 : 0 ≤ (x8_3 : Int) := of_decide_eq_true (by first | (with_reducible assumption) | assumption)
                                            have q191 : x8_3 < ((rd_L2 l0_1 x6_1).length : Int) := of_decide_eq_true (by first | (with_reducible assumption) | assumption)
                                            obtain ⟨ad191, e191, hx191_0, hx191_1⟩ := at_T32 HR190_0.out x8_3 p191 q191
                                            cases e191
                                            replace hx191_0 := (HB.out.cell (World.block_lt_of_cell? w _ hx191_0)).trans hx191_0
                                            replace hx191_1 := (HB.out.cell (World.block_lt_of_cell? w _ hx191_1)).trans hx191_1
                                            replace p191 := eq_true p191
                                            replace q191 := eq_true q191
                                            have p192 : 0 ≤ (((rd_T32 (rd_L2 l0_1 x6_1) x8_3).f0) : Int) := of_decide_eq_true (by first | (with_reducible assumption) | assumption)
                                            have q192 : ((rd_T32 (rd_L2 l0_1 x6_1) x8_3).f0) < (t183.length : Int) := of_decide_eq_true (by first | (with_reducible assumption) | assumption)
                                            (try (obtain ⟨Az192, cz192, ez192⟩ := Kd.R_slice HO_5.out; subst ez192))
                                            obtain ⟨ad192, e192, hx192_0⟩ := Kd.at_int (Kd.R_reads' HO_5.out).2.2 ((rd_T32 (rd_L2 l0_1 x6_1) x8_3).f0) p192 q192
                                            cases e192
                                            replace p192 := eq_true p192
                                            replace q192 := eq_true q192
                                            have p193 : 0 ≤ (x6_1 : Int) := of_decide_eq_true (by first | (with_reducible assumption) | assumption)
                                            have q193 : x6_1 < (t183.length : Int) := of_decide_eq_true (by first | (with_reducible assumption) | assumption)
                                            (try (obtain ⟨Az193, cz193, ez193⟩ := Kd.R_slice HO_5.out; subst ez193))
                                            obtain ⟨ad193, e193, hx193_0⟩ := Kd.at_int (Kd.R_reads' HO_5.out).2.2 x6_1 p193 q193
                                            obtain rfl : ad192 = ad193 := (by injection e193)
                                            replace p193 := eq_true p193
                                            replace q193 := eq_true q193
                                            have p194 : 0 ≤ (x6_1 : Int) := of_decide_eq_true (by first | (with_reducible assumption) | assumption)
                                            have q194 : x6_1 < (t183.length : Int) := of_decide_eq_true (by first | (with_reducible assumption) | assumption)
                                            (try (obtain ⟨Az194, cz194, ez194⟩ := Kd.R_slice HO_5.out; subst ez194))
                                            obtain ⟨ad194, e194, hx194_0⟩ := Kd.at_int (Kd.R_reads' HO_5.out).2.2 x6_1 p194 q194
                                            obtain rfl : ad192 = ad194 := (by injection e194)
                                            replace p194 := eq_true p194
                                            replace q194 := eq_true q194
                                            have p195 : 0 ≤ (x6_1 : Int) := of_decide_eq_true (by first | (with_reducible assumption) | assumption)
                                            have q195 : x6_1 < (t183.length : Int) := of_decide_eq_true (by first | (with_reducible assumption) | assumption)
                                            (try (obtain ⟨Az195, cz195, ez195⟩ := Kd.R_slice HO_5.out; subst ez195))
                                            obtain ⟨ad195, e195, hx195_0⟩ := Kd.at_int (Kd.R_reads' HO_5.out).2.2 x6_1 p195 q195
                                            obtain rfl : ad192 = ad195 := (by injection e195)
                                            replace p195 := eq_true p195
                                            replace q195 := eq_true q195
                                            go_wp2
                                            go_roundg k3
                                            case measure => have := HK1.out; have := HJ15.out; have := HK3.out; omega
                                            case rel => exact ⟨(true), (wrap64 (x8_3 + 1)), (by first | rfl | (simp; done) | (simp [*]; done)), (by first | rfl | (simp; done) | (simp [*]; done)), H', ⟨by have := HK1.out; have := HJ15.out; have := HK3.out; omega⟩, ⟨by (with_reducible repeat (first | apply Kd.R_alloc | apply Kd.R_drewN | apply Kd.R_drew)); exact HO_5.out⟩, ⟨by (with_reducible repeat (first | refine blk_drewN ?_ _ | refine blk_drew ?_ | refine blk_alloc ?_ _)); exact BK179.out⟩, ⟨by repeat (first | (with_reducible first | exact HB.out | apply below_alloc | apply pw_below_drewN | apply below_drew1 | refine below_set ?_ GE179.out) | exact HB.out)⟩⟩
                                          · replace c30 := Bool.eq_false_iff.mpr c30
                                            subst c30
                                            have H1 : (selfstablaw01_GraphDistancesAreSteps.l1 k3 t182 t183 x6_1 ((rd t183 ((rd_T32 (rd_L2 l0_1 x6_1) x8_3).f0)) == (wrap64 ((rd t183 x6_1) - 1))) (wrap64 (x8_3 + 1)) l0_0 l0_1) = some r := by rw [if_neg (show ¬ (false = true) by decide)] at H; exact H
                                            clear H
                                            have H := H1
                                            clear H1
                                            have H' := Aside0.mk H
                                            clear H
                                            have hcz32_0 : wr.cell? ⟨gb179, 0, none⟩ = some (.slice A0_0 l0_0.length c0_0) := (blk_cell BK179.out 0).trans rfl
                                            have hcz32_1 : wr.cell? ⟨gb179, 1, none⟩ = some (.slice A0_1 l0_1.length c0_1) := (blk_cell BK179.out 1).trans rfl
                                            have hfz32_0 := blk_frozen BK179.out 0
                                            have hfz32_1 := blk_frozen BK179.out 1
                                            have p189 : 0 ≤ (x6_1 : Int) := of_decide_eq_true (by first | (with_reducible assumption) | assumption)
                                            have q189 : x6_1 < (l0_1.length : Int) := of_decide_eq_true (by first | (with_reducible assumption) | assumption)
                                            obtain ⟨ad189, A189_0, c189_0, e189, hx189_0, hl189_0, hi189_0⟩ := at_L2 HR0_1.out x6_1 p189 q189
                                            cases e189
                                            replace hx189_0 := (HB.out.cell (World.block_lt_of_cell? w _ hx189_0)).trans hx189_0
                                            have HR189_0 := Aside0.mk hi189_0
                                            have HC189_0 := Aside0.mk hl189_0
                                            clear hi189_0 hl189_0
                                            replace p189 := eq_true p189
                                            replace q189 := eq_true q189
                                            have p190 : 0 ≤ (x6_1 : Int) := of_decide_eq_true (by first | (with_reducible assumption) | assumption)
                                            have q190 : x6_1 < (l0_1.length : Int) := of_decide_eq_true (by first | (with_reducible assumption) | assumption)
                                            obtain ⟨ad190, A190_0, c190_0, e190, hx190_0, hl190_0, hi190_0⟩ := at_L2 HR0_1.out x6_1 p190 q190
                                            obtain rfl : ad189 = ad190 := (by injection e190)
                                            replace hx190_0 := (HB.out.cell (World.block_lt_of_cell? w _ hx190_0)).trans hx190_0
                                            have HR190_0 := Aside0.mk hi190_0
                                            have HC190_0 := Aside0.mk hl190_0
                                            clear hi190_0 hl190_0
                                            replace p190 := eq_true p190
                                            replace q190 := eq_true q190
                                            have ea_ := Option.some.inj (hx189_0.symm.trans hx190_0)
                                            injection ea_ with ea_ en_ ec_
                                            subst ea_
                                            subst ec_
                                            clear en_
                                            have p191 : 0 ≤ (x8_3 : Int) := of_decide_eq_true (by first | (with_reducible assumption) | assumption)
                                            have q191 : x8_3 < ((rd_L2 l0_1 x6_1).length : Int) := of_decide_eq_true (by first | (with_reducible assumption) | assumption)
                                            obtain ⟨ad191, e191, hx191_0, hx191_1⟩ := at_T32 HR190_0.out x8_3 p191 q191
                                            cases e191
                                            replace hx191_0 := (HB.out.cell (World.block_lt_of_cell? w _ hx191_0)).trans hx191_0
                                            replace hx191_1 := (HB.out.cell (World.block_lt_of_cell? w _ hx191_1)).trans hx191_1
                                            replace p191 := eq_true p191
                                            replace q191 := eq_true q191
                                            have p192 : 0 ≤ (((rd_T32 (rd_L2 l0_1 x6_1) x8_3).f0) : Int) := of_decide_eq_true (by first | (with_reducible assumption) | assumption)
                                            have q192 : ((rd_T32 (rd_L2 l0_1 x6_1) x8_3).f0) < (t183.length : Int) := of_decide_eq_true (by first | (with_reducible assumption) | assumption)
                                            (try (obtain ⟨Az192, cz192, ez192⟩ := Kd.R_slice HO_5.out; subst ez192))
                                            obtain ⟨ad192, e192, hx192_0⟩ := Kd.at_int (Kd.R_reads' HO_5.out).2.2 ((rd_T32 (rd_L2 l0_1 x6_1) x8_3).f0) p192 q192
                                            cases e192
                                            replace p192 := eq_true p192
                                            replace q192 := eq_true q192
                                            have p193 : 0 ≤ (x6_1 : Int) := of_decide_eq_true (by first | (with_reducible assumption) | assumption)
                                            have q193 : x6_1 < (t183.length : Int) := of_decide_eq_true (by first | (with_reducible assumption) | assumption)
                                            (try (obtain ⟨Az193, cz193, ez193⟩ := Kd.R_slice HO_5.out; subst ez193))
                                            obtain ⟨ad193, e193, hx193_0⟩ := Kd.at_int (Kd.R_reads' HO_5.out).2.2 x6_1 p193 q193
                                            obtain rfl : ad192 = ad193 := (by injection e193)
                                            replace p193 := eq_true p193
                                            replace q193 := eq_true q193
                                            have p194 : 0 ≤ (x6_1 : Int) := of_decide_eq_true (by first | (with_reducible assumption) | assumption)
                                            have q194 : x6_1 < (t183.length : Int) := of_decide_eq_true (by first | (with_reducible assumption) | assumption)
                                            (try (obtain ⟨Az194, cz194, ez194⟩ := Kd.R_slice HO_5.out; subst ez194))
                                            obtain ⟨ad194, e194, hx194_0⟩ := Kd.at_int (Kd.R_reads' HO_5.out).2.2 x6_1 p194 q194
                                            obtain rfl : ad192 = ad194 := (by injection e194)
                                            replace p194 := eq_true p194
                                            replace q194 := eq_true q194
                                            have p195 : 0 ≤ (x6_1 : Int) := of_decide_eq_true (by first | (with_reducible assumption) | assumption)
                                            have q195 : x6_1 < (t183.length : Int) := of_decide_eq_true (by first | (with_reducible assumption) | assumption)
                                            (try (obtain ⟨Az195, cz195, ez195⟩ := Kd.R_slice HO_5.out; subst ez195))
                                            obtain ⟨ad195, e195, hx195_0⟩ := Kd.at_int (Kd.R_reads' HO_5.out).2.2 x6_1 p195 q195
                                            obtain rfl : ad192 = ad195 := (by injection e195)
                                            replace p195 := eq_true p195
                                            replace q195 := eq_true q195
                                            have p196 : 0 ≤ (x6_1 : Int) := of_decide_eq_true (by first | (with_reducible assumption) | assumption)
                                            have q196 : x6_1 < (t183.length : Int) := of_decide_eq_true (by first | (with_reducible assumption) | assumption)
                                            (try (obtain ⟨Az196, cz196, ez196⟩ := Kd.R_slice HO_5.out; subst ez196))
                                            obtain ⟨ad196, e196, hx196_0⟩ := Kd.at_int (Kd.R_reads' HO_5.out).2.2 x6_1 p196 q196
                                            obtain rfl : ad192 = ad196 := (by injection e196)
                                            replace p196 := eq_true p196
                                            replace q196 := eq_true q196
                                            go_wp2
                                            go_roundg k3
                                            case measure => have := HK1.out; have := HJ15.out; have := HK3.out; omega
                                            case rel => exact ⟨(((rd t183 ((rd_T32 (rd_L2 l0_1 x6_1) x8_3).f0)) == (wrap64 ((rd t183 x6_1) - 1)))), (wrap64 (x8_3 + 1)), (by first | rfl | (simp; done) | (simp [*]; done)), (by first | rfl | (simp; done) | (simp [*]; done)), H', ⟨by have := HK1.out; have := HJ15.out; have := HK3.out; omega⟩, ⟨by (with_reducible repeat (first | apply Kd.R_alloc | apply Kd.R_drewN | apply Kd.R_drew)); exact HO_5.out⟩, ⟨by (with_reducible repeat (first | refine blk_drewN ?_ _ | refine blk_drew ?_ | refine blk_alloc ?_ _)); exact BK179.out⟩, ⟨by repeat (first | (with_reducible first | exact HB.out | apply below_alloc | apply pw_below_drewN | apply below_drew1 | refine below_set ?_ GE179.out) | exact HB.out)⟩⟩
                                  · rw [if_neg c26] at H
                                    exact absurd H (by simp)
                                · rw [if_neg c25] at H
                                  exact absurd H (by simp)
                              · rw [if_neg c24] at H
                                exact absurd H (by simp)
                            · rw [if_neg c23] at H
                              exact absurd H (by simp)
                          · rw [if_neg c22] at H
                            have c22b0 : decide (x8_3 < ((rd_L2 l0_1 x6_1).length : Int)) = false := decide_eq_false c22
                            clear c22
                            by_cases c33 : x6_1 < (t183.length : Int)
                            · rw [if_pos c33] at H
                              have c33b0 : decide (x6_1 < (t183.length : Int)) = true := decide_eq_true c33
                              clear c33
                              by_cases c34 : (rd t183 x6_1) > 0
                              · rw [if_pos c34] at H
                                have c34b0 : decide (0 < (rd t183 x6_1)) = true := decide_eq_true c34
                                clear c34
                                by_cases c35 : x7_3 = true
                                · subst c35
                                  have H1 : (selfstablaw01_GraphDistancesAreSteps.l0 k3 t182 t183 (wrap64 (x6_1 + 1)) l0_0 l0_1) = some r := by rw [if_pos rfl] at H; exact H
                                  clear H
                                  have H := H1
                                  clear H1
                                  have H' := Aside0.mk H
                                  clear H
                                  have hcz36_0 : wr.cell? ⟨gb179, 0, none⟩ = some (.slice A0_0 l0_0.length c0_0) := (blk_cell BK179.out 0).trans rfl
                                  have hcz36_1 : wr.cell? ⟨gb179, 1, none⟩ = some (.slice A0_1 l0_1.length c0_1) := (blk_cell BK179.out 1).trans rfl
                                  have hfz36_0 := blk_frozen BK179.out 0
                                  have hfz36_1 := blk_frozen BK179.out 1
                                  have p189 : 0 ≤ (x6_1 : Int) := of_decide_eq_true (by first | (with_reducible assumption) | assumption)
                                  have q189 : x6_1 < (l0_1.length : Int) := of_decide_eq_true (by first | (with_reducible assumption) | assumption)
                                  obtain ⟨ad189, A189_0, c189_0, e189, hx189_0, hl189_0, hi189_0⟩ := at_L2 HR0_1.out x6_1 p189 q189
                                  cases e189
                                  replace hx189_0 := (HB.out.cell (World.block_lt_of_cell? w _ hx189_0)).trans hx189_0
                                  have HR189_0 := Aside0.mk hi189_0
                                  have HC189_0 := Aside0.mk hl189_0
                                  clear hi189_0 hl189_0
                                  replace p189 := eq_true p189
                                  replace q189 := eq_true q189
                                  have p197 : 0 ≤ (x6_1 : Int) := of_decide_eq_true (by first | (with_reducible assumption) | assumption)
                                  have q197 : x6_1 < (t183.length : Int) := of_decide_eq_true (by first | (with_reducible assumption) | assumption)
                                  (try (obtain ⟨Az197, cz197, ez197⟩ := Kd.R_slice HO_5.out; subst ez197))
                                  obtain ⟨ad197, e197, hx197_0⟩ := Kd.at_int (Kd.R_reads' HO_5.out).2.2 x6_1 p197 q197
                                  cases e197
                                  replace p197 := eq_true p197
                                  replace q197 := eq_true q197
                                  go_wp2
                                  go_roundg k3
                                  case measure => have := HK1.out; have := HJ15.out; have := HK3.out; omega
                                  case rel => exact ⟨(wrap64 (x6_1 + 1)), (by first | rfl | (simp; done) | (simp [*]; done)), H', ⟨by have := HK1.out; have := HJ15.out; have := HK3.out; omega⟩, ⟨by (with_reducible repeat (first | apply Kd.R_alloc | apply Kd.R_drewN | apply Kd.R_drew)); exact HO_5.out⟩, ⟨by (with_reducible repeat (first | refine blk_drewN ?_ _ | refine blk_drew ?_ | refine blk_alloc ?_ _)); exact BK179.out⟩, ⟨by repeat (first | (with_reducible first | exact HB.out | apply below_alloc | apply pw_below_drewN | apply below_drew1 | refine below_set ?_ GE179.out) | exact HB.out)⟩⟩
                                · replace c35 := Bool.eq_false_iff.mpr c35
                                  subst c35
                                  have H1 : (none) = some r := by rw [if_neg (show ¬ (false = true) by decide)] at H; exact H
                                  clear H
                                  have H := H1
                                  clear H1
                                  exact absurd H (by simp)
                              · rw [if_neg c34] at H
                                have c34b0 : decide (0 < (rd t183 x6_1)) = false := decide_eq_false c34
                                clear c34
                                have H' := Aside0.mk H
                                clear H
                                have hcz37_0 : wr.cell? ⟨gb179, 0, none⟩ = some (.slice A0_0 l0_0.length c0_0) := (blk_cell BK179.out 0).trans rfl
                                have hcz37_1 : wr.cell? ⟨gb179, 1, none⟩ = some (.slice A0_1 l0_1.length c0_1) := (blk_cell BK179.out 1).trans rfl
                                have hfz37_0 := blk_frozen BK179.out 0
                                have hfz37_1 := blk_frozen BK179.out 1
                                have p189 : 0 ≤ (x6_1 : Int) := of_decide_eq_true (by first | (with_reducible assumption) | assumption)
                                have q189 : x6_1 < (l0_1.length : Int) := of_decide_eq_true (by first | (with_reducible assumption) | assumption)
                                obtain ⟨ad189, A189_0, c189_0, e189, hx189_0, hl189_0, hi189_0⟩ := at_L2 HR0_1.out x6_1 p189 q189
                                cases e189
                                replace hx189_0 := (HB.out.cell (World.block_lt_of_cell? w _ hx189_0)).trans hx189_0
                                have HR189_0 := Aside0.mk hi189_0
                                have HC189_0 := Aside0.mk hl189_0
                                clear hi189_0 hl189_0
                                replace p189 := eq_true p189
                                replace q189 := eq_true q189
                                have p197 : 0 ≤ (x6_1 : Int) := of_decide_eq_true (by first | (with_reducible assumption) | assumption)
                                have q197 : x6_1 < (t183.length : Int) := of_decide_eq_true (by first | (with_reducible assumption) | assumption)
                                (try (obtain ⟨Az197, cz197, ez197⟩ := Kd.R_slice HO_5.out; subst ez197))
                                obtain ⟨ad197, e197, hx197_0⟩ := Kd.at_int (Kd.R_reads' HO_5.out).2.2 x6_1 p197 q197
                                cases e197
                                replace p197 := eq_true p197
                                replace q197 := eq_true q197
                                go_wp2
                                go_roundg k3
                                case measure => have := HK1.out; have := HJ15.out; have := HK3.out; omega
                                case rel => exact ⟨(wrap64 (x6_1 + 1)), (by first | rfl | (simp; done) | (simp [*]; done)), H', ⟨by have := HK1.out; have := HJ15.out; have := HK3.out; omega⟩, ⟨by (with_reducible repeat (first | apply Kd.R_alloc | apply Kd.R_drewN | apply Kd.R_drew)); exact HO_5.out⟩, ⟨by (with_reducible repeat (first | refine blk_drewN ?_ _ | refine blk_drew ?_ | refine blk_alloc ?_ _)); exact BK179.out⟩, ⟨by repeat (first | (with_reducible first | exact HB.out | apply below_alloc | apply pw_below_drewN | apply below_drew1 | refine below_set ?_ GE179.out) | exact HB.out)⟩⟩
                            · rw [if_neg c33] at H
                              exact absurd H (by simp)
                        · rw [if_neg c21] at H
                          exact absurd H (by simp)
                      · rw [if_neg c20] at H
                        exact absurd H (by simp)
          · rw [if_neg c15] at H
            have c15b0 : decide (x6_1 < (t183.length : Int)) = false := decide_eq_false c15
            clear c15
            replace H := Option.bind_eq_some_iff.mp H
            obtain ⟨t186, A380, H⟩ := H
            replace H : (some t186) = some r := H
            have A38 := Aside0.mk A380
            clear A380
            obtain rfl := Option.some.inj H
            go_wp2_with (first | ((with_reducible refine gate_callee (f := 12) rfl ?_); refine goesL_ (some 117) rfl rfl Try.func12 (by kernel_rfl) rfl #[] rfl (by (try simp only [List.map_toArray, List.map_cons, List.map_nil]); first | done | rfl | (simp only [List.length_drop, List.length_take]; rfl)) ?_; (with_reducible refine (selfstablaw01_awake.calls k1  t186 _ A38.out).mono ?_); rintro e w39 ⟨rfl, hb⟩; refine ⟨_, rfl, ?_⟩; have n0_ := Aside0.mk (Kd.R_below (by (with_reducible repeat (first | apply Kd.R_alloc | apply Kd.R_drewN | apply Kd.R_drew)); exact HO_5.out) hb); have n1_ := Aside0.mk (blk_below (g := gb179) (o := .cells #[.slice A0_0 l0_0.length c0_0, .slice A0_1 l0_1.length c0_1] 25 (0, 0)) (by (with_reducible repeat (first | refine blk_drewN ?_ _ | refine blk_drew ?_ | refine blk_alloc ?_ _)); exact BK179.out) hb); have n2_ := Aside0.mk (below_step (by repeat (first | (with_reducible first | exact HB.out | apply below_alloc | apply pw_below_drewN | apply below_drew1 | refine below_set ?_ GE179.out) | exact HB.out)) hb); clear HO_5; clear BK179; clear HB; have HO_5 := n0_; have BK179 := n1_; have HB := n2_; clear n0_ n1_ n2_; (try clear hb); (try clear hb2); (try clear hk); (try clear hi)))
            go_ret
            exact ⟨by first | rfl | (simp [errW_none, errW_some] <;> rfl) | (simp [*, errW_none, errW_some] <;> rfl), by repeat (first | (with_reducible first | exact HB.out | apply below_alloc | apply pw_below_drewN | apply below_drew1 | refine below_set ?_ GE179.out) | exact HB.out)⟩
    · rw [if_neg c7] at H
      exact absurd H (by simp)
  · replace c4 := Bool.eq_false_iff.mpr c4
    subst c4
    have H1 : ((selfstablaw01_awake.f k).bind fun t181 => (some t181)) = some r := by rw [if_neg (show ¬ (false = true) by decide)] at H; exact H
    clear H
    have H := H1
    clear H1
    replace H := Option.bind_eq_some_iff.mp H
    obtain ⟨t181, A400, H⟩ := H
    replace H : (some t181) = some r := H
    have A40 := Aside0.mk A400
    clear A400
    obtain rfl := Option.some.inj H
    go_enter Try.func3, Try.ntmps3
    go_wp2_with (first | ((with_reducible refine gate_dst (N := 2) rfl ?_); refine box_event ?hg (N := 2) ?hd (cs := #[.slice A0_0 l0_0.length c0_0, .slice A0_1 l0_1.length c0_1]) (t := 25) ?hr ?_; (case hd => rfl); (case hg => rfl); (case hr => first | (go_simp; done) | (go_simp; rfl)); intro gb179 hg w41 hbox hb; have n0_ := Aside0.mk (below_step (by repeat (first | (with_reducible first | exact HB.out | apply below_alloc | apply pw_below_drewN | apply below_drew1) | exact HB.out)) hb); have n1_ := Aside0.mk (hbox); have n2_ := Aside0.mk ((by rw [hg]; exact (below_size (by repeat (first | (with_reducible first | exact HB.out | apply below_alloc | apply pw_below_drewN | apply below_drew1) | exact HB.out))) : w.heap.size ≤ gb179)); have n3_ := Aside0.mk ((by rw [hg]; exact (below_size (by repeat (first | (with_reducible first | exact HB.out | apply below_alloc | apply pw_below_drewN | apply below_drew1) | exact HB.out))) : w.heap.size ≤ gb179)); clear HB; have HB := n0_; have BK179 := n1_; have GW179 := n2_; have GE179 := n3_; clear n0_ n1_ n2_ n3_; clear hb hbox hg; have hcz42_0 : w41.cell? ⟨gb179, 0, none⟩ = some (.slice A0_0 l0_0.length c0_0) := (blk_cell BK179.out 0).trans rfl; have hcz42_1 : w41.cell? ⟨gb179, 1, none⟩ = some (.slice A0_1 l0_1.length c0_1) := (blk_cell BK179.out 1).trans rfl; have hfz42_0 := blk_frozen BK179.out 0; have hfz42_1 := blk_frozen BK179.out 1) | ((with_reducible refine gate_callee (f := 11) rfl ?_); refine goesL_ (some 11) rfl rfl Try.func11 (by kernel_rfl) rfl #[.agg #[.slice A0_0 l0_0.length c0_0, .slice A0_1 l0_1.length c0_1]] rfl (by (try simp only [List.map_toArray, List.map_cons, List.map_nil]); first | done | rfl | (simp only [List.length_drop, List.length_take]; rfl)) ?_; (with_reducible refine (selfstablaw01_fair.calls k _ _ l0_0 _ _ l0_1 false _ ?side1 ?side2 ?side3 ?side4 A3.out).mono ?_); (case side1 => repeat (first | exact (Kd.C_below HR0_0.out HB.out) | (with_reducible refine Kd.C_alloc ?_ _) | (with_reducible refine Kd.C_drewN ?_ _) | (with_reducible refine Kd.C_drew ?_))); (case side2 => exact HC0_0.out); (case side3 => repeat (first | exact (Kd.C_below HR0_1.out HB.out) | (with_reducible refine Kd.C_alloc ?_ _) | (with_reducible refine Kd.C_drewN ?_ _) | (with_reducible refine Kd.C_drew ?_))); (case side4 => exact HC0_1.out); rintro e w43 ⟨rfl, hb⟩; refine ⟨_, rfl, ?_⟩; have n0_ := Aside0.mk (blk_below (g := gb179) (o := .cells #[.slice A0_0 l0_0.length c0_0, .slice A0_1 l0_1.length c0_1] 25 (0, 0)) (by (with_reducible repeat (first | refine blk_drewN ?_ _ | refine blk_drew ?_ | refine blk_alloc ?_ _)); exact BK179.out) hb); have n1_ := Aside0.mk (below_step (by repeat (first | (with_reducible first | exact HB.out | apply below_alloc | apply pw_below_drewN | apply below_drew1 | refine below_set ?_ GE179.out) | exact HB.out)) hb); clear BK179; clear HB; have BK179 := n0_; have HB := n1_; clear n0_ n1_; (try clear hb); (try clear hb2); (try clear hk); (try clear hi)) | ((with_reducible refine gate_callee (f := 12) rfl ?_); refine goesL_ (some 13) rfl rfl Try.func12 (by kernel_rfl) rfl #[] rfl (by (try simp only [List.map_toArray, List.map_cons, List.map_nil]); first | done | rfl | (simp only [List.length_drop, List.length_take]; rfl)) ?_; (with_reducible refine (selfstablaw01_awake.calls k  t181 _ A40.out).mono ?_); rintro e w44 ⟨rfl, hb⟩; refine ⟨_, rfl, ?_⟩; have n0_ := Aside0.mk (blk_below (g := gb179) (o := .cells #[.slice A0_0 l0_0.length c0_0, .slice A0_1 l0_1.length c0_1] 25 (0, 0)) (by (with_reducible repeat (first | refine blk_drewN ?_ _ | refine blk_drew ?_ | refine blk_alloc ?_ _)); exact BK179.out) hb); have n1_ := Aside0.mk (below_step (by repeat (first | (with_reducible first | exact HB.out | apply below_alloc | apply pw_below_drewN | apply below_drew1 | refine below_set ?_ GE179.out) | exact HB.out)) hb); clear BK179; clear HB; have BK179 := n0_; have HB := n1_; clear n0_ n1_; (try clear hb); (try clear hb2); (try clear hk); (try clear hi)))
    go_ret
    exact ⟨by first | rfl | (simp [errW_none, errW_some] <;> rfl) | (simp [*, errW_none, errW_some] <;> rfl), by repeat (first | (with_reducible first | exact HB.out | apply below_alloc | apply pw_below_drewN | apply below_drew1 | refine below_set ?_ GE179.out) | exact HB.out)⟩

end Go.Proofs.Ytbpolpagcaacoaa.P
