-- By a program of this session (wip/tools/myprint.py over the kit's printer). Not trusted: Lean checks it.
import Derived.Test.YtbpolpagcaacoaaP0
import Derived.Test.YtbpolpagcaacoaaP3
import Derived.Test.YtbpolpagcaacoaaP4
import Derived.Test.YtbpolpagcaacoaaP7
import Derived.Test.YtbpolpagcaacoaaP8
namespace Go.Proofs.Ytbpolpagcaacoaa.P
open Go.RowKit Go.Proofs.YtbpolpagcaacoaaW.PrintWords Go.Proofs.YtbpolpagcaacoaaW.PrintLast Go.Proofs.YtbpolpagcaacoaaW.PrintMore
attribute [local go_sem] max2_int min2_int max_two min_two max_three min_three max_four min_four   -- for this text's walks alone
set_option linter.unusedVariables false
set_option linter.unusedSimpArgs false

/-! ### selfstablaw01_GraphIndependentParts: function 9 -/
mutual
def selfstablaw01_GraphIndependentParts.j0 : Nat → Int → Bool → Bool → List Int → List (List (S32)) → Option (Bool)
  | 0, _, _, _, _, _ => none
  | k + 1, x1, x7, x32, x354000, x354001 => if x32 = true then (none) else (selfstablaw01_GraphIndependentParts.l0 k x1 x7 false 0 x354000 x354001)
def selfstablaw01_GraphIndependentParts.l0 : Nat → Int → Bool → Bool → Int → List Int → List (List (S32)) → Option (Bool)
  | 0, _, _, _, _, _, _ => none
  | k + 1, x1, x7, x8, x9, x354000, x354001 => if x9 < (x354001.length : Int) then (selfstablaw01_GraphIndependentParts.l1 k x1 x7 x8 x9 0 x354000 x354001) else ((selfstablaw01_awake.f k).bind fun t359 => (if t359 = true then (some (x7 == (!x8))) else (none)))
def selfstablaw01_GraphIndependentParts.l1 : Nat → Int → Bool → Bool → Int → Int → List Int → List (List (S32)) → Option (Bool)
  | 0, _, _, _, _, _, _, _ => none
  | k + 1, x1, x7, x8, x9, x10, x354000, x354001 => if 0 ≤ x9 then (if x9 < (x354001.length : Int) then (if x10 < ((rd_L2 x354001 x9).length : Int) then (if x8 = true then (selfstablaw01_GraphIndependentParts.l1 k x1 x7 true x9 (wrap64 (x10 + 1)) x354000 x354001) else ((selfstabref01_Has.f x1 x9).bind fun t361 => (if t361 = true then (if 0 ≤ x10 then ((selfstabref01_Has.f x1 ((rd_T32 (rd_L2 x354001 x9) x10).f0)).bind fun t364 => (selfstablaw01_GraphIndependentParts.l1 k x1 x7 t364 x9 (wrap64 (x10 + 1)) x354000 x354001)) else (none)) else (selfstablaw01_GraphIndependentParts.l1 k x1 x7 false x9 (wrap64 (x10 + 1)) x354000 x354001)))) else (selfstablaw01_GraphIndependentParts.l0 k x1 x7 x8 (wrap64 (x9 + 1)) x354000 x354001)) else (none)) else (none)
end
def selfstablaw01_GraphIndependentParts.f (k : Nat) (l0_0 : List Int) (l0_1 : List (List (S32))) (a1 : Int) (a2 : Int) : Option (Bool) := (selfstablaw01_fair.f k l0_0 l0_1).bind fun t354 => (if t354 = true then ((selfstabref01_All.f k (l0_1.length : Int)).bind fun t356 => ((graph_Independent.f k l0_0 l0_1 (Go.bits .and .u32 a1 t356)).bind fun t357 => (if t357 = true then ((graph_Independent.f k l0_0 l0_1 (Go.bits .and .u32 (Go.bits .and .u32 a1 t356) a2)).bind fun t358 => (selfstablaw01_GraphIndependentParts.j0 k (Go.bits .and .u32 a1 t356) t357 (!t358) l0_0 l0_1)) else (selfstablaw01_GraphIndependentParts.j0 k (Go.bits .and .u32 a1 t356) t357 false l0_0 l0_1)))) else ((selfstablaw01_awake.f k).bind fun t355 => (some t355)))
theorem selfstablaw01_GraphIndependentParts.mono_l : ∀ k, (∀ y0 y1 y2 y3 y4, LeO (selfstablaw01_GraphIndependentParts.j0 k y0 y1 y2 y3 y4) (selfstablaw01_GraphIndependentParts.j0 (k + 1) y0 y1 y2 y3 y4)) ∧ (∀ y0 y1 y2 y3 y4 y5, LeO (selfstablaw01_GraphIndependentParts.l0 k y0 y1 y2 y3 y4 y5) (selfstablaw01_GraphIndependentParts.l0 (k + 1) y0 y1 y2 y3 y4 y5)) ∧ (∀ y0 y1 y2 y3 y4 y5 y6, LeO (selfstablaw01_GraphIndependentParts.l1 k y0 y1 y2 y3 y4 y5 y6) (selfstablaw01_GraphIndependentParts.l1 (k + 1) y0 y1 y2 y3 y4 y5 y6))
  | 0 => ⟨fun _ _ _ _ _ r h => by simp [selfstablaw01_GraphIndependentParts.j0] at h, fun _ _ _ _ _ _ r h => by simp [selfstablaw01_GraphIndependentParts.l0] at h, fun _ _ _ _ _ _ _ r h => by simp [selfstablaw01_GraphIndependentParts.l1] at h⟩
  | k + 1 => by
    obtain ⟨ih0, ih1, ih2⟩ := selfstablaw01_GraphIndependentParts.mono_l k
    refine ⟨?_, ?_, ?_⟩
    · intro y0 y1 y2 y3 y4
      unfold selfstablaw01_GraphIndependentParts.j0
      repeat' first
      | (with_reducible exact ih0 _ _ _ _ _)
      | (with_reducible exact ih1 _ _ _ _ _ _)
      | (with_reducible exact ih2 _ _ _ _ _ _ _)
      | (with_reducible exact graph_Independent.mono _ _ _ _)
      | (with_reducible exact selfstablaw01_awake.mono _)
      | (with_reducible exact selfstablaw01_fair.mono _ _ _)
      | (with_reducible exact selfstabref01_All.mono _ _)
      | (with_reducible exact LeO.refl _)
      | (with_reducible exact LeO.none _)
      | (with_reducible refine LeO.ite ?_ ?_)
      | (with_reducible refine LeO.bind ?_ (fun _ => ?_))
      | exact ih0 _ _ _ _ _
      | exact ih1 _ _ _ _ _ _
      | exact ih2 _ _ _ _ _ _ _
      | exact graph_Independent.mono _ _ _ _
      | exact selfstablaw01_awake.mono _
      | exact selfstablaw01_fair.mono _ _ _
      | exact selfstabref01_All.mono _ _
      | exact LeO.none _
      | refine LeO.ite ?_ ?_
      | refine LeO.bind ?_ (fun _ => ?_)
    · intro y0 y1 y2 y3 y4 y5
      unfold selfstablaw01_GraphIndependentParts.l0
      repeat' first
      | (with_reducible exact ih0 _ _ _ _ _)
      | (with_reducible exact ih1 _ _ _ _ _ _)
      | (with_reducible exact ih2 _ _ _ _ _ _ _)
      | (with_reducible exact graph_Independent.mono _ _ _ _)
      | (with_reducible exact selfstablaw01_awake.mono _)
      | (with_reducible exact selfstablaw01_fair.mono _ _ _)
      | (with_reducible exact selfstabref01_All.mono _ _)
      | (with_reducible exact LeO.refl _)
      | (with_reducible exact LeO.none _)
      | (with_reducible refine LeO.ite ?_ ?_)
      | (with_reducible refine LeO.bind ?_ (fun _ => ?_))
      | exact ih0 _ _ _ _ _
      | exact ih1 _ _ _ _ _ _
      | exact ih2 _ _ _ _ _ _ _
      | exact graph_Independent.mono _ _ _ _
      | exact selfstablaw01_awake.mono _
      | exact selfstablaw01_fair.mono _ _ _
      | exact selfstabref01_All.mono _ _
      | exact LeO.none _
      | refine LeO.ite ?_ ?_
      | refine LeO.bind ?_ (fun _ => ?_)
    · intro y0 y1 y2 y3 y4 y5 y6
      unfold selfstablaw01_GraphIndependentParts.l1
      repeat' first
      | (with_reducible exact ih0 _ _ _ _ _)
      | (with_reducible exact ih1 _ _ _ _ _ _)
      | (with_reducible exact ih2 _ _ _ _ _ _ _)
      | (with_reducible exact graph_Independent.mono _ _ _ _)
      | (with_reducible exact selfstablaw01_awake.mono _)
      | (with_reducible exact selfstablaw01_fair.mono _ _ _)
      | (with_reducible exact selfstabref01_All.mono _ _)
      | (with_reducible exact LeO.refl _)
      | (with_reducible exact LeO.none _)
      | (with_reducible refine LeO.ite ?_ ?_)
      | (with_reducible refine LeO.bind ?_ (fun _ => ?_))
      | exact ih0 _ _ _ _ _
      | exact ih1 _ _ _ _ _ _
      | exact ih2 _ _ _ _ _ _ _
      | exact graph_Independent.mono _ _ _ _
      | exact selfstablaw01_awake.mono _
      | exact selfstablaw01_fair.mono _ _ _
      | exact selfstabref01_All.mono _ _
      | exact LeO.none _
      | refine LeO.ite ?_ ?_
      | refine LeO.bind ?_ (fun _ => ?_)
theorem selfstablaw01_GraphIndependentParts.mono : ∀ a0 a1 a2 a3 k, LeO (selfstablaw01_GraphIndependentParts.f k a0 a1 a2 a3) (selfstablaw01_GraphIndependentParts.f (k + 1) a0 a1 a2 a3) := by
  intro a0 a1 a2 a3 k
  obtain ⟨ih0, ih1, ih2⟩ := selfstablaw01_GraphIndependentParts.mono_l k
  unfold selfstablaw01_GraphIndependentParts.f
  repeat' first
      | (with_reducible exact ih0 _ _ _ _ _)
      | (with_reducible exact ih1 _ _ _ _ _ _)
      | (with_reducible exact ih2 _ _ _ _ _ _ _)
      | (with_reducible exact graph_Independent.mono _ _ _ _)
      | (with_reducible exact selfstablaw01_awake.mono _)
      | (with_reducible exact selfstablaw01_fair.mono _ _ _)
      | (with_reducible exact selfstabref01_All.mono _ _)
      | (with_reducible exact LeO.refl _)
      | (with_reducible exact LeO.none _)
      | (with_reducible refine LeO.ite ?_ ?_)
      | (with_reducible refine LeO.bind ?_ (fun _ => ?_))
      | exact ih0 _ _ _ _ _
      | exact ih1 _ _ _ _ _ _
      | exact ih2 _ _ _ _ _ _ _
      | exact graph_Independent.mono _ _ _ _
      | exact selfstablaw01_awake.mono _
      | exact selfstablaw01_fair.mono _ _ _
      | exact selfstabref01_All.mono _ _
      | exact LeO.none _
      | refine LeO.ite ?_ ?_
      | refine LeO.bind ?_ (fun _ => ?_)
set_option maxHeartbeats 8000000 in
set_option maxRecDepth 100000 in
theorem selfstablaw01_GraphIndependentParts.calls (k : Nat) (A0_0 : Option Addr) (c0_0 : Nat) (l0_0 : List Int) (A0_1 : Option Addr) (c0_1 : Nat) (l0_1 : List (List (S32))) (a1 : Int) (a2 : Int) (r : Bool) (w : World) (hr0_0 : Kd.C (Kd.int .i64) w A0_0 l0_0.length l0_0) (hc0_0 : l0_0.length ≤ c0_0) (hr0_1 : Kd.C (Kd.slice 32 k32) w A0_1 l0_1.length l0_1) (hc0_1 : l0_1.length ≤ c0_1) (h : selfstablaw01_GraphIndependentParts.f k l0_0 l0_1 a1 a2 = some r) :
    Calls Try.prog 9 #[.agg #[.slice A0_0 l0_0.length c0_0, .slice A0_1 l0_1.length c0_1], .int .u32 a1, .int .u32 a2] w fun e w' => e = .returned (.bool r) ∧ Below w.heap.size w w' := by
  have hu25 := Try.underlying25
  have HR0_0 := Aside0.mk hr0_0
  have HC0_0 := Aside0.mk hc0_0
  clear hr0_0 hc0_0
  have HR0_1 := Aside0.mk hr0_1
  have HC0_1 := Aside0.mk hc0_1
  clear hr0_1 hc0_1
  have HB := Aside0.mk (Below.refl w.heap.size w)
  have H : ((selfstablaw01_fair.f k l0_0 l0_1).bind fun t354 => (if t354 = true then ((selfstabref01_All.f k (l0_1.length : Int)).bind fun t356 => ((graph_Independent.f k l0_0 l0_1 (Go.bits .and .u32 a1 t356)).bind fun t357 => (if t357 = true then ((graph_Independent.f k l0_0 l0_1 (Go.bits .and .u32 (Go.bits .and .u32 a1 t356) a2)).bind fun t358 => (selfstablaw01_GraphIndependentParts.j0 k (Go.bits .and .u32 a1 t356) t357 (!t358) l0_0 l0_1)) else (selfstablaw01_GraphIndependentParts.j0 k (Go.bits .and .u32 a1 t356) t357 false l0_0 l0_1)))) else ((selfstablaw01_awake.f k).bind fun t355 => (some t355)))) = some r := h
  clear h
  replace H := Option.bind_eq_some_iff.mp H
  obtain ⟨t354, A40, H⟩ := H
  replace H : (if t354 = true then ((selfstabref01_All.f k (l0_1.length : Int)).bind fun t356 => ((graph_Independent.f k l0_0 l0_1 (Go.bits .and .u32 a1 t356)).bind fun t357 => (if t357 = true then ((graph_Independent.f k l0_0 l0_1 (Go.bits .and .u32 (Go.bits .and .u32 a1 t356) a2)).bind fun t358 => (selfstablaw01_GraphIndependentParts.j0 k (Go.bits .and .u32 a1 t356) t357 (!t358) l0_0 l0_1)) else (selfstablaw01_GraphIndependentParts.j0 k (Go.bits .and .u32 a1 t356) t357 false l0_0 l0_1)))) else ((selfstablaw01_awake.f k).bind fun t355 => (some t355))) = some r := H
  have A4 := Aside0.mk A40
  clear A40
  by_cases c5 : t354 = true
  · subst c5
    have H1 : ((selfstabref01_All.f k (l0_1.length : Int)).bind fun t356 => ((graph_Independent.f k l0_0 l0_1 (Go.bits .and .u32 a1 t356)).bind fun t357 => (if t357 = true then ((graph_Independent.f k l0_0 l0_1 (Go.bits .and .u32 (Go.bits .and .u32 a1 t356) a2)).bind fun t358 => (selfstablaw01_GraphIndependentParts.j0 k (Go.bits .and .u32 a1 t356) t357 (!t358) l0_0 l0_1)) else (selfstablaw01_GraphIndependentParts.j0 k (Go.bits .and .u32 a1 t356) t357 false l0_0 l0_1)))) = some r := by rw [if_pos rfl] at H; exact H
    clear H
    have H := H1
    clear H1
    replace H := Option.bind_eq_some_iff.mp H
    obtain ⟨t356, A60, H⟩ := H
    replace H : ((graph_Independent.f k l0_0 l0_1 (Go.bits .and .u32 a1 t356)).bind fun t357 => (if t357 = true then ((graph_Independent.f k l0_0 l0_1 (Go.bits .and .u32 (Go.bits .and .u32 a1 t356) a2)).bind fun t358 => (selfstablaw01_GraphIndependentParts.j0 k (Go.bits .and .u32 a1 t356) t357 (!t358) l0_0 l0_1)) else (selfstablaw01_GraphIndependentParts.j0 k (Go.bits .and .u32 a1 t356) t357 false l0_0 l0_1))) = some r := H
    have A6 := Aside0.mk A60
    clear A60
    replace H := Option.bind_eq_some_iff.mp H
    obtain ⟨t357, A70, H⟩ := H
    replace H : (if t357 = true then ((graph_Independent.f k l0_0 l0_1 (Go.bits .and .u32 (Go.bits .and .u32 a1 t356) a2)).bind fun t358 => (selfstablaw01_GraphIndependentParts.j0 k (Go.bits .and .u32 a1 t356) t357 (!t358) l0_0 l0_1)) else (selfstablaw01_GraphIndependentParts.j0 k (Go.bits .and .u32 a1 t356) t357 false l0_0 l0_1)) = some r := H
    have A7 := Aside0.mk A70
    clear A70
    have HC8 := Aside0.mk H
    clear H
    go_enter Try.func9, Try.ntmps9
    go_upto_region 5 with (first | ((with_reducible refine gate_dst (N := 3) rfl ?_); refine box_event ?hg (N := 3) ?hd (cs := #[.slice A0_0 l0_0.length c0_0, .slice A0_1 l0_1.length c0_1]) (t := 25) ?hr ?_; (case hd => rfl); (case hg => rfl); (case hr => first | (go_simp; done) | (go_simp; rfl)); intro gb353 hg w9 hbox hb; have n0_ := Aside0.mk (below_step (by repeat (first | (with_reducible first | exact HB.out | apply below_alloc | apply pw_below_drewN | apply below_drew1) | exact HB.out)) hb); have n1_ := Aside0.mk (hbox); have n2_ := Aside0.mk ((by rw [hg]; exact (below_size (by repeat (first | (with_reducible first | exact HB.out | apply below_alloc | apply pw_below_drewN | apply below_drew1) | exact HB.out))) : w.heap.size ≤ gb353)); have n3_ := Aside0.mk ((by rw [hg]; exact (below_size (by repeat (first | (with_reducible first | exact HB.out | apply below_alloc | apply pw_below_drewN | apply below_drew1) | exact HB.out))) : w.heap.size ≤ gb353)); clear HB; have HB := n0_; have BK353 := n1_; have GW353 := n2_; have GE353 := n3_; clear n0_ n1_ n2_ n3_; clear hb hbox hg; have hcz10_0 : w9.cell? ⟨gb353, 0, none⟩ = some (.slice A0_0 l0_0.length c0_0) := (blk_cell BK353.out 0).trans rfl; have hcz10_1 : w9.cell? ⟨gb353, 1, none⟩ = some (.slice A0_1 l0_1.length c0_1) := (blk_cell BK353.out 1).trans rfl; have hfz10_0 := blk_frozen BK353.out 0; have hfz10_1 := blk_frozen BK353.out 1) | ((with_reducible refine gate_callee (f := 11) rfl ?_); refine goesL_ (some 12) rfl rfl Try.func11 (by kernel_rfl) rfl #[.agg #[.slice A0_0 l0_0.length c0_0, .slice A0_1 l0_1.length c0_1]] rfl (by (try simp only [List.map_toArray, List.map_cons, List.map_nil]); first | done | rfl | (simp only [List.length_drop, List.length_take]; rfl)) ?_; (with_reducible refine (selfstablaw01_fair.calls k _ _ l0_0 _ _ l0_1 true _ ?side1 ?side2 ?side3 ?side4 A4.out).mono ?_); (case side1 => repeat (first | exact (Kd.C_below HR0_0.out HB.out) | (with_reducible refine Kd.C_alloc ?_ _) | (with_reducible refine Kd.C_drewN ?_ _) | (with_reducible refine Kd.C_drew ?_))); (case side2 => exact HC0_0.out); (case side3 => repeat (first | exact (Kd.C_below HR0_1.out HB.out) | (with_reducible refine Kd.C_alloc ?_ _) | (with_reducible refine Kd.C_drewN ?_ _) | (with_reducible refine Kd.C_drew ?_))); (case side4 => exact HC0_1.out); rintro e w11 ⟨rfl, hb⟩; refine ⟨_, rfl, ?_⟩; have n0_ := Aside0.mk (blk_below (g := gb353) (o := .cells #[.slice A0_0 l0_0.length c0_0, .slice A0_1 l0_1.length c0_1] 25 (0, 0)) (by (with_reducible repeat (first | refine blk_drewN ?_ _ | refine blk_drew ?_ | refine blk_alloc ?_ _)); exact BK353.out) hb); have n1_ := Aside0.mk (below_step (by repeat (first | (with_reducible first | exact HB.out | apply below_alloc | apply pw_below_drewN | apply below_drew1 | refine below_set ?_ GE353.out) | exact HB.out)) hb); clear BK353; clear HB; have BK353 := n0_; have HB := n1_; clear n0_ n1_; (try clear hb); (try clear hb2); (try clear hk); (try clear hi); have hcz12_0 : w11.cell? ⟨gb353, 0, none⟩ = some (.slice A0_0 l0_0.length c0_0) := (blk_cell BK353.out 0).trans rfl; have hcz12_1 : w11.cell? ⟨gb353, 1, none⟩ = some (.slice A0_1 l0_1.length c0_1) := (blk_cell BK353.out 1).trans rfl; have hfz12_0 := blk_frozen BK353.out 0; have hfz12_1 := blk_frozen BK353.out 1) | ((with_reducible refine gate_callee (f := 29) rfl ?_); refine goesL_ (some 19) rfl rfl Try.func29 (by kernel_rfl) rfl #[.int .i64 (l0_1.length : Int)] rfl (by (try simp only [List.map_toArray, List.map_cons, List.map_nil]); first | done | rfl | (simp only [List.length_drop, List.length_take]; rfl)) ?_; (with_reducible refine (selfstabref01_All.calls k (l0_1.length : Int) t356 _ A6.out).mono ?_); rintro e w' ⟨rfl, ⟨nd, rfl⟩⟩; refine ⟨_, rfl, ?_⟩) | ((with_reducible refine gate_callee (f := 30) rfl ?_); refine goesL_ (some 23) rfl rfl Try.func30 (by kernel_rfl) rfl #[.agg #[.slice A0_0 l0_0.length c0_0, .slice A0_1 l0_1.length c0_1], .int .u32 (Go.bits .and .u32 a1 t356)] rfl (by (try simp only [List.map_toArray, List.map_cons, List.map_nil]); first | done | rfl | (simp only [List.length_drop, List.length_take]; rfl)) ?_; (with_reducible refine (graph_Independent.calls k _ _ l0_0 _ _ l0_1 (Go.bits .and .u32 a1 t356) t357 _ ?side1 ?side2 ?side3 ?side4 A7.out).mono ?_); (case side1 => repeat (first | exact (Kd.C_below HR0_0.out (by repeat (first | (with_reducible first | exact HB.out | apply below_alloc | apply pw_below_drewN | apply below_drew1 | refine below_set ?_ GE353.out) | exact HB.out))) | (with_reducible refine Kd.C_alloc ?_ _) | (with_reducible refine Kd.C_drewN ?_ _) | (with_reducible refine Kd.C_drew ?_))); (case side2 => exact HC0_0.out); (case side3 => repeat (first | exact (Kd.C_below HR0_1.out (by repeat (first | (with_reducible first | exact HB.out | apply below_alloc | apply pw_below_drewN | apply below_drew1 | refine below_set ?_ GE353.out) | exact HB.out))) | (with_reducible refine Kd.C_alloc ?_ _) | (with_reducible refine Kd.C_drewN ?_ _) | (with_reducible refine Kd.C_drew ?_))); (case side4 => exact HC0_1.out); rintro e w13 ⟨rfl, hb⟩; refine ⟨_, rfl, ?_⟩; have n0_ := Aside0.mk (blk_below (g := gb353) (o := .cells #[.slice A0_0 l0_0.length c0_0, .slice A0_1 l0_1.length c0_1] 25 (0, 0)) (by (with_reducible repeat (first | refine blk_drewN ?_ _ | refine blk_drew ?_ | refine blk_alloc ?_ _)); exact BK353.out) hb); have n1_ := Aside0.mk (below_step (by repeat (first | (with_reducible first | exact HB.out | apply below_alloc | apply pw_below_drewN | apply below_drew1 | refine below_set ?_ GE353.out) | exact HB.out)) hb); clear BK353; clear HB; have BK353 := n0_; have HB := n1_; clear n0_ n1_; (try clear hb); (try clear hb2); (try clear hk); (try clear hi)))
    (try simp only [Act.put, List.setIfInBounds_toArray, List.set_cons_zero, List.set_cons_succ])
    go_cut [32] (fun v32 wc => ∃ (kq : Nat) (x32_7 : Bool), v32 = .bool x32_7 ∧ Aside0 (selfstablaw01_GraphIndependentParts.j0 kq (Go.bits .and .u32 a1 t356) t357 x32_7 l0_0 l0_1 = some r) ∧ Aside0 (kq ≤ k) ∧ Aside0 (wc.heap[gb353]? = some (.cells #[(.slice A0_0 l0_0.length c0_0), (.slice A0_1 l0_1.length c0_1)] 25 (0, 0))) ∧ Aside0 (Below w.heap.size w wc))
    case first =>
      have H := HC8.out
      clear HC8
      by_cases c14 : t357 = true
      · subst c14
        have H1 : ((graph_Independent.f k l0_0 l0_1 (Go.bits .and .u32 (Go.bits .and .u32 a1 t356) a2)).bind fun t358 => (selfstablaw01_GraphIndependentParts.j0 k (Go.bits .and .u32 a1 t356) true (!t358) l0_0 l0_1)) = some r := by rw [if_pos rfl] at H; exact H
        clear H
        have H := H1
        clear H1
        replace H := Option.bind_eq_some_iff.mp H
        obtain ⟨t358, A150, H⟩ := H
        replace H : (selfstablaw01_GraphIndependentParts.j0 k (Go.bits .and .u32 a1 t356) true (!t358) l0_0 l0_1) = some r := H
        have A15 := Aside0.mk A150
        clear A150
        have H' := Aside0.mk H
        clear H
        have hcz16_0 : w13.cell? ⟨gb353, 0, none⟩ = some (.slice A0_0 l0_0.length c0_0) := (blk_cell BK353.out 0).trans rfl
        have hcz16_1 : w13.cell? ⟨gb353, 1, none⟩ = some (.slice A0_1 l0_1.length c0_1) := (blk_cell BK353.out 1).trans rfl
        have hfz16_0 := blk_frozen BK353.out 0
        have hfz16_1 := blk_frozen BK353.out 1
        go_wp2_with (first | (go_at_call 30; (with_reducible refine (graph_Independent.calls k _ _ l0_0 _ _ l0_1 (Go.bits .and .u32 (Go.bits .and .u32 a1 t356) a2) t358 _ ?side1 ?side2 ?side3 ?side4 A15.out).mono ?_); (case side1 => repeat (first | exact (Kd.C_below HR0_0.out HB.out) | (with_reducible refine Kd.C_alloc ?_ _) | (with_reducible refine Kd.C_drewN ?_ _) | (with_reducible refine Kd.C_drew ?_))); (case side2 => exact HC0_0.out); (case side3 => repeat (first | exact (Kd.C_below HR0_1.out HB.out) | (with_reducible refine Kd.C_alloc ?_ _) | (with_reducible refine Kd.C_drewN ?_ _) | (with_reducible refine Kd.C_drew ?_))); (case side4 => exact HC0_1.out); rintro e w17 ⟨rfl, hb⟩; have n0_ := Aside0.mk (blk_below (g := gb353) (o := .cells #[.slice A0_0 l0_0.length c0_0, .slice A0_1 l0_1.length c0_1] 25 (0, 0)) (by (with_reducible repeat (first | refine blk_drewN ?_ _ | refine blk_drew ?_ | refine blk_alloc ?_ _)); exact BK353.out) hb); have n1_ := Aside0.mk (below_step (by repeat (first | (with_reducible first | exact HB.out | apply below_alloc | apply pw_below_drewN | apply below_drew1 | refine below_set ?_ GE353.out) | exact HB.out)) hb); clear BK353; clear HB; have BK353 := n0_; have HB := n1_; clear n0_ n1_; (try clear hb); (try clear hb2); (try clear hk); (try clear hi)))
        go_meet
        case rel => exact ⟨_, (!t358), (by first | rfl | (simp; done) | (simp [*]; done)), H', ⟨by first | omega | exact Nat.le_refl _⟩, ⟨by (with_reducible repeat (first | refine blk_drewN ?_ _ | refine blk_drew ?_ | refine blk_alloc ?_ _)); exact BK353.out⟩, ⟨by repeat (first | (with_reducible first | exact HB.out | apply below_alloc | apply pw_below_drewN | apply below_drew1 | refine below_set ?_ GE353.out) | exact HB.out)⟩⟩
      · replace c14 := Bool.eq_false_iff.mpr c14
        subst c14
        have H1 : (selfstablaw01_GraphIndependentParts.j0 k (Go.bits .and .u32 a1 t356) false false l0_0 l0_1) = some r := by rw [if_neg (show ¬ (false = true) by decide)] at H; exact H
        clear H
        have H := H1
        clear H1
        have H' := Aside0.mk H
        clear H
        go_wp2
        go_meet
        case rel => exact ⟨_, (false), (by first | rfl | (simp; done) | (simp [*]; done)), H', ⟨by first | omega | exact Nat.le_refl _⟩, ⟨by (with_reducible repeat (first | refine blk_drewN ?_ _ | refine blk_drew ?_ | refine blk_alloc ?_ _)); exact BK353.out⟩, ⟨by repeat (first | (with_reducible first | exact HB.out | apply below_alloc | apply pw_below_drewN | apply below_drew1 | refine below_set ?_ GE353.out) | exact HB.out)⟩⟩
    case rest =>
      clear HC8
      try clear c1
      try clear c2
      try clear p2
      try clear c3
      try clear c5
      try clear c9
      try clear c11
      try clear c14
      try clear hcz10_0
      try clear hcz10_1
      try clear hcz12_0
      try clear hcz12_1
      try clear hcz16_0
      try clear hcz16_1
      try clear hfz10_0
      try clear hfz10_1
      try clear hfz12_0
      try clear hfz12_1
      try clear hfz16_0
      try clear hfz16_1
      obtain ⟨kq, x32_7, rfl, HA, HJ7, BK353, HB⟩ := hcut
      cases kq with
      | zero => exact absurd HA.out (by simp [selfstablaw01_GraphIndependentParts.j0])
      | succ kj7 =>
        have H := HA.out
        clear HA
        simp only [selfstablaw01_GraphIndependentParts.j0] at H
        by_cases c18 : x32_7 = true
        · subst c18
          have H1 : (none) = some r := by rw [if_pos rfl] at H; exact H
          clear H
          have H := H1
          clear H1
          exact absurd H (by simp)
        · replace c18 := Bool.eq_false_iff.mpr c18
          subst c18
          have H1 : (selfstablaw01_GraphIndependentParts.l0 kj7 (Go.bits .and .u32 a1 t356) t357 false 0 l0_0 l0_1) = some r := by rw [if_neg (show ¬ (false = true) by decide)] at H; exact H
          clear H
          have H := H1
          clear H1
          have H' := Aside0.mk H
          clear H
          go_wp2
          go_loopg [8, 9] kj7 (fun kq v8 v9 w' => ∃ (x8_2 : Bool) (x9_2 : Int), v8 = .bool x8_2 ∧ v9 = .int .i64 x9_2 ∧ Aside0 (selfstablaw01_GraphIndependentParts.l0 kq (Go.bits .and .u32 a1 t356) t357 x8_2 x9_2 l0_0 l0_1 = some r) ∧ Aside0 (kq ≤ kj7) ∧ Aside0 (w'.heap[gb353]? = some (.cells #[(.slice A0_0 l0_0.length c0_0), (.slice A0_1 l0_1.length c0_1)] 25 (0, 0))) ∧ Aside0 (Below w.heap.size w w'))
          case atStart => exact ⟨(false), (0), (by first | rfl | (simp; done) | (simp [*]; done)), (by first | rfl | (simp; done) | (simp [*]; done)), H', ⟨Nat.le_refl _⟩, ⟨by (with_reducible repeat (first | refine blk_drewN ?_ _ | refine blk_drew ?_ | refine blk_alloc ?_ _)); exact BK353.out⟩, ⟨by repeat (first | (with_reducible first | exact HB.out | apply below_alloc | apply pw_below_drewN | apply below_drew1 | refine below_set ?_ GE353.out) | exact HB.out)⟩⟩
          case round =>
            clear H'
            try clear c1
            try clear c2
            try clear p2
            try clear c3
            try clear c5
            try clear c9
            try clear c11
            try clear c14
            try clear c18
            try clear hcz10_0
            try clear hcz10_1
            try clear hcz12_0
            try clear hcz12_1
            try clear hcz16_0
            try clear hcz16_1
            try clear hfz10_0
            try clear hfz10_1
            try clear hfz12_0
            try clear hfz12_1
            try clear hfz16_0
            try clear hfz16_1
            try clear p2
            obtain ⟨x8_2, x9_2, rfl, rfl, HA, HK2, BK353, HB⟩ := hrel
            cases gk with
            | zero => exact absurd HA.out (by simp [selfstablaw01_GraphIndependentParts.l0])
            | succ k2 =>
              have H := HA.out
              clear HA
              simp only [selfstablaw01_GraphIndependentParts.l0] at H
              by_cases c19 : x9_2 < (l0_1.length : Int)
              · rw [if_pos c19] at H
                have c19b0 : decide (x9_2 < (l0_1.length : Int)) = true := decide_eq_true c19
                clear c19
                have H' := Aside0.mk H
                clear H
                have hcz20_0 : wr.cell? ⟨gb353, 0, none⟩ = some (.slice A0_0 l0_0.length c0_0) := (blk_cell BK353.out 0).trans rfl
                have hcz20_1 : wr.cell? ⟨gb353, 1, none⟩ = some (.slice A0_1 l0_1.length c0_1) := (blk_cell BK353.out 1).trans rfl
                have hfz20_0 := blk_frozen BK353.out 0
                have hfz20_1 := blk_frozen BK353.out 1
                go_wp2
                go_loopg [8, 10] k2 (fun kq v8 v10 w' => ∃ (x8_3 : Bool) (x10_3 : Int), v8 = .bool x8_3 ∧ v10 = .int .i64 x10_3 ∧ Aside0 (selfstablaw01_GraphIndependentParts.l1 kq (Go.bits .and .u32 a1 t356) t357 x8_3 x9_2 x10_3 l0_0 l0_1 = some r) ∧ Aside0 (kq ≤ k2) ∧ Aside0 (w'.heap[gb353]? = some (.cells #[(.slice A0_0 l0_0.length c0_0), (.slice A0_1 l0_1.length c0_1)] 25 (0, 0))) ∧ Aside0 (Below w.heap.size w w'))
                case atStart => exact ⟨(x8_2), (0), (by first | rfl | (simp; done) | (simp [*]; done)), (by first | rfl | (simp; done) | (simp [*]; done)), H', ⟨Nat.le_refl _⟩, ⟨by (with_reducible repeat (first | refine blk_drewN ?_ _ | refine blk_drew ?_ | refine blk_alloc ?_ _)); exact BK353.out⟩, ⟨by repeat (first | (with_reducible first | exact HB.out | apply below_alloc | apply pw_below_drewN | apply below_drew1 | refine below_set ?_ GE353.out) | exact HB.out)⟩⟩
                case round =>
                  clear H'
                  try clear c1
                  try clear c2
                  try clear p2
                  try clear c3
                  try clear c5
                  try clear c9
                  try clear c11
                  try clear c14
                  try clear c18
                  try clear c19
                  try clear c19b0
                  try clear hcz10_0
                  try clear hcz10_1
                  try clear hcz12_0
                  try clear hcz12_1
                  try clear hcz16_0
                  try clear hcz16_1
                  try clear hcz20_0
                  try clear hcz20_1
                  try clear hfz10_0
                  try clear hfz10_1
                  try clear hfz12_0
                  try clear hfz12_1
                  try clear hfz16_0
                  try clear hfz16_1
                  try clear hfz20_0
                  try clear hfz20_1
                  try clear p2
                  obtain ⟨x8_3, x10_3, rfl, rfl, HA, HK3, BK353, HB⟩ := hrel
                  cases gk with
                  | zero => exact absurd HA.out (by simp [selfstablaw01_GraphIndependentParts.l1])
                  | succ k3 =>
                    have H := HA.out
                    clear HA
                    simp only [selfstablaw01_GraphIndependentParts.l1] at H
                    by_cases c21 : 0 ≤ x9_2
                    · rw [if_pos c21] at H
                      have c21b0 : decide (0 ≤ x9_2) = true := decide_eq_true c21
                      clear c21
                      by_cases c22 : x9_2 < (l0_1.length : Int)
                      · rw [if_pos c22] at H
                        have c22b0 : decide (x9_2 < (l0_1.length : Int)) = true := decide_eq_true c22
                        clear c22
                        by_cases c23 : x10_3 < ((rd_L2 l0_1 x9_2).length : Int)
                        · rw [if_pos c23] at H
                          have c23b0 : decide (x10_3 < ((rd_L2 l0_1 x9_2).length : Int)) = true := decide_eq_true c23
                          clear c23
                          by_cases c24 : x8_3 = true
                          · subst c24
                            have H1 : (selfstablaw01_GraphIndependentParts.l1 k3 (Go.bits .and .u32 a1 t356) t357 true x9_2 (wrap64 (x10_3 + 1)) l0_0 l0_1) = some r := by rw [if_pos rfl] at H; exact H
                            clear H
                            have H := H1
                            clear H1
                            have H' := Aside0.mk H
                            clear H
                            have hcz25_0 : wr.cell? ⟨gb353, 0, none⟩ = some (.slice A0_0 l0_0.length c0_0) := (blk_cell BK353.out 0).trans rfl
                            have hcz25_1 : wr.cell? ⟨gb353, 1, none⟩ = some (.slice A0_1 l0_1.length c0_1) := (blk_cell BK353.out 1).trans rfl
                            have hfz25_0 := blk_frozen BK353.out 0
                            have hfz25_1 := blk_frozen BK353.out 1
                            have p360 : 0 ≤ (x9_2 : Int) := of_decide_eq_true (by first | (with_reducible assumption) | assumption)
                            have q360 : x9_2 < (l0_1.length : Int) := of_decide_eq_true (by first | (with_reducible assumption) | assumption)
                            obtain ⟨ad360, A360_0, c360_0, e360, hx360_0, hl360_0, hi360_0⟩ := at_L2 HR0_1.out x9_2 p360 q360
                            cases e360
                            replace hx360_0 := (HB.out.cell (World.block_lt_of_cell? w _ hx360_0)).trans hx360_0
                            have HR360_0 := Aside0.mk hi360_0
                            have HC360_0 := Aside0.mk hl360_0
                            clear hi360_0 hl360_0
                            replace p360 := eq_true p360
                            replace q360 := eq_true q360
                            go_wp2
                            go_roundg k3
                            case measure => have := HJ7.out; have := HK2.out; have := HK3.out; omega
                            case rel => exact ⟨(true), (wrap64 (x10_3 + 1)), (by first | rfl | (simp; done) | (simp [*]; done)), (by first | rfl | (simp; done) | (simp [*]; done)), H', ⟨by have := HJ7.out; have := HK2.out; have := HK3.out; omega⟩, ⟨by (with_reducible repeat (first | refine blk_drewN ?_ _ | refine blk_drew ?_ | refine blk_alloc ?_ _)); exact BK353.out⟩, ⟨by repeat (first | (with_reducible first | exact HB.out | apply below_alloc | apply pw_below_drewN | apply below_drew1 | refine below_set ?_ GE353.out) | exact HB.out)⟩⟩
                          · replace c24 := Bool.eq_false_iff.mpr c24
                            subst c24
                            have H1 : ((selfstabref01_Has.f (Go.bits .and .u32 a1 t356) x9_2).bind fun t361 => (if t361 = true then (if 0 ≤ x10_3 then ((selfstabref01_Has.f (Go.bits .and .u32 a1 t356) ((rd_T32 (rd_L2 l0_1 x9_2) x10_3).f0)).bind fun t364 => (selfstablaw01_GraphIndependentParts.l1 k3 (Go.bits .and .u32 a1 t356) t357 t364 x9_2 (wrap64 (x10_3 + 1)) l0_0 l0_1)) else (none)) else (selfstablaw01_GraphIndependentParts.l1 k3 (Go.bits .and .u32 a1 t356) t357 false x9_2 (wrap64 (x10_3 + 1)) l0_0 l0_1))) = some r := by rw [if_neg (show ¬ (false = true) by decide)] at H; exact H
                            clear H
                            have H := H1
                            clear H1
                            replace H := Option.bind_eq_some_iff.mp H
                            obtain ⟨t361, A260, H⟩ := H
                            replace H : (if t361 = true then (if 0 ≤ x10_3 then ((selfstabref01_Has.f (Go.bits .and .u32 a1 t356) ((rd_T32 (rd_L2 l0_1 x9_2) x10_3).f0)).bind fun t364 => (selfstablaw01_GraphIndependentParts.l1 k3 (Go.bits .and .u32 a1 t356) t357 t364 x9_2 (wrap64 (x10_3 + 1)) l0_0 l0_1)) else (none)) else (selfstablaw01_GraphIndependentParts.l1 k3 (Go.bits .and .u32 a1 t356) t357 false x9_2 (wrap64 (x10_3 + 1)) l0_0 l0_1)) = some r := H
                            have A26 := Aside0.mk A260
                            clear A260
                            by_cases c27 : t361 = true
                            · subst c27
                              have H1 : (if 0 ≤ x10_3 then ((selfstabref01_Has.f (Go.bits .and .u32 a1 t356) ((rd_T32 (rd_L2 l0_1 x9_2) x10_3).f0)).bind fun t364 => (selfstablaw01_GraphIndependentParts.l1 k3 (Go.bits .and .u32 a1 t356) t357 t364 x9_2 (wrap64 (x10_3 + 1)) l0_0 l0_1)) else (none)) = some r := by rw [if_pos rfl] at H; exact H
                              clear H
                              have H := H1
                              clear H1
                              by_cases c28 : 0 ≤ x10_3
                              · rw [if_pos c28] at H
                                have c28b0 : decide (0 ≤ x10_3) = true := decide_eq_true c28
                                clear c28
                                replace H := Option.bind_eq_some_iff.mp H
                                obtain ⟨t364, A290, H⟩ := H
                                replace H : (selfstablaw01_GraphIndependentParts.l1 k3 (Go.bits .and .u32 a1 t356) t357 t364 x9_2 (wrap64 (x10_3 + 1)) l0_0 l0_1) = some r := H
                                have A29 := Aside0.mk A290
                                clear A290
                                have H' := Aside0.mk H
                                clear H
                                have hcz30_0 : wr.cell? ⟨gb353, 0, none⟩ = some (.slice A0_0 l0_0.length c0_0) := (blk_cell BK353.out 0).trans rfl
                                have hcz30_1 : wr.cell? ⟨gb353, 1, none⟩ = some (.slice A0_1 l0_1.length c0_1) := (blk_cell BK353.out 1).trans rfl
                                have hfz30_0 := blk_frozen BK353.out 0
                                have hfz30_1 := blk_frozen BK353.out 1
                                have p360 : 0 ≤ (x9_2 : Int) := of_decide_eq_true (by first | (with_reducible assumption) | assumption)
                                have q360 : x9_2 < (l0_1.length : Int) := of_decide_eq_true (by first | (with_reducible assumption) | assumption)
                                obtain ⟨ad360, A360_0, c360_0, e360, hx360_0, hl360_0, hi360_0⟩ := at_L2 HR0_1.out x9_2 p360 q360
                                cases e360
                                replace hx360_0 := (HB.out.cell (World.block_lt_of_cell? w _ hx360_0)).trans hx360_0
                                have HR360_0 := Aside0.mk hi360_0
                                have HC360_0 := Aside0.mk hl360_0
                                clear hi360_0 hl360_0
                                replace p360 := eq_true p360
                                replace q360 := eq_true q360
                                go_wp2_with (first | (go_at_call 31; (with_reducible refine (selfstabref01_Has.calls (Go.bits .and .u32 a1 t356) x9_2 true _ A26.out).mono ?_); rintro e w' ⟨rfl, ⟨nd, rfl⟩⟩; have p362 : 0 ≤ (x9_2 : Int) := of_decide_eq_true (by first | (with_reducible assumption) | assumption); have q362 : x9_2 < (l0_1.length : Int) := of_decide_eq_true (by first | (with_reducible assumption) | assumption); obtain ⟨ad362, A362_0, c362_0, e362, hx362_0, hl362_0, hi362_0⟩ := at_L2 HR0_1.out x9_2 p362 q362; obtain rfl : ad360 = ad362 := (by injection e362); replace hx362_0 := (HB.out.cell (World.block_lt_of_cell? w _ hx362_0)).trans hx362_0; have HR362_0 := Aside0.mk hi362_0; have HC362_0 := Aside0.mk hl362_0; clear hi362_0 hl362_0; replace p362 := eq_true p362; replace q362 := eq_true q362; have ea_ := Option.some.inj (hx360_0.symm.trans hx362_0); injection ea_ with ea_ en_ ec_; subst ea_; subst ec_; clear en_; have p363 : 0 ≤ (x10_3 : Int) := of_decide_eq_true (by first | (with_reducible assumption) | assumption); have q363 : x10_3 < ((rd_L2 l0_1 x9_2).length : Int) := of_decide_eq_true (by first | (with_reducible assumption) | assumption); obtain ⟨ad363, e363, hx363_0, hx363_1⟩ := at_T32 HR362_0.out x10_3 p363 q363; cases e363; replace hx363_0 := (HB.out.cell (World.block_lt_of_cell? w _ hx363_0)).trans hx363_0; replace hx363_1 := (HB.out.cell (World.block_lt_of_cell? w _ hx363_1)).trans hx363_1; replace p363 := eq_true p363; replace q363 := eq_true q363) | (go_at_call 31; (with_reducible refine (selfstabref01_Has.calls (Go.bits .and .u32 a1 t356) ((rd_T32 (rd_L2 l0_1 x9_2) x10_3).f0) t364 _ A29.out).mono ?_); rintro e w' ⟨rfl, ⟨nd, rfl⟩⟩))
                                go_roundg k3
                                case measure => have := HJ7.out; have := HK2.out; have := HK3.out; omega
                                case rel => exact ⟨(t364), (wrap64 (x10_3 + 1)), (by first | rfl | (simp; done) | (simp [*]; done)), (by first | rfl | (simp; done) | (simp [*]; done)), H', ⟨by have := HJ7.out; have := HK2.out; have := HK3.out; omega⟩, ⟨by (with_reducible repeat (first | refine blk_drewN ?_ _ | refine blk_drew ?_ | refine blk_alloc ?_ _)); exact BK353.out⟩, ⟨by repeat (first | (with_reducible first | exact HB.out | apply below_alloc | apply pw_below_drewN | apply below_drew1 | refine below_set ?_ GE353.out) | exact HB.out)⟩⟩
                              · rw [if_neg c28] at H
                                exact absurd H (by simp)
                            · replace c27 := Bool.eq_false_iff.mpr c27
                              subst c27
                              have H1 : (selfstablaw01_GraphIndependentParts.l1 k3 (Go.bits .and .u32 a1 t356) t357 false x9_2 (wrap64 (x10_3 + 1)) l0_0 l0_1) = some r := by rw [if_neg (show ¬ (false = true) by decide)] at H; exact H
                              clear H
                              have H := H1
                              clear H1
                              have H' := Aside0.mk H
                              clear H
                              have hcz31_0 : wr.cell? ⟨gb353, 0, none⟩ = some (.slice A0_0 l0_0.length c0_0) := (blk_cell BK353.out 0).trans rfl
                              have hcz31_1 : wr.cell? ⟨gb353, 1, none⟩ = some (.slice A0_1 l0_1.length c0_1) := (blk_cell BK353.out 1).trans rfl
                              have hfz31_0 := blk_frozen BK353.out 0
                              have hfz31_1 := blk_frozen BK353.out 1
                              have p360 : 0 ≤ (x9_2 : Int) := of_decide_eq_true (by first | (with_reducible assumption) | assumption)
                              have q360 : x9_2 < (l0_1.length : Int) := of_decide_eq_true (by first | (with_reducible assumption) | assumption)
                              obtain ⟨ad360, A360_0, c360_0, e360, hx360_0, hl360_0, hi360_0⟩ := at_L2 HR0_1.out x9_2 p360 q360
                              cases e360
                              replace hx360_0 := (HB.out.cell (World.block_lt_of_cell? w _ hx360_0)).trans hx360_0
                              have HR360_0 := Aside0.mk hi360_0
                              have HC360_0 := Aside0.mk hl360_0
                              clear hi360_0 hl360_0
                              replace p360 := eq_true p360
                              replace q360 := eq_true q360
                              go_wp2_with (first | (go_at_call 31; (with_reducible refine (selfstabref01_Has.calls (Go.bits .and .u32 a1 t356) x9_2 false _ A26.out).mono ?_); rintro e w' ⟨rfl, ⟨nd, rfl⟩⟩))
                              go_roundg k3
                              case measure => have := HJ7.out; have := HK2.out; have := HK3.out; omega
                              case rel => exact ⟨(false), (wrap64 (x10_3 + 1)), (by first | rfl | (simp; done) | (simp [*]; done)), (by first | rfl | (simp; done) | (simp [*]; done)), H', ⟨by have := HJ7.out; have := HK2.out; have := HK3.out; omega⟩, ⟨by (with_reducible repeat (first | refine blk_drewN ?_ _ | refine blk_drew ?_ | refine blk_alloc ?_ _)); exact BK353.out⟩, ⟨by repeat (first | (with_reducible first | exact HB.out | apply below_alloc | apply pw_below_drewN | apply below_drew1 | refine below_set ?_ GE353.out) | exact HB.out)⟩⟩
                        · rw [if_neg c23] at H
                          have c23b0 : decide (x10_3 < ((rd_L2 l0_1 x9_2).length : Int)) = false := decide_eq_false c23
                          clear c23
                          have H' := Aside0.mk H
                          clear H
                          have hcz32_0 : wr.cell? ⟨gb353, 0, none⟩ = some (.slice A0_0 l0_0.length c0_0) := (blk_cell BK353.out 0).trans rfl
                          have hcz32_1 : wr.cell? ⟨gb353, 1, none⟩ = some (.slice A0_1 l0_1.length c0_1) := (blk_cell BK353.out 1).trans rfl
                          have hfz32_0 := blk_frozen BK353.out 0
                          have hfz32_1 := blk_frozen BK353.out 1
                          have p360 : 0 ≤ (x9_2 : Int) := of_decide_eq_true (by first | (with_reducible assumption) | assumption)
                          have q360 : x9_2 < (l0_1.length : Int) := of_decide_eq_true (by first | (with_reducible assumption) | assumption)
                          obtain ⟨ad360, A360_0, c360_0, e360, hx360_0, hl360_0, hi360_0⟩ := at_L2 HR0_1.out x9_2 p360 q360
                          cases e360
                          replace hx360_0 := (HB.out.cell (World.block_lt_of_cell? w _ hx360_0)).trans hx360_0
                          have HR360_0 := Aside0.mk hi360_0
                          have HC360_0 := Aside0.mk hl360_0
                          clear hi360_0 hl360_0
                          replace p360 := eq_true p360
                          replace q360 := eq_true q360
                          go_wp2
                          go_roundg k3
                          case measure => have := HJ7.out; have := HK2.out; have := HK3.out; omega
                          case rel => exact ⟨(x8_3), (wrap64 (x9_2 + 1)), (by first | rfl | (simp; done) | (simp [*]; done)), (by first | rfl | (simp; done) | (simp [*]; done)), H', ⟨by have := HJ7.out; have := HK2.out; have := HK3.out; omega⟩, ⟨by (with_reducible repeat (first | refine blk_drewN ?_ _ | refine blk_drew ?_ | refine blk_alloc ?_ _)); exact BK353.out⟩, ⟨by repeat (first | (with_reducible first | exact HB.out | apply below_alloc | apply pw_below_drewN | apply below_drew1 | refine below_set ?_ GE353.out) | exact HB.out)⟩⟩
                      · rw [if_neg c22] at H
                        exact absurd H (by simp)
                    · rw [if_neg c21] at H
                      exact absurd H (by simp)
              · rw [if_neg c19] at H
                have c19b0 : decide (x9_2 < (l0_1.length : Int)) = false := decide_eq_false c19
                clear c19
                replace H := Option.bind_eq_some_iff.mp H
                obtain ⟨t359, A330, H⟩ := H
                replace H : (if t359 = true then (some (t357 == (!x8_2))) else (none)) = some r := H
                have A33 := Aside0.mk A330
                clear A330
                by_cases c34 : t359 = true
                · subst c34
                  have H1 : (some (t357 == (!x8_2))) = some r := by rw [if_pos rfl] at H; exact H
                  clear H
                  have H := H1
                  clear H1
                  obtain rfl := Option.some.inj H
                  have hcz35_0 : wr.cell? ⟨gb353, 0, none⟩ = some (.slice A0_0 l0_0.length c0_0) := (blk_cell BK353.out 0).trans rfl
                  have hcz35_1 : wr.cell? ⟨gb353, 1, none⟩ = some (.slice A0_1 l0_1.length c0_1) := (blk_cell BK353.out 1).trans rfl
                  have hfz35_0 := blk_frozen BK353.out 0
                  have hfz35_1 := blk_frozen BK353.out 1
                  go_wp2_with (first | ((with_reducible refine gate_callee (f := 12) rfl ?_); refine goesL_ (some 69) rfl rfl Try.func12 (by kernel_rfl) rfl #[] rfl (by (try simp only [List.map_toArray, List.map_cons, List.map_nil]); first | done | rfl | (simp only [List.length_drop, List.length_take]; rfl)) ?_; (with_reducible refine (selfstablaw01_awake.calls k2  true _ A33.out).mono ?_); rintro e w36 ⟨rfl, hb⟩; refine ⟨_, rfl, ?_⟩; have n0_ := Aside0.mk (blk_below (g := gb353) (o := .cells #[.slice A0_0 l0_0.length c0_0, .slice A0_1 l0_1.length c0_1] 25 (0, 0)) (by (with_reducible repeat (first | refine blk_drewN ?_ _ | refine blk_drew ?_ | refine blk_alloc ?_ _)); exact BK353.out) hb); have n1_ := Aside0.mk (below_step (by repeat (first | (with_reducible first | exact HB.out | apply below_alloc | apply pw_below_drewN | apply below_drew1 | refine below_set ?_ GE353.out) | exact HB.out)) hb); clear BK353; clear HB; have BK353 := n0_; have HB := n1_; clear n0_ n1_; (try clear hb); (try clear hb2); (try clear hk); (try clear hi)))
                  go_ret
                  exact ⟨by first | rfl | (simp [errW_none, errW_some] <;> rfl) | (simp [*, errW_none, errW_some] <;> rfl), by repeat (first | (with_reducible first | exact HB.out | apply below_alloc | apply pw_below_drewN | apply below_drew1 | refine below_set ?_ GE353.out) | exact HB.out)⟩
                · replace c34 := Bool.eq_false_iff.mpr c34
                  subst c34
                  have H1 : (none) = some r := by rw [if_neg (show ¬ (false = true) by decide)] at H; exact H
                  clear H
                  have H := H1
                  clear H1
                  exact absurd H (by simp)
  · replace c5 := Bool.eq_false_iff.mpr c5
    subst c5
    have H1 : ((selfstablaw01_awake.f k).bind fun t355 => (some t355)) = some r := by rw [if_neg (show ¬ (false = true) by decide)] at H; exact H
    clear H
    have H := H1
    clear H1
    replace H := Option.bind_eq_some_iff.mp H
    obtain ⟨t355, A370, H⟩ := H
    replace H : (some t355) = some r := H
    have A37 := Aside0.mk A370
    clear A370
    obtain rfl := Option.some.inj H
    go_enter Try.func9, Try.ntmps9
    go_wp2_with (first | ((with_reducible refine gate_dst (N := 3) rfl ?_); refine box_event ?hg (N := 3) ?hd (cs := #[.slice A0_0 l0_0.length c0_0, .slice A0_1 l0_1.length c0_1]) (t := 25) ?hr ?_; (case hd => rfl); (case hg => rfl); (case hr => first | (go_simp; done) | (go_simp; rfl)); intro gb353 hg w38 hbox hb; have n0_ := Aside0.mk (below_step (by repeat (first | (with_reducible first | exact HB.out | apply below_alloc | apply pw_below_drewN | apply below_drew1) | exact HB.out)) hb); have n1_ := Aside0.mk (hbox); have n2_ := Aside0.mk ((by rw [hg]; exact (below_size (by repeat (first | (with_reducible first | exact HB.out | apply below_alloc | apply pw_below_drewN | apply below_drew1) | exact HB.out))) : w.heap.size ≤ gb353)); have n3_ := Aside0.mk ((by rw [hg]; exact (below_size (by repeat (first | (with_reducible first | exact HB.out | apply below_alloc | apply pw_below_drewN | apply below_drew1) | exact HB.out))) : w.heap.size ≤ gb353)); clear HB; have HB := n0_; have BK353 := n1_; have GW353 := n2_; have GE353 := n3_; clear n0_ n1_ n2_ n3_; clear hb hbox hg; have hcz39_0 : w38.cell? ⟨gb353, 0, none⟩ = some (.slice A0_0 l0_0.length c0_0) := (blk_cell BK353.out 0).trans rfl; have hcz39_1 : w38.cell? ⟨gb353, 1, none⟩ = some (.slice A0_1 l0_1.length c0_1) := (blk_cell BK353.out 1).trans rfl; have hfz39_0 := blk_frozen BK353.out 0; have hfz39_1 := blk_frozen BK353.out 1) | ((with_reducible refine gate_callee (f := 11) rfl ?_); refine goesL_ (some 12) rfl rfl Try.func11 (by kernel_rfl) rfl #[.agg #[.slice A0_0 l0_0.length c0_0, .slice A0_1 l0_1.length c0_1]] rfl (by (try simp only [List.map_toArray, List.map_cons, List.map_nil]); first | done | rfl | (simp only [List.length_drop, List.length_take]; rfl)) ?_; (with_reducible refine (selfstablaw01_fair.calls k _ _ l0_0 _ _ l0_1 false _ ?side1 ?side2 ?side3 ?side4 A4.out).mono ?_); (case side1 => repeat (first | exact (Kd.C_below HR0_0.out HB.out) | (with_reducible refine Kd.C_alloc ?_ _) | (with_reducible refine Kd.C_drewN ?_ _) | (with_reducible refine Kd.C_drew ?_))); (case side2 => exact HC0_0.out); (case side3 => repeat (first | exact (Kd.C_below HR0_1.out HB.out) | (with_reducible refine Kd.C_alloc ?_ _) | (with_reducible refine Kd.C_drewN ?_ _) | (with_reducible refine Kd.C_drew ?_))); (case side4 => exact HC0_1.out); rintro e w40 ⟨rfl, hb⟩; refine ⟨_, rfl, ?_⟩; have n0_ := Aside0.mk (blk_below (g := gb353) (o := .cells #[.slice A0_0 l0_0.length c0_0, .slice A0_1 l0_1.length c0_1] 25 (0, 0)) (by (with_reducible repeat (first | refine blk_drewN ?_ _ | refine blk_drew ?_ | refine blk_alloc ?_ _)); exact BK353.out) hb); have n1_ := Aside0.mk (below_step (by repeat (first | (with_reducible first | exact HB.out | apply below_alloc | apply pw_below_drewN | apply below_drew1 | refine below_set ?_ GE353.out) | exact HB.out)) hb); clear BK353; clear HB; have BK353 := n0_; have HB := n1_; clear n0_ n1_; (try clear hb); (try clear hb2); (try clear hk); (try clear hi)) | ((with_reducible refine gate_callee (f := 12) rfl ?_); refine goesL_ (some 14) rfl rfl Try.func12 (by kernel_rfl) rfl #[] rfl (by (try simp only [List.map_toArray, List.map_cons, List.map_nil]); first | done | rfl | (simp only [List.length_drop, List.length_take]; rfl)) ?_; (with_reducible refine (selfstablaw01_awake.calls k  t355 _ A37.out).mono ?_); rintro e w41 ⟨rfl, hb⟩; refine ⟨_, rfl, ?_⟩; have n0_ := Aside0.mk (blk_below (g := gb353) (o := .cells #[.slice A0_0 l0_0.length c0_0, .slice A0_1 l0_1.length c0_1] 25 (0, 0)) (by (with_reducible repeat (first | refine blk_drewN ?_ _ | refine blk_drew ?_ | refine blk_alloc ?_ _)); exact BK353.out) hb); have n1_ := Aside0.mk (below_step (by repeat (first | (with_reducible first | exact HB.out | apply below_alloc | apply pw_below_drewN | apply below_drew1 | refine below_set ?_ GE353.out) | exact HB.out)) hb); clear BK353; clear HB; have BK353 := n0_; have HB := n1_; clear n0_ n1_; (try clear hb); (try clear hb2); (try clear hk); (try clear hi)))
    go_ret
    exact ⟨by first | rfl | (simp [errW_none, errW_some] <;> rfl) | (simp [*, errW_none, errW_some] <;> rfl), by repeat (first | (with_reducible first | exact HB.out | apply below_alloc | apply pw_below_drewN | apply below_drew1 | refine below_set ?_ GE353.out) | exact HB.out)⟩

end Go.Proofs.Ytbpolpagcaacoaa.P
