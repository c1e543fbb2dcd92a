-- By a program of this session (wip/tools/myprint.py over the kit's printer). Not trusted: Lean checks it.
import Derived.Test.YtbpolpagcaacoaaP0
import Derived.Test.YtbpolpagcaacoaaP1
import Derived.Test.YtbpolpagcaacoaaP2
namespace Go.Proofs.Ytbpolpagcaacoaa.P
open Go.RowKit Go.Proofs.YtbpolpagcaacoaaW.PrintWords Go.Proofs.YtbpolpagcaacoaaW.PrintLast Go.Proofs.YtbpolpagcaacoaaW.PrintMore
attribute [local go_sem] max2_int min2_int max_two min_two max_three min_three max_four min_four   -- for this text's walks alone
set_option linter.unusedVariables false
set_option linter.unusedSimpArgs false

/-! ### selfstabref01_Distances: function 22 -/
mutual
def selfstabref01_Distances.j0 : Nat → Int → Bool → List Int → List (List (S32)) → Option (List Int)
  | 0, _, _, _, _ => none
  | k + 1, x1, x22, x271000, x271001 => if x22 = true then (some ([] : List Int)) else (selfstabref01_Distances.l0 k x1 (x271001.length : Int) ([] : List Int) 0 x271000 x271001)
def selfstabref01_Distances.l0 : Nat → Int → Int → List Int → Int → List Int → List (List (S32)) → Option (List Int)
  | 0, _, _, _, _, _, _ => none
  | k + 1, x1, x5, x6, x7, x271000, x271001 => if x7 < x5 then (if x6.length < 17592186044416 then (selfstabref01_Distances.l0 k x1 x5 (x6 ++ [(-1)]) (wrap64 (x7 + 1)) x271000 x271001) else (none)) else (if 0 ≤ x1 then (if x1 < (x6.length : Int) then (selfstabref01_Distances.l1 k x5 (x6.set (x1 : Int).toNat 0) 1 x271000 x271001) else (none)) else (none))
def selfstabref01_Distances.l1 : Nat → Int → List Int → Int → List Int → List (List (S32)) → Option (List Int)
  | 0, _, _, _, _, _ => none
  | k + 1, x5, x6, x8, x271000, x271001 => if x8 < x5 then (selfstabref01_Distances.l2 k x5 x6 x8 0 x271000 x271001) else (some x6)
def selfstabref01_Distances.l2 : Nat → Int → List Int → Int → Int → List Int → List (List (S32)) → Option (List Int)
  | 0, _, _, _, _, _, _ => none
  | k + 1, x5, x6, x8, x9, x271000, x271001 => if x9 < x5 then (selfstabref01_Distances.l3 k x5 x6 x8 x9 0 x271000 x271001) else (selfstabref01_Distances.l1 k x5 x6 (wrap64 (x8 + 1)) x271000 x271001)
def selfstabref01_Distances.l3 : Nat → Int → List Int → Int → Int → Int → List Int → List (List (S32)) → Option (List Int)
  | 0, _, _, _, _, _, _, _ => none
  | k + 1, x5, x6, x8, x9, x10, x271000, x271001 => if 0 ≤ x9 then (if x9 < (x271001.length : Int) then (if x10 < ((rd_L2 x271001 x9).length : Int) then (if x9 < (x6.length : Int) then (selfstabref01_Distances.j5 k x5 x6 x8 x9 x10 (decide ((rd x6 x9) < 0)) x271000 x271001) else (none)) else (selfstabref01_Distances.j5 k x5 x6 x8 x9 x10 false x271000 x271001)) else (none)) else (none)
def selfstabref01_Distances.j5 : Nat → Int → List Int → Int → Int → Int → Bool → List Int → List (List (S32)) → Option (List Int)
  | 0, _, _, _, _, _, _, _, _ => none
  | k + 1, x5, x6, x8, x9, x10, x61, x271000, x271001 => if x61 = true then (if 0 ≤ x9 then (if x9 < (x271001.length : Int) then (if 0 ≤ x10 then (if x10 < ((rd_L2 x271001 x9).length : Int) then (if 0 ≤ ((rd_T32 (rd_L2 x271001 x9) x10).f0) then (if ((rd_T32 (rd_L2 x271001 x9) x10).f0) < (x6.length : Int) then (if (rd x6 ((rd_T32 (rd_L2 x271001 x9) x10).f0)) = (wrap64 (x8 - 1)) then (if x9 < (x6.length : Int) then (selfstabref01_Distances.l3 k x5 (x6.set (x9 : Int).toNat x8) x8 x9 (wrap64 (x10 + 1)) x271000 x271001) else (none)) else (selfstabref01_Distances.l3 k x5 x6 x8 x9 (wrap64 (x10 + 1)) x271000 x271001)) else (none)) else (none)) else (none)) else (none)) else (none)) else (none)) else (selfstabref01_Distances.l2 k x5 x6 x8 (wrap64 (x9 + 1)) x271000 x271001)
end
def selfstabref01_Distances.f (k : Nat) (l0_0 : List Int) (l0_1 : List (List (S32))) (a1 : Int) : Option (List Int) := (selfstabref01_Valid.f k l0_0 l0_1).bind fun t271 => (if t271 = true then ((selfstabref01_In.f a1 0 (wrap64 ((l0_1.length : Int) - 1))).bind fun t272 => (selfstabref01_Distances.j0 k a1 (!t272) l0_0 l0_1)) else (selfstabref01_Distances.j0 k a1 true l0_0 l0_1))
theorem selfstabref01_Distances.mono_l : ∀ k, (∀ y0 y1 y2 y3, LeO (selfstabref01_Distances.j0 k y0 y1 y2 y3) (selfstabref01_Distances.j0 (k + 1) y0 y1 y2 y3)) ∧ (∀ y0 y1 y2 y3 y4 y5, LeO (selfstabref01_Distances.l0 k y0 y1 y2 y3 y4 y5) (selfstabref01_Distances.l0 (k + 1) y0 y1 y2 y3 y4 y5)) ∧ (∀ y0 y1 y2 y3 y4, LeO (selfstabref01_Distances.l1 k y0 y1 y2 y3 y4) (selfstabref01_Distances.l1 (k + 1) y0 y1 y2 y3 y4)) ∧ (∀ y0 y1 y2 y3 y4 y5, LeO (selfstabref01_Distances.l2 k y0 y1 y2 y3 y4 y5) (selfstabref01_Distances.l2 (k + 1) y0 y1 y2 y3 y4 y5)) ∧ (∀ y0 y1 y2 y3 y4 y5 y6, LeO (selfstabref01_Distances.l3 k y0 y1 y2 y3 y4 y5 y6) (selfstabref01_Distances.l3 (k + 1) y0 y1 y2 y3 y4 y5 y6)) ∧ (∀ y0 y1 y2 y3 y4 y5 y6 y7, LeO (selfstabref01_Distances.j5 k y0 y1 y2 y3 y4 y5 y6 y7) (selfstabref01_Distances.j5 (k + 1) y0 y1 y2 y3 y4 y5 y6 y7))
  | 0 => ⟨fun _ _ _ _ r h => by simp [selfstabref01_Distances.j0] at h, fun _ _ _ _ _ _ r h => by simp [selfstabref01_Distances.l0] at h, fun _ _ _ _ _ r h => by simp [selfstabref01_Distances.l1] at h, fun _ _ _ _ _ _ r h => by simp [selfstabref01_Distances.l2] at h, fun _ _ _ _ _ _ _ r h => by simp [selfstabref01_Distances.l3] at h, fun _ _ _ _ _ _ _ _ r h => by simp [selfstabref01_Distances.j5] at h⟩
  | k + 1 => by
    obtain ⟨ih0, ih1, ih2, ih3, ih4, ih5⟩ := selfstabref01_Distances.mono_l k
    refine ⟨?_, ?_, ?_, ?_, ?_, ?_⟩
    · intro y0 y1 y2 y3
      unfold selfstabref01_Distances.j0
      repeat' first
      | (with_reducible exact ih0 _ _ _ _)
      | (with_reducible exact ih1 _ _ _ _ _ _)
      | (with_reducible exact ih2 _ _ _ _ _)
      | (with_reducible exact ih3 _ _ _ _ _ _)
      | (with_reducible exact ih4 _ _ _ _ _ _ _)
      | (with_reducible exact ih5 _ _ _ _ _ _ _ _)
      | (with_reducible exact selfstabref01_Valid.mono _ _ _)
      | (with_reducible exact LeO.refl _)
      | (with_reducible exact LeO.none _)
      | (with_reducible refine LeO.ite ?_ ?_)
      | (with_reducible refine LeO.bind ?_ (fun _ => ?_))
      | exact ih0 _ _ _ _
      | exact ih1 _ _ _ _ _ _
      | exact ih2 _ _ _ _ _
      | exact ih3 _ _ _ _ _ _
      | exact ih4 _ _ _ _ _ _ _
      | exact ih5 _ _ _ _ _ _ _ _
      | exact selfstabref01_Valid.mono _ _ _
      | exact LeO.none _
      | refine LeO.ite ?_ ?_
      | refine LeO.bind ?_ (fun _ => ?_)
    · intro y0 y1 y2 y3 y4 y5
      unfold selfstabref01_Distances.l0
      repeat' first
      | (with_reducible exact ih0 _ _ _ _)
      | (with_reducible exact ih1 _ _ _ _ _ _)
      | (with_reducible exact ih2 _ _ _ _ _)
      | (with_reducible exact ih3 _ _ _ _ _ _)
      | (with_reducible exact ih4 _ _ _ _ _ _ _)
      | (with_reducible exact ih5 _ _ _ _ _ _ _ _)
      | (with_reducible exact selfstabref01_Valid.mono _ _ _)
      | (with_reducible exact LeO.refl _)
      | (with_reducible exact LeO.none _)
      | (with_reducible refine LeO.ite ?_ ?_)
      | (with_reducible refine LeO.bind ?_ (fun _ => ?_))
      | exact ih0 _ _ _ _
      | exact ih1 _ _ _ _ _ _
      | exact ih2 _ _ _ _ _
      | exact ih3 _ _ _ _ _ _
      | exact ih4 _ _ _ _ _ _ _
      | exact ih5 _ _ _ _ _ _ _ _
      | exact selfstabref01_Valid.mono _ _ _
      | exact LeO.none _
      | refine LeO.ite ?_ ?_
      | refine LeO.bind ?_ (fun _ => ?_)
    · intro y0 y1 y2 y3 y4
      unfold selfstabref01_Distances.l1
      repeat' first
      | (with_reducible exact ih0 _ _ _ _)
      | (with_reducible exact ih1 _ _ _ _ _ _)
      | (with_reducible exact ih2 _ _ _ _ _)
      | (with_reducible exact ih3 _ _ _ _ _ _)
      | (with_reducible exact ih4 _ _ _ _ _ _ _)
      | (with_reducible exact ih5 _ _ _ _ _ _ _ _)
      | (with_reducible exact selfstabref01_Valid.mono _ _ _)
      | (with_reducible exact LeO.refl _)
      | (with_reducible exact LeO.none _)
      | (with_reducible refine LeO.ite ?_ ?_)
      | (with_reducible refine LeO.bind ?_ (fun _ => ?_))
      | exact ih0 _ _ _ _
      | exact ih1 _ _ _ _ _ _
      | exact ih2 _ _ _ _ _
      | exact ih3 _ _ _ _ _ _
      | exact ih4 _ _ _ _ _ _ _
      | exact ih5 _ _ _ _ _ _ _ _
      | exact selfstabref01_Valid.mono _ _ _
      | exact LeO.none _
      | refine LeO.ite ?_ ?_
      | refine LeO.bind ?_ (fun _ => ?_)
    · intro y0 y1 y2 y3 y4 y5
      unfold selfstabref01_Distances.l2
      repeat' first
      | (with_reducible exact ih0 _ _ _ _)
      | (with_reducible exact ih1 _ _ _ _ _ _)
      | (with_reducible exact ih2 _ _ _ _ _)
      | (with_reducible exact ih3 _ _ _ _ _ _)
      | (with_reducible exact ih4 _ _ _ _ _ _ _)
      | (with_reducible exact ih5 _ _ _ _ _ _ _ _)
      | (with_reducible exact selfstabref01_Valid.mono _ _ _)
      | (with_reducible exact LeO.refl _)
      | (with_reducible exact LeO.none _)
      | (with_reducible refine LeO.ite ?_ ?_)
      | (with_reducible refine LeO.bind ?_ (fun _ => ?_))
      | exact ih0 _ _ _ _
      | exact ih1 _ _ _ _ _ _
      | exact ih2 _ _ _ _ _
      | exact ih3 _ _ _ _ _ _
      | exact ih4 _ _ _ _ _ _ _
      | exact ih5 _ _ _ _ _ _ _ _
      | exact selfstabref01_Valid.mono _ _ _
      | exact LeO.none _
      | refine LeO.ite ?_ ?_
      | refine LeO.bind ?_ (fun _ => ?_)
    · intro y0 y1 y2 y3 y4 y5 y6
      unfold selfstabref01_Distances.l3
      repeat' first
      | (with_reducible exact ih0 _ _ _ _)
      | (with_reducible exact ih1 _ _ _ _ _ _)
      | (with_reducible exact ih2 _ _ _ _ _)
      | (with_reducible exact ih3 _ _ _ _ _ _)
      | (with_reducible exact ih4 _ _ _ _ _ _ _)
      | (with_reducible exact ih5 _ _ _ _ _ _ _ _)
      | (with_reducible exact selfstabref01_Valid.mono _ _ _)
      | (with_reducible exact LeO.refl _)
      | (with_reducible exact LeO.none _)
      | (with_reducible refine LeO.ite ?_ ?_)
      | (with_reducible refine LeO.bind ?_ (fun _ => ?_))
      | exact ih0 _ _ _ _
      | exact ih1 _ _ _ _ _ _
      | exact ih2 _ _ _ _ _
      | exact ih3 _ _ _ _ _ _
      | exact ih4 _ _ _ _ _ _ _
      | exact ih5 _ _ _ _ _ _ _ _
      | exact selfstabref01_Valid.mono _ _ _
      | exact LeO.none _
      | refine LeO.ite ?_ ?_
      | refine LeO.bind ?_ (fun _ => ?_)
    · intro y0 y1 y2 y3 y4 y5 y6 y7
      unfold selfstabref01_Distances.j5
      repeat' first
      | (with_reducible exact ih0 _ _ _ _)
      | (with_reducible exact ih1 _ _ _ _ _ _)
      | (with_reducible exact ih2 _ _ _ _ _)
      | (with_reducible exact ih3 _ _ _ _ _ _)
      | (with_reducible exact ih4 _ _ _ _ _ _ _)
      | (with_reducible exact ih5 _ _ _ _ _ _ _ _)
      | (with_reducible exact selfstabref01_Valid.mono _ _ _)
      | (with_reducible exact LeO.refl _)
      | (with_reducible exact LeO.none _)
      | (with_reducible refine LeO.ite ?_ ?_)
      | (with_reducible refine LeO.bind ?_ (fun _ => ?_))
      | exact ih0 _ _ _ _
      | exact ih1 _ _ _ _ _ _
      | exact ih2 _ _ _ _ _
      | exact ih3 _ _ _ _ _ _
      | exact ih4 _ _ _ _ _ _ _
      | exact ih5 _ _ _ _ _ _ _ _
      | exact selfstabref01_Valid.mono _ _ _
      | exact LeO.none _
      | refine LeO.ite ?_ ?_
      | refine LeO.bind ?_ (fun _ => ?_)
theorem selfstabref01_Distances.mono : ∀ a0 a1 a2 k, LeO (selfstabref01_Distances.f k a0 a1 a2) (selfstabref01_Distances.f (k + 1) a0 a1 a2) := by
  intro a0 a1 a2 k
  obtain ⟨ih0, ih1, ih2, ih3, ih4, ih5⟩ := selfstabref01_Distances.mono_l k
  unfold selfstabref01_Distances.f
  repeat' first
      | (with_reducible exact ih0 _ _ _ _)
      | (with_reducible exact ih1 _ _ _ _ _ _)
      | (with_reducible exact ih2 _ _ _ _ _)
      | (with_reducible exact ih3 _ _ _ _ _ _)
      | (with_reducible exact ih4 _ _ _ _ _ _ _)
      | (with_reducible exact ih5 _ _ _ _ _ _ _ _)
      | (with_reducible exact selfstabref01_Valid.mono _ _ _)
      | (with_reducible exact LeO.refl _)
      | (with_reducible exact LeO.none _)
      | (with_reducible refine LeO.ite ?_ ?_)
      | (with_reducible refine LeO.bind ?_ (fun _ => ?_))
      | exact ih0 _ _ _ _
      | exact ih1 _ _ _ _ _ _
      | exact ih2 _ _ _ _ _
      | exact ih3 _ _ _ _ _ _
      | exact ih4 _ _ _ _ _ _ _
      | exact ih5 _ _ _ _ _ _ _ _
      | exact selfstabref01_Valid.mono _ _ _
      | exact LeO.none _
      | refine LeO.ite ?_ ?_
      | refine LeO.bind ?_ (fun _ => ?_)
set_option maxHeartbeats 8000000 in
set_option maxRecDepth 100000 in
theorem selfstabref01_Distances.calls (k : Nat) (A0_0 : Option Addr) (c0_0 : Nat) (l0_0 : List Int) (A0_1 : Option Addr) (c0_1 : Nat) (l0_1 : List (List (S32))) (a1 : Int) (r : List Int) (w : World) (hr0_0 : Kd.C (Kd.int .i64) w A0_0 l0_0.length l0_0) (hc0_0 : l0_0.length ≤ c0_0) (hr0_1 : Kd.C (Kd.slice 32 k32) w A0_1 l0_1.length l0_1) (hc0_1 : l0_1.length ≤ c0_1) (h : selfstabref01_Distances.f k l0_0 l0_1 a1 = some r) :
    Calls Try.prog 22 #[.agg #[.slice A0_0 l0_0.length c0_0, .slice A0_1 l0_1.length c0_1], .int .i64 a1] w fun e w' => ∃ v0_ : Value, e = .returned (v0_) ∧ Kd.R (Kd.int .i64) 3 w' w.heap.size (fun _ => True) v0_ r ∧ Below w.heap.size w w' := by
  have hu25 := Try.underlying25
  have HR0_0 := Aside0.mk hr0_0
  have HC0_0 := Aside0.mk hc0_0
  clear hr0_0 hc0_0
  have HR0_1 := Aside0.mk hr0_1
  have HC0_1 := Aside0.mk hc0_1
  clear hr0_1 hc0_1
  have HB := Aside0.mk (Below.refl w.heap.size w)
  have H : ((selfstabref01_Valid.f k l0_0 l0_1).bind fun t271 => (if t271 = true then ((selfstabref01_In.f a1 0 (wrap64 ((l0_1.length : Int) - 1))).bind fun t272 => (selfstabref01_Distances.j0 k a1 (!t272) l0_0 l0_1)) else (selfstabref01_Distances.j0 k a1 true l0_0 l0_1))) = some r := h
  clear h
  have HC3 := Aside0.mk H
  clear H
  go_enter Try.func22, Try.ntmps22
  go_upto_region 1 with (first | ((with_reducible refine gate_dst (N := 2) rfl ?_); (try (refine gate_guard (by rfl) ?_; dsimp only)); refine box_event ?hg (N := 2) ?hd (cs := #[.slice A0_0 l0_0.length c0_0, .slice A0_1 l0_1.length c0_1]) (t := 25) ?hr ?_; (case hd => rfl); (case hg => rfl); (case hr => first | (go_simp; done) | (go_simp; rfl)); intro gb270 hg w4 hbox hb; have n0_ := Aside0.mk (below_step (by repeat (first | (with_reducible first | exact HB.out | apply below_alloc | apply pw_below_drewN | apply below_drew1) | exact HB.out)) hb); have n1_ := Aside0.mk (hbox); have n2_ := Aside0.mk ((by rw [hg]; exact (below_size (by repeat (first | (with_reducible first | exact HB.out | apply below_alloc | apply pw_below_drewN | apply below_drew1) | exact HB.out))) : w.heap.size ≤ gb270)); have n3_ := Aside0.mk ((by rw [hg]; exact (below_size (by repeat (first | (with_reducible first | exact HB.out | apply below_alloc | apply pw_below_drewN | apply below_drew1) | exact HB.out))) : w.heap.size ≤ gb270)); clear HB; have HB := n0_; have BK270 := n1_; have GW270 := n2_; have GE270 := n3_; clear n0_ n1_ n2_ n3_; clear hb hbox hg))
  (try simp only [Act.put, List.setIfInBounds_toArray, List.set_cons_zero, List.set_cons_succ])
  go_cut [22] (fun v22 wc => ∃ (kq : Nat) (x22_2 : Bool), v22 = .bool x22_2 ∧ Aside0 (selfstabref01_Distances.j0 kq a1 x22_2 l0_0 l0_1 = some r) ∧ Aside0 (kq ≤ k) ∧ Aside0 (wc.heap[gb270]? = some (.cells #[(.slice A0_0 l0_0.length c0_0), (.slice A0_1 l0_1.length c0_1)] 25 (0, 0))) ∧ Aside0 (Below w.heap.size w wc))
  case first =>
    have H := HC3.out
    clear HC3
    replace H := Option.bind_eq_some_iff.mp H
    obtain ⟨t271, A50, H⟩ := H
    replace H : (if t271 = true then ((selfstabref01_In.f a1 0 (wrap64 ((l0_1.length : Int) - 1))).bind fun t272 => (selfstabref01_Distances.j0 k a1 (!t272) l0_0 l0_1)) else (selfstabref01_Distances.j0 k a1 true l0_0 l0_1)) = some r := H
    have A5 := Aside0.mk A50
    clear A50
    by_cases c6 : t271 = true
    · subst c6
      have H1 : ((selfstabref01_In.f a1 0 (wrap64 ((l0_1.length : Int) - 1))).bind fun t272 => (selfstabref01_Distances.j0 k a1 (!t272) l0_0 l0_1)) = some r := by rw [if_pos rfl] at H; exact H
      clear H
      have H := H1
      clear H1
      replace H := Option.bind_eq_some_iff.mp H
      obtain ⟨t272, A70, H⟩ := H
      replace H : (selfstabref01_Distances.j0 k a1 (!t272) l0_0 l0_1) = some r := H
      have A7 := Aside0.mk A70
      clear A70
      have H' := Aside0.mk H
      clear H
      have hcz8_0 : w4.cell? ⟨gb270, 0, none⟩ = some (.slice A0_0 l0_0.length c0_0) := (blk_cell BK270.out 0).trans rfl
      have hcz8_1 : w4.cell? ⟨gb270, 1, none⟩ = some (.slice A0_1 l0_1.length c0_1) := (blk_cell BK270.out 1).trans rfl
      have hfz8_0 := blk_frozen BK270.out 0
      have hfz8_1 := blk_frozen BK270.out 1
      go_wp2_with (first | ((with_reducible refine gate_callee (f := 34) rfl ?_); refine goesL_ (some 12) rfl rfl Try.func34 (by kernel_rfl) rfl #[.agg #[.slice A0_0 l0_0.length c0_0, .slice A0_1 l0_1.length c0_1]] rfl (by (try simp only [List.map_toArray, List.map_cons, List.map_nil]); first | done | rfl | (simp only [List.length_drop, List.length_take]; rfl)) ?_; (with_reducible refine (selfstabref01_Valid.calls k _ _ l0_0 _ _ l0_1 true _ ?side1 ?side2 ?side3 ?side4 A5.out).mono ?_); (case side1 => repeat (first | exact (Kd.C_below HR0_0.out HB.out) | (with_reducible refine Kd.C_alloc ?_ _) | (with_reducible refine Kd.C_drewN ?_ _) | (with_reducible refine Kd.C_drew ?_))); (case side2 => exact HC0_0.out); (case side3 => repeat (first | exact (Kd.C_below HR0_1.out HB.out) | (with_reducible refine Kd.C_alloc ?_ _) | (with_reducible refine Kd.C_drewN ?_ _) | (with_reducible refine Kd.C_drew ?_))); (case side4 => exact HC0_1.out); rintro e w9 ⟨rfl, hb⟩; refine ⟨_, rfl, ?_⟩; have n0_ := Aside0.mk (blk_below (g := gb270) (o := .cells #[.slice A0_0 l0_0.length c0_0, .slice A0_1 l0_1.length c0_1] 25 (0, 0)) (by (with_reducible repeat (first | refine blk_drewN ?_ _ | refine blk_drew ?_ | refine blk_alloc ?_ _)); exact BK270.out) hb); have n1_ := Aside0.mk (below_step (by repeat (first | (with_reducible first | exact HB.out | apply below_alloc | apply pw_below_drewN | apply below_drew1 | refine below_set ?_ GE270.out) | exact HB.out)) hb); clear BK270; clear HB; have BK270 := n0_; have HB := n1_; clear n0_ n1_; (try clear hb); (try clear hb2); (try clear hk); (try clear hi); have hcz10_0 : w9.cell? ⟨gb270, 0, none⟩ = some (.slice A0_0 l0_0.length c0_0) := (blk_cell BK270.out 0).trans rfl; have hcz10_1 : w9.cell? ⟨gb270, 1, none⟩ = some (.slice A0_1 l0_1.length c0_1) := (blk_cell BK270.out 1).trans rfl; have hfz10_0 := blk_frozen BK270.out 0; have hfz10_1 := blk_frozen BK270.out 1) | (go_at_call 42; (with_reducible refine (selfstabref01_In.calls a1 0 (wrap64 ((l0_1.length : Int) - 1)) t272 _ A7.out).mono ?_); rintro e w' ⟨rfl, ⟨nd, rfl⟩⟩))
      go_meet
      case rel => exact ⟨_, (!t272), (by first | rfl | (simp; done) | (simp [*]; done)), H', ⟨by first | omega | exact Nat.le_refl _⟩, ⟨by (with_reducible repeat (first | refine blk_drewN ?_ _ | refine blk_drew ?_ | refine blk_alloc ?_ _)); exact BK270.out⟩, ⟨by repeat (first | (with_reducible first | exact HB.out | apply below_alloc | apply pw_below_drewN | apply below_drew1 | refine below_set ?_ GE270.out) | exact HB.out)⟩⟩
    · replace c6 := Bool.eq_false_iff.mpr c6
      subst c6
      have H1 : (selfstabref01_Distances.j0 k a1 true l0_0 l0_1) = some r := by rw [if_neg (show ¬ (false = true) by decide)] at H; exact H
      clear H
      have H := H1
      clear H1
      have H' := Aside0.mk H
      clear H
      have hcz11_0 : w4.cell? ⟨gb270, 0, none⟩ = some (.slice A0_0 l0_0.length c0_0) := (blk_cell BK270.out 0).trans rfl
      have hcz11_1 : w4.cell? ⟨gb270, 1, none⟩ = some (.slice A0_1 l0_1.length c0_1) := (blk_cell BK270.out 1).trans rfl
      have hfz11_0 := blk_frozen BK270.out 0
      have hfz11_1 := blk_frozen BK270.out 1
      go_wp2_with (first | ((with_reducible refine gate_callee (f := 34) rfl ?_); refine goesL_ (some 12) rfl rfl Try.func34 (by kernel_rfl) rfl #[.agg #[.slice A0_0 l0_0.length c0_0, .slice A0_1 l0_1.length c0_1]] rfl (by (try simp only [List.map_toArray, List.map_cons, List.map_nil]); first | done | rfl | (simp only [List.length_drop, List.length_take]; rfl)) ?_; (with_reducible refine (selfstabref01_Valid.calls k _ _ l0_0 _ _ l0_1 false _ ?side1 ?side2 ?side3 ?side4 A5.out).mono ?_); (case side1 => repeat (first | exact (Kd.C_below HR0_0.out HB.out) | (with_reducible refine Kd.C_alloc ?_ _) | (with_reducible refine Kd.C_drewN ?_ _) | (with_reducible refine Kd.C_drew ?_))); (case side2 => exact HC0_0.out); (case side3 => repeat (first | exact (Kd.C_below HR0_1.out HB.out) | (with_reducible refine Kd.C_alloc ?_ _) | (with_reducible refine Kd.C_drewN ?_ _) | (with_reducible refine Kd.C_drew ?_))); (case side4 => exact HC0_1.out); rintro e w12 ⟨rfl, hb⟩; refine ⟨_, rfl, ?_⟩; have n0_ := Aside0.mk (blk_below (g := gb270) (o := .cells #[.slice A0_0 l0_0.length c0_0, .slice A0_1 l0_1.length c0_1] 25 (0, 0)) (by (with_reducible repeat (first | refine blk_drewN ?_ _ | refine blk_drew ?_ | refine blk_alloc ?_ _)); exact BK270.out) hb); have n1_ := Aside0.mk (below_step (by repeat (first | (with_reducible first | exact HB.out | apply below_alloc | apply pw_below_drewN | apply below_drew1 | refine below_set ?_ GE270.out) | exact HB.out)) hb); clear BK270; clear HB; have BK270 := n0_; have HB := n1_; clear n0_ n1_; (try clear hb); (try clear hb2); (try clear hk); (try clear hi)))
      go_meet
      case rel => exact ⟨_, (true), (by first | rfl | (simp; done) | (simp [*]; done)), H', ⟨by first | omega | exact Nat.le_refl _⟩, ⟨by (with_reducible repeat (first | refine blk_drewN ?_ _ | refine blk_drew ?_ | refine blk_alloc ?_ _)); exact BK270.out⟩, ⟨by repeat (first | (with_reducible first | exact HB.out | apply below_alloc | apply pw_below_drewN | apply below_drew1 | refine below_set ?_ GE270.out) | exact HB.out)⟩⟩
  case rest =>
    clear HC3
    try clear c2
    try clear p2
    try clear c3
    try clear c6
    try clear p6
    try clear hcz10_0
    try clear hcz10_1
    try clear hcz11_0
    try clear hcz11_1
    try clear hcz8_0
    try clear hcz8_1
    try clear hfz10_0
    try clear hfz10_1
    try clear hfz11_0
    try clear hfz11_1
    try clear hfz8_0
    try clear hfz8_1
    obtain ⟨kq, x22_2, rfl, HA, HJ2, BK270, HB⟩ := hcut
    cases kq with
    | zero => exact absurd HA.out (by simp [selfstabref01_Distances.j0])
    | succ kj2 =>
      have H := HA.out
      clear HA
      simp only [selfstabref01_Distances.j0] at H
      by_cases c13 : x22_2 = true
      · subst c13
        have H1 : (some ([] : List Int)) = some r := by rw [if_pos rfl] at H; exact H
        clear H
        have H := H1
        clear H1
        obtain rfl := Option.some.inj H
        go_wp2
        go_ret
        exact ⟨_, by first | rfl | (simp [errW_none, errW_some] <;> rfl) | (simp [*, errW_none, errW_some] <;> rfl), by first | exact Kd.R_nil _ _ _ _ _ | exact Kd.N_nil _ _ _ _ _ | exact Kd.V_nil _ _ _ _ _ | exact Kd.Q_nil _ _ _ _ _ | exact Kd.S_nil _ _ _ _ _, by repeat (first | (with_reducible first | exact HB.out | apply below_alloc | apply pw_below_drewN | apply below_drew1 | refine below_set ?_ GE270.out) | exact HB.out)⟩
      · replace c13 := Bool.eq_false_iff.mpr c13
        subst c13
        have H1 : (selfstabref01_Distances.l0 kj2 a1 (l0_1.length : Int) ([] : List Int) 0 l0_0 l0_1) = some r := by rw [if_neg (show ¬ (false = true) by decide)] at H; exact H
        clear H
        have H := H1
        clear H1
        have H' := Aside0.mk H
        clear H
        have hcz14_0 : wc.cell? ⟨gb270, 0, none⟩ = some (.slice A0_0 l0_0.length c0_0) := (blk_cell BK270.out 0).trans rfl
        have hcz14_1 : wc.cell? ⟨gb270, 1, none⟩ = some (.slice A0_1 l0_1.length c0_1) := (blk_cell BK270.out 1).trans rfl
        have hfz14_0 := blk_frozen BK270.out 0
        have hfz14_1 := blk_frozen BK270.out 1
        go_wp2
        go_loopg [6, 7] kj2 (fun kq v6 v7 w' => ∃ (x6_2 : List Int) (x7_2 : Int), v7 = .int .i64 x7_2 ∧ Aside0 (selfstabref01_Distances.l0 kq a1 (l0_1.length : Int) x6_2 x7_2 l0_0 l0_1 = some r) ∧ Aside0 (kq ≤ kj2) ∧ Aside0 (Kd.R (Kd.int .i64) 3 w' w.heap.size (fun _ => True) v6 x6_2) ∧ Aside0 (w'.heap[gb270]? = some (.cells #[(.slice A0_0 l0_0.length c0_0), (.slice A0_1 l0_1.length c0_1)] 25 (0, 0))) ∧ Aside0 (Below w.heap.size w w'))
        case atStart => exact ⟨(([] : List Int)), (0), (by first | rfl | (simp; done) | (simp [*]; done)), H', ⟨Nat.le_refl _⟩, ⟨by first | exact Kd.R_nil _ _ _ _ _ | exact Kd.N_nil _ _ _ _ _ | exact Kd.V_nil _ _ _ _ _ | exact Kd.Q_nil _ _ _ _ _ | exact Kd.S_nil _ _ _ _ _⟩, ⟨by (with_reducible repeat (first | refine blk_drewN ?_ _ | refine blk_drew ?_ | refine blk_alloc ?_ _)); exact BK270.out⟩, ⟨by repeat (first | (with_reducible first | exact HB.out | apply below_alloc | apply pw_below_drewN | apply below_drew1 | refine below_set ?_ GE270.out) | exact HB.out)⟩⟩
        case round =>
          clear H'
          try clear c1
          try clear c2
          try clear p2
          try clear c3
          try clear c6
          try clear p6
          try clear c13
          try clear hcz10_0
          try clear hcz10_1
          try clear hcz11_0
          try clear hcz11_1
          try clear hcz14_0
          try clear hcz14_1
          try clear hcz8_0
          try clear hcz8_1
          try clear hfz10_0
          try clear hfz10_1
          try clear hfz11_0
          try clear hfz11_1
          try clear hfz14_0
          try clear hfz14_1
          try clear hfz8_0
          try clear hfz8_1
          try clear p2
          try clear p6
          obtain ⟨x6_2, x7_2, rfl, HA, HK2, HO_6, BK270, HB⟩ := hrel
          cases gk with
          | zero => exact absurd HA.out (by simp [selfstabref01_Distances.l0])
          | succ k2 =>
            have H := HA.out
            clear HA
            simp only [selfstabref01_Distances.l0] at H
            by_cases c15 : x7_2 < (l0_1.length : Int)
            · rw [if_pos c15] at H
              have c15b0 : decide (x7_2 < (l0_1.length : Int)) = true := decide_eq_true c15
              clear c15
              by_cases c16 : x6_2.length < 17592186044416
              · rw [if_pos c16] at H
                have LMc16 := Aside0.mk c16
                clear c16
                obtain ⟨y273, hy273⟩ : ∃ y_ : List Int, y_ = (x6_2 ++ [(-1)]) := ⟨_, rfl⟩
                replace H : (selfstabref01_Distances.l0 k2 a1 (l0_1.length : Int) y273 (wrap64 (x7_2 + 1)) l0_0 l0_1) = some r := by first | (rw [hy273]; with_reducible exact H) | (have H2_ := (Option.bind_some _ _).symm.trans H; rw [hy273]; with_reducible exact H2_) | (have H2_ := (Option.bind_some _ _).symm.trans H; with_reducible exact H2_) | with_reducible exact H | (rw [hy273]; exact H) | exact H
                have Ny273 := Aside0.mk hy273
                clear hy273
                have H' := Aside0.mk H
                clear H
                go_wp2_with (first | ((with_reducible refine gate_builtin (b := .append) (xs := #[.tmp 31, .tmp 32]) rfl ?_); (try (refine gate_guard (by rfl) ?_; dsimp only)); at_builtin; refine Kd.R_append (Kd.int .i64) (w0 := w) w.heap.size rfl (.tmp 31) (.tmp 32) 22 3 (.int .i64 0) 8 rfl Try.underlying22 info3 rfl (by decide) (by omega) u6 x6_2 (-1) [.int .i64 (-1)] (fun _ => True) (fun _ => False) rfl rfl ?aP (fun _ hk => hk.elim) ?aF ?aO ?aB ?aS ?aL ?_; (case aP => exact rfl); (case aB => exact (by repeat (first | (with_reducible first | exact HB.out | apply below_alloc | apply pw_below_drewN | apply below_drew1 | refine below_set ?_ GE270.out) | exact HB.out))); (case aF => exact (fun _ _ => trivial)); (case aO => exact (by (with_reducible repeat (first | apply Kd.R_alloc | apply Kd.R_drewN | apply Kd.R_drew)); exact HO_6.out)); (case aS => exact (below_size (by repeat (first | (with_reducible first | exact HB.out | apply below_alloc | apply pw_below_drewN | apply below_drew1 | refine below_set ?_ GE270.out) | exact HB.out)))); (case aL => have := LMc16.out; omega); intro v274 w17 ho hb hg hat; rw [← Ny273.out] at ho; have n0_ := Aside0.mk (blk_grown (g := gb270) (o := .cells #[.slice A0_0 l0_0.length c0_0, .slice A0_1 l0_1.length c0_1] 25 (0, 0)) (by (with_reducible repeat (first | refine blk_drewN ?_ _ | refine blk_drew ?_ | refine blk_alloc ?_ _)); exact BK270.out) hg (Kd.R_ne HO_6.out BK270.out (by decide))); have n1_ := Aside0.mk (hb); have n2_ := Aside0.mk (ho); clear BK270; clear HB; clear HO_6; have BK270 := n0_; have HB := n1_; have HO275 := n2_; clear n0_ n1_ n2_; clear ho hb hg hat))
                go_roundg k2
                case measure => have := HJ2.out; have := HK2.out; omega
                case rel => exact ⟨(y273), (wrap64 (x7_2 + 1)), (by first | rfl | (simp; done) | (simp [*]; done)), H', ⟨by have := HJ2.out; have := HK2.out; omega⟩, ⟨by (with_reducible repeat (first | apply Kd.R_alloc | apply Kd.R_drewN | apply Kd.R_drew)); exact HO275.out⟩, ⟨by (with_reducible repeat (first | refine blk_drewN ?_ _ | refine blk_drew ?_ | refine blk_alloc ?_ _)); exact BK270.out⟩, ⟨by repeat (first | (with_reducible first | exact HB.out | apply below_alloc | apply pw_below_drewN | apply below_drew1 | refine below_set ?_ GE270.out) | exact HB.out)⟩⟩
              · rw [if_neg c16] at H
                exact absurd H (by simp)
            · rw [if_neg c15] at H
              have c15b0 : decide (x7_2 < (l0_1.length : Int)) = false := decide_eq_false c15
              clear c15
              by_cases c18 : 0 ≤ a1
              · rw [if_pos c18] at H
                have c18b0 : decide (0 ≤ a1) = true := decide_eq_true c18
                clear c18
                by_cases c19 : a1 < (x6_2.length : Int)
                · rw [if_pos c19] at H
                  have c19b0 : decide (a1 < (x6_2.length : Int)) = true := decide_eq_true c19
                  clear c19
                  obtain ⟨y276, hy276⟩ : ∃ y_ : List Int, y_ = (x6_2.set (a1 : Int).toNat 0) := ⟨_, rfl⟩
                  replace H : (selfstabref01_Distances.l1 k2 (l0_1.length : Int) y276 1 l0_0 l0_1) = some r := by first | (rw [hy276]; with_reducible exact H) | (have H2_ := (Option.bind_some _ _).symm.trans H; rw [hy276]; with_reducible exact H2_) | (have H2_ := (Option.bind_some _ _).symm.trans H; with_reducible exact H2_) | with_reducible exact H | (rw [hy276]; exact H) | exact H
                  have Ny276 := Aside0.mk hy276
                  clear hy276
                  have H' := Aside0.mk H
                  clear H
                  have p20 : 0 ≤ (a1 : Int) := of_decide_eq_true (by first | (with_reducible assumption) | assumption)
                  have q20 : (a1 : Int) < ((x6_2.length : Int) : Int) := of_decide_eq_true (by first | (with_reducible assumption) | assumption)
                  obtain ⟨go20, co20, eo20, gb20, gl20, cl20, HG20⟩ := Kd.R_form HO_6.out (by omega)
                  (first | cases eo20 | (injection eo20 with ea_ en_ ec_; (first | subst ea_ | (injection ea_ with ea_; subst ea_)); subst ec_; clear en_))
                  have GB20 := Aside0.mk gb20
                  have GG20 := Aside0.mk HG20
                  clear gb20 gl20 HG20
                  obtain ⟨hx20_0, hf20_0⟩ := Kd.R_celln 0 HO_6.out (a1 : Int) p20 q20
                  replace p20 := eq_true p20
                  replace q20 := eq_true q20
                  have HP21 := Kd.R_putg HO_6.out (a1 : Int) 0
                  go_wp2_with (first | ((with_reducible refine gate_store (t := 3) (p := 36) rfl ?_); refine store_event (t := 3) (p := 36) (v := ?vo_w22) (w1 := (wr.setCell ⟨go20, (a1 : Int).toNat, none⟩ (.int .i64 0))) ?hg ?ho ?hn ?hr ?_; (case ho => rfl); (case hg => rfl); (case hn => rfl); (case hr => first | (go_simp; done) | (go_simp; rfl)); intro w22 hw; have hg : wr.grownBy w22 (some go20) := (by rw [hw]; exact HP21.2); have hp_ : Kd.R (Kd.int .i64) 3 w22 w.heap.size (fun _ => True) (.slice (some ⟨go20, 0, none⟩) x6_2.length co20) y276 := (by rw [hw, Ny276.out]; exact HP21.1); clear HP21; have n0_ := Aside0.mk (hp_); have n1_ := Aside0.mk (blk_grown (g := gb270) (o := .cells #[.slice A0_0 l0_0.length c0_0, .slice A0_1 l0_1.length c0_1] 25 (0, 0)) (by (with_reducible repeat (first | refine blk_drewN ?_ _ | refine blk_drew ?_ | refine blk_alloc ?_ _)); exact BK270.out) hg (Kd.R_ne HO_6.out BK270.out (by decide))); have n2_ := Aside0.mk ((by rw [hw]; exact below_set (HB.out) GB20.out : Below w.heap.size w w22)); clear HO_6; clear BK270; clear HB; have HO_6 := n0_; have BK270 := n1_; have HB := n2_; clear n0_ n1_ n2_; clear hg hw hp_))
                  go_loopg [8] k2 (fun kq v8 w' => ∃ (x6_3 : List Int) (x8_3 : Int), v8 = .int .i64 x8_3 ∧ Aside0 (selfstabref01_Distances.l1 kq (l0_1.length : Int) x6_3 x8_3 l0_0 l0_1 = some r) ∧ Aside0 (kq ≤ k2) ∧ Aside0 (Kd.R (Kd.int .i64) 3 w' w.heap.size (fun _ => True) (.slice (some ⟨go20, 0, none⟩) x6_2.length co20) x6_3) ∧ Aside0 (w'.heap[gb270]? = some (.cells #[(.slice A0_0 l0_0.length c0_0), (.slice A0_1 l0_1.length c0_1)] 25 (0, 0))) ∧ Aside0 (Below w.heap.size w w'))
                  case atStart => exact ⟨(y276), (1), (by first | rfl | (simp; done) | (simp [*]; done)), H', ⟨Nat.le_refl _⟩, ⟨by (with_reducible repeat (first | apply Kd.R_alloc | apply Kd.R_drewN | apply Kd.R_drew)); exact HO_6.out⟩, ⟨by (with_reducible repeat (first | refine blk_drewN ?_ _ | refine blk_drew ?_ | refine blk_alloc ?_ _)); exact BK270.out⟩, ⟨by repeat (first | (with_reducible first | exact HB.out | apply below_alloc | apply pw_below_drewN | apply below_drew1 | refine below_set ?_ GE270.out) | exact HB.out)⟩⟩
                  case round =>
                    clear H'
                    try clear c1
                    try clear c2
                    try clear p2
                    try clear q2
                    try clear hx2
                    try clear hf2
                    try clear c3
                    try clear c6
                    try clear p6
                    try clear c13
                    try clear c15
                    try clear c15b0
                    try clear c16
                    try clear c18
                    try clear c18b0
                    try clear c19
                    try clear c19b0
                    try clear p20
                    try clear q20
                    try clear hx20
                    try clear hf20
                    try clear c22
                    try clear hcz10_0
                    try clear hcz10_1
                    try clear hcz11_0
                    try clear hcz11_1
                    try clear hcz14_0
                    try clear hcz14_1
                    try clear hcz8_0
                    try clear hcz8_1
                    try clear hfz10_0
                    try clear hfz10_1
                    try clear hfz11_0
                    try clear hfz11_1
                    try clear hfz14_0
                    try clear hfz14_1
                    try clear hfz8_0
                    try clear hfz8_1
                    try clear hx20_0
                    try clear p2
                    try clear p20
                    try clear p6
                    try clear q20
                    obtain ⟨x6_3, x8_3, rfl, HA, HK3, HO_6, BK270, HB⟩ := hrel
                    have hl6_3 := (Kd.R_reads' HO_6.out).1
                    rw [hl6_3] at HO_6
                    (try simp only [hl6_3])
                    (try simp only [hl6_3] at BK270)
                    cases gk with
                    | zero => exact absurd HA.out (by simp [selfstabref01_Distances.l1])
                    | succ k3 =>
                      have H := HA.out
                      clear HA
                      simp only [selfstabref01_Distances.l1] at H
                      by_cases c23 : x8_3 < (l0_1.length : Int)
                      · rw [if_pos c23] at H
                        have c23b0 : decide (x8_3 < (l0_1.length : Int)) = true := decide_eq_true c23
                        (try (have c23h0 := c23b0; simp only [hl6_3] at c23h0))
                        clear c23
                        have H' := Aside0.mk H
                        clear H
                        go_wp2
                        go_loopg [9] k3 (fun kq v9 w' => ∃ (x6_4 : List Int) (x9_4 : Int), v9 = .int .i64 x9_4 ∧ Aside0 (selfstabref01_Distances.l2 kq (l0_1.length : Int) x6_4 x8_3 x9_4 l0_0 l0_1 = some r) ∧ Aside0 (kq ≤ k3) ∧ Aside0 (Kd.R (Kd.int .i64) 3 w' w.heap.size (fun _ => True) (.slice (some ⟨go20, 0, none⟩) x6_3.length co20) x6_4) ∧ Aside0 (w'.heap[gb270]? = some (.cells #[(.slice A0_0 l0_0.length c0_0), (.slice A0_1 l0_1.length c0_1)] 25 (0, 0))) ∧ Aside0 (Below w.heap.size w w'))
                        case atStart => exact ⟨(x6_3), (0), (by first | rfl | (simp; done) | (simp [*]; done)), H', ⟨Nat.le_refl _⟩, ⟨by (try simp only [hl6_3]); (with_reducible repeat (first | apply Kd.R_alloc | apply Kd.R_drewN | apply Kd.R_drew)); exact HO_6.out⟩, ⟨by (try simp only [hl6_3]); (with_reducible repeat (first | refine blk_drewN ?_ _ | refine blk_drew ?_ | refine blk_alloc ?_ _)); exact BK270.out⟩, ⟨by repeat (first | (with_reducible first | exact HB.out | apply below_alloc | apply pw_below_drewN | apply below_drew1 | refine below_set ?_ GE270.out) | exact HB.out)⟩⟩
                        case round =>
                          clear H'
                          try clear c1
                          try clear c2
                          try clear p2
                          try clear q2
                          try clear hx2
                          try clear hf2
                          try clear c3
                          try clear c6
                          try clear p6
                          try clear c13
                          try clear c15
                          try clear c15b0
                          try clear c16
                          try clear c18
                          try clear c18b0
                          try clear c19
                          try clear c19b0
                          try clear p20
                          try clear q20
                          try clear hx20
                          try clear hf20
                          try clear c22
                          try clear c23
                          try clear c23b0
                          try clear hcz10_0
                          try clear hcz10_1
                          try clear hcz11_0
                          try clear hcz11_1
                          try clear hcz14_0
                          try clear hcz14_1
                          try clear hcz8_0
                          try clear hcz8_1
                          try clear hfz10_0
                          try clear hfz10_1
                          try clear hfz11_0
                          try clear hfz11_1
                          try clear hfz14_0
                          try clear hfz14_1
                          try clear hfz8_0
                          try clear hfz8_1
                          try clear hx20_0
                          try clear p2
                          try clear p20
                          try clear p6
                          try clear q2
                          try clear q20
                          obtain ⟨x6_4, x9_4, rfl, HA, HK4, HO_6, BK270, HB⟩ := hrel
                          have hl6_4 := (Kd.R_reads' HO_6.out).1
                          rw [hl6_4] at HO_6
                          (try simp only [hl6_4])
                          (try simp only [hl6_4] at BK270)
                          cases gk with
                          | zero => exact absurd HA.out (by simp [selfstabref01_Distances.l2])
                          | succ k4 =>
                            have H := HA.out
                            clear HA
                            simp only [selfstabref01_Distances.l2] at H
                            by_cases c24 : x9_4 < (l0_1.length : Int)
                            · rw [if_pos c24] at H
                              have c24b0 : decide (x9_4 < (l0_1.length : Int)) = true := decide_eq_true c24
                              (try (have c24h0 := c24b0; simp only [hl6_3, hl6_4] at c24h0))
                              clear c24
                              have H' := Aside0.mk H
                              clear H
                              go_wp2
                              go_loopg [10] k4 (fun kq v10 w' => ∃ (x6_5 : List Int) (x10_5 : Int), v10 = .int .i64 x10_5 ∧ Aside0 (selfstabref01_Distances.l3 kq (l0_1.length : Int) x6_5 x8_3 x9_4 x10_5 l0_0 l0_1 = some r) ∧ Aside0 (kq ≤ k4) ∧ Aside0 (Kd.R (Kd.int .i64) 3 w' w.heap.size (fun _ => True) (.slice (some ⟨go20, 0, none⟩) x6_4.length co20) x6_5) ∧ Aside0 (w'.heap[gb270]? = some (.cells #[(.slice A0_0 l0_0.length c0_0), (.slice A0_1 l0_1.length c0_1)] 25 (0, 0))) ∧ Aside0 (Below w.heap.size w w'))
                              case atStart => exact ⟨(x6_4), (0), (by first | rfl | (simp; done) | (simp [*]; done)), H', ⟨Nat.le_refl _⟩, ⟨by (try simp only [hl6_3]); (try simp only [hl6_4]); (with_reducible repeat (first | apply Kd.R_alloc | apply Kd.R_drewN | apply Kd.R_drew)); exact HO_6.out⟩, ⟨by (try simp only [hl6_3]); (try simp only [hl6_4]); (with_reducible repeat (first | refine blk_drewN ?_ _ | refine blk_drew ?_ | refine blk_alloc ?_ _)); exact BK270.out⟩, ⟨by repeat (first | (with_reducible first | exact HB.out | apply below_alloc | apply pw_below_drewN | apply below_drew1 | refine below_set ?_ GE270.out) | exact HB.out)⟩⟩
                              case round =>
                                clear H'
                                try clear c1
                                try clear c2
                                try clear p2
                                try clear q2
                                try clear hx2
                                try clear hf2
                                try clear c3
                                try clear c6
                                try clear p6
                                try clear c13
                                try clear c15
                                try clear c15b0
                                try clear c16
                                try clear c18
                                try clear c18b0
                                try clear c19
                                try clear c19b0
                                try clear p20
                                try clear q20
                                try clear hx20
                                try clear hf20
                                try clear c22
                                try clear c23
                                try clear c23b0
                                try clear c24
                                try clear c24b0
                                try clear hcz10_0
                                try clear hcz10_1
                                try clear hcz11_0
                                try clear hcz11_1
                                try clear hcz14_0
                                try clear hcz14_1
                                try clear hcz8_0
                                try clear hcz8_1
                                try clear hfz10_0
                                try clear hfz10_1
                                try clear hfz11_0
                                try clear hfz11_1
                                try clear hfz14_0
                                try clear hfz14_1
                                try clear hfz8_0
                                try clear hfz8_1
                                try clear hx20_0
                                try clear p2
                                try clear p20
                                try clear p6
                                try clear q2
                                try clear q20
                                obtain ⟨x6_5, x10_5, rfl, HA, HK5, HO_6, BK270, HB⟩ := hrel
                                have hl6_5 := (Kd.R_reads' HO_6.out).1
                                rw [hl6_5] at HO_6
                                (try simp only [hl6_5])
                                (try simp only [hl6_5] at BK270)
                                cases gk with
                                | zero => exact absurd HA.out (by simp [selfstabref01_Distances.l3])
                                | succ k5 =>
                                  have H := HA.out
                                  clear HA
                                  simp only [selfstabref01_Distances.l3] at H
                                  have HC25 := Aside0.mk H
                                  clear H
                                  go_upto_region 17 with (fail)
                                  go_cut [61] (fun v61 wc => ∃ (kq : Nat) (x61_24 : Bool), v61 = .bool x61_24 ∧ Aside0 (selfstabref01_Distances.j5 kq (l0_1.length : Int) x6_5 x8_3 x9_4 x10_5 x61_24 l0_0 l0_1 = some r) ∧ Aside0 (kq ≤ k5) ∧ Aside0 (Kd.R (Kd.int .i64) 3 wc w.heap.size (fun _ => True) (.slice (some ⟨go20, 0, none⟩) x6_5.length co20) x6_5) ∧ Aside0 (wc.heap[gb270]? = some (.cells #[(.slice A0_0 l0_0.length c0_0), (.slice A0_1 l0_1.length c0_1)] 25 (0, 0))) ∧ Aside0 (Below w.heap.size w wc))
                                  case first =>
                                    have H := HC25.out
                                    clear HC25
                                    by_cases c26 : 0 ≤ x9_4
                                    · rw [if_pos c26] at H
                                      have c26b0 : decide (0 ≤ x9_4) = true := decide_eq_true c26
                                      clear c26
                                      (first | rw [c26b0] | (simp only [i64_w, i32_w]; rw [c26b0]) | skip)
                                      by_cases c27 : x9_4 < (l0_1.length : Int)
                                      · rw [if_pos c27] at H
                                        have c27b0 : decide (x9_4 < (l0_1.length : Int)) = true := decide_eq_true c27
                                        (try (have c27h0 := c27b0; simp only [hl6_3, hl6_4, hl6_5] at c27h0))
                                        clear c27
                                        by_cases c28 : x10_5 < ((rd_L2 l0_1 x9_4).length : Int)
                                        · rw [if_pos c28] at H
                                          have c28b0 : decide (x10_5 < ((rd_L2 l0_1 x9_4).length : Int)) = true := decide_eq_true c28
                                          (try (have c28h0 := c28b0; simp only [hl6_3, hl6_4, hl6_5] at c28h0))
                                          clear c28
                                          by_cases c29 : x9_4 < (x6_5.length : Int)
                                          · rw [if_pos c29] at H
                                            have c29b0 : decide (x9_4 < (x6_5.length : Int)) = true := decide_eq_true c29
                                            (try (have c29h0 := c29b0; simp only [hl6_3, hl6_4, hl6_5] at c29h0))
                                            clear c29
                                            have H' := Aside0.mk H
                                            clear H
                                            have hcz30_0 : wr.cell? ⟨gb270, 0, none⟩ = some (.slice A0_0 l0_0.length c0_0) := (blk_cell BK270.out 0).trans rfl
                                            have hcz30_1 : wr.cell? ⟨gb270, 1, none⟩ = some (.slice A0_1 l0_1.length c0_1) := (blk_cell BK270.out 1).trans rfl
                                            have hfz30_0 := blk_frozen BK270.out 0
                                            have hfz30_1 := blk_frozen BK270.out 1
                                            have p277 : 0 ≤ (x9_4 : Int) := of_decide_eq_true (by first | (with_reducible assumption) | assumption)
                                            have q277 : x9_4 < (l0_1.length : Int) := of_decide_eq_true (by first | (with_reducible assumption) | assumption)
                                            obtain ⟨ad277, A277_0, c277_0, e277, hx277_0, hl277_0, hi277_0⟩ := at_L2 HR0_1.out x9_4 p277 q277
                                            cases e277
                                            replace hx277_0 := (HB.out.cell (World.block_lt_of_cell? w _ hx277_0)).trans hx277_0
                                            have HR277_0 := Aside0.mk hi277_0
                                            have HC277_0 := Aside0.mk hl277_0
                                            clear hi277_0 hl277_0
                                            replace p277 := eq_true p277
                                            replace q277 := eq_true q277
                                            have p278 : 0 ≤ (x9_4 : Int) := of_decide_eq_true (by first | (with_reducible assumption) | assumption)
                                            have q278 : x9_4 < (x6_5.length : Int) := of_decide_eq_true (by first | (with_reducible assumption) | assumption)
                                            (try (obtain ⟨Az278, cz278, ez278⟩ := Kd.R_slice HO_6.out; subst ez278))
                                            obtain ⟨ad278, e278, hx278_0⟩ := Kd.at_int (Kd.R_reads' HO_6.out).2.2 x9_4 p278 q278
                                            obtain rfl : (⟨go20, 0, none⟩ : Addr) = ad278 := (by injection e278)
                                            (first | simp only [add_plain] at hx278_0 | simp only [add_at] at hx278_0 | simp only [Addr.add, Nat.zero_add] at hx278_0 | skip)
                                            replace p278 := eq_true p278
                                            replace q278 := eq_true q278
                                            go_wp2
                                            go_meet
                                            case rel => exact ⟨_, (decide ((rd x6_5 x9_4) < 0)), (by first | rfl | (simp; done) | (simp [*]; done)), H', ⟨by have := HJ2.out; have := HK2.out; have := HK3.out; have := HK4.out; have := HK5.out; first | omega | exact Nat.le_refl _⟩, ⟨by (try simp only [hl6_3]); (try simp only [hl6_4]); (try simp only [hl6_5]); (with_reducible repeat (first | apply Kd.R_alloc | apply Kd.R_drewN | apply Kd.R_drew)); exact HO_6.out⟩, ⟨by (try simp only [hl6_3]); (try simp only [hl6_4]); (try simp only [hl6_5]); (with_reducible repeat (first | refine blk_drewN ?_ _ | refine blk_drew ?_ | refine blk_alloc ?_ _)); exact BK270.out⟩, ⟨by repeat (first | (with_reducible first | exact HB.out | apply below_alloc | apply pw_below_drewN | apply below_drew1 | refine below_set ?_ GE270.out) | exact HB.out)⟩⟩
                                          · rw [if_neg c29] at H
                                            exact absurd H (by simp)
                                        · rw [if_neg c28] at H
                                          have c28b0 : decide (x10_5 < ((rd_L2 l0_1 x9_4).length : Int)) = false := decide_eq_false c28
                                          (try (have c28h0 := c28b0; simp only [hl6_3, hl6_4, hl6_5] at c28h0))
                                          clear c28
                                          have H' := Aside0.mk H
                                          clear H
                                          have hcz31_0 : wr.cell? ⟨gb270, 0, none⟩ = some (.slice A0_0 l0_0.length c0_0) := (blk_cell BK270.out 0).trans rfl
                                          have hcz31_1 : wr.cell? ⟨gb270, 1, none⟩ = some (.slice A0_1 l0_1.length c0_1) := (blk_cell BK270.out 1).trans rfl
                                          have hfz31_0 := blk_frozen BK270.out 0
                                          have hfz31_1 := blk_frozen BK270.out 1
                                          have p277 : 0 ≤ (x9_4 : Int) := of_decide_eq_true (by first | (with_reducible assumption) | assumption)
                                          have q277 : x9_4 < (l0_1.length : Int) := of_decide_eq_true (by first | (with_reducible assumption) | assumption)
                                          obtain ⟨ad277, A277_0, c277_0, e277, hx277_0, hl277_0, hi277_0⟩ := at_L2 HR0_1.out x9_4 p277 q277
                                          cases e277
                                          replace hx277_0 := (HB.out.cell (World.block_lt_of_cell? w _ hx277_0)).trans hx277_0
                                          have HR277_0 := Aside0.mk hi277_0
                                          have HC277_0 := Aside0.mk hl277_0
                                          clear hi277_0 hl277_0
                                          replace p277 := eq_true p277
                                          replace q277 := eq_true q277
                                          go_wp2
                                          go_meet
                                          case rel => exact ⟨_, (false), (by first | rfl | (simp; done) | (simp [*]; done)), H', ⟨by have := HJ2.out; have := HK2.out; have := HK3.out; have := HK4.out; have := HK5.out; first | omega | exact Nat.le_refl _⟩, ⟨by (try simp only [hl6_3]); (try simp only [hl6_4]); (try simp only [hl6_5]); (with_reducible repeat (first | apply Kd.R_alloc | apply Kd.R_drewN | apply Kd.R_drew)); exact HO_6.out⟩, ⟨by (try simp only [hl6_3]); (try simp only [hl6_4]); (try simp only [hl6_5]); (with_reducible repeat (first | refine blk_drewN ?_ _ | refine blk_drew ?_ | refine blk_alloc ?_ _)); exact BK270.out⟩, ⟨by repeat (first | (with_reducible first | exact HB.out | apply below_alloc | apply pw_below_drewN | apply below_drew1 | refine below_set ?_ GE270.out) | exact HB.out)⟩⟩
                                      · rw [if_neg c27] at H
                                        exact absurd H (by simp)
                                    · rw [if_neg c26] at H
                                      exact absurd H (by simp)
                                  case rest =>
                                    clear HC25
                                    try clear c1
                                    try clear c2
                                    try clear p2
                                    try clear q2
                                    try clear hx2
                                    try clear hf2
                                    try clear c3
                                    try clear c6
                                    try clear p6
                                    try clear c13
                                    try clear c15
                                    try clear c15b0
                                    try clear c16
                                    try clear c18
                                    try clear c18b0
                                    try clear c19
                                    try clear c19b0
                                    try clear p20
                                    try clear q20
                                    try clear hx20
                                    try clear hf20
                                    try clear c22
                                    try clear c23
                                    try clear c23b0
                                    try clear c24
                                    try clear c24b0
                                    try clear c26
                                    try clear c26b0
                                    try clear c27
                                    try clear c27b0
                                    try clear p27
                                    try clear q27
                                    try clear hx27
                                    try clear c28
                                    try clear c28b0
                                    try clear c29
                                    try clear c29b0
                                    try clear hcz10_0
                                    try clear hcz10_1
                                    try clear hcz11_0
                                    try clear hcz11_1
                                    try clear hcz14_0
                                    try clear hcz14_1
                                    try clear hcz30_0
                                    try clear hcz30_1
                                    try clear hcz31_0
                                    try clear hcz31_1
                                    try clear hcz8_0
                                    try clear hcz8_1
                                    try clear hfz10_0
                                    try clear hfz10_1
                                    try clear hfz11_0
                                    try clear hfz11_1
                                    try clear hfz14_0
                                    try clear hfz14_1
                                    try clear hfz30_0
                                    try clear hfz30_1
                                    try clear hfz31_0
                                    try clear hfz31_1
                                    try clear hfz8_0
                                    try clear hfz8_1
                                    try clear hx20_0
                                    try clear hx277_0
                                    try clear hx278_0
                                    try clear p2
                                    try clear p20
                                    try clear p277
                                    try clear p278
                                    try clear p6
                                    try clear q2
                                    try clear q20
                                    try clear q277
                                    try clear q278
                                    obtain ⟨kq, x61_24, rfl, HA, HJ24, HO_6, BK270, HB⟩ := hcut
                                    cases kq with
                                    | zero => exact absurd HA.out (by simp [selfstabref01_Distances.j5])
                                    | succ kj24 =>
                                      have H := HA.out
                                      clear HA
                                      simp only [selfstabref01_Distances.j5] at H
                                      by_cases c32 : x61_24 = true
                                      · subst c32
                                        have H1 : (if 0 ≤ x9_4 then (if x9_4 < (l0_1.length : Int) then (if 0 ≤ x10_5 then (if x10_5 < ((rd_L2 l0_1 x9_4).length : Int) then (if 0 ≤ ((rd_T32 (rd_L2 l0_1 x9_4) x10_5).f0) then (if ((rd_T32 (rd_L2 l0_1 x9_4) x10_5).f0) < (x6_5.length : Int) then (if (rd x6_5 ((rd_T32 (rd_L2 l0_1 x9_4) x10_5).f0)) = (wrap64 (x8_3 - 1)) then (if x9_4 < (x6_5.length : Int) then (selfstabref01_Distances.l3 kj24 (l0_1.length : Int) (x6_5.set (x9_4 : Int).toNat x8_3) x8_3 x9_4 (wrap64 (x10_5 + 1)) l0_0 l0_1) else (none)) else (selfstabref01_Distances.l3 kj24 (l0_1.length : Int) x6_5 x8_3 x9_4 (wrap64 (x10_5 + 1)) l0_0 l0_1)) else (none)) else (none)) else (none)) else (none)) else (none)) else (none)) = some r := by rw [if_pos rfl] at H; exact H
                                        clear H
                                        have H := H1
                                        clear H1
                                        by_cases c33 : 0 ≤ x9_4
                                        · rw [if_pos c33] at H
                                          have c33b0 : decide (0 ≤ x9_4) = true := decide_eq_true c33
                                          clear c33
                                          by_cases c34 : x9_4 < (l0_1.length : Int)
                                          · rw [if_pos c34] at H
                                            have c34b0 : decide (x9_4 < (l0_1.length : Int)) = true := decide_eq_true c34
                                            (try (have c34h0 := c34b0; simp only [hl6_3, hl6_4, hl6_5] at c34h0))
                                            clear c34
                                            by_cases c35 : 0 ≤ x10_5
                                            · rw [if_pos c35] at H
                                              have c35b0 : decide (0 ≤ x10_5) = true := decide_eq_true c35
                                              clear c35
                                              by_cases c36 : x10_5 < ((rd_L2 l0_1 x9_4).length : Int)
                                              · rw [if_pos c36] at H
                                                have c36b0 : decide (x10_5 < ((rd_L2 l0_1 x9_4).length : Int)) = true := decide_eq_true c36
                                                (try (have c36h0 := c36b0; simp only [hl6_3, hl6_4, hl6_5] at c36h0))
                                                clear c36
                                                by_cases c37 : 0 ≤ ((rd_T32 (rd_L2 l0_1 x9_4) x10_5).f0)
                                                · rw [if_pos c37] at H
                                                  have c37b0 : decide (0 ≤ ((rd_T32 (rd_L2 l0_1 x9_4) x10_5).f0)) = true := decide_eq_true c37
                                                  clear c37
                                                  by_cases c38 : ((rd_T32 (rd_L2 l0_1 x9_4) x10_5).f0) < (x6_5.length : Int)
                                                  · rw [if_pos c38] at H
                                                    have c38b0 : decide (((rd_T32 (rd_L2 l0_1 x9_4) x10_5).f0) < (x6_5.length : Int)) = true := decide_eq_true c38
                                                    (try (have c38h0 := c38b0; simp only [hl6_3, hl6_4, hl6_5] at c38h0))
                                                    clear c38
                                                    by_cases c39 : (rd x6_5 ((rd_T32 (rd_L2 l0_1 x9_4) x10_5).f0)) = (wrap64 (x8_3 - 1))
                                                    · rw [if_pos c39] at H
                                                      have c39b0 : ((rd x6_5 ((rd_T32 (rd_L2 l0_1 x9_4) x10_5).f0)) == (wrap64 (x8_3 - 1))) = true := beq_iff_eq.mpr c39
                                                      have c39b1 : ((rd x6_5 ((rd_T32 (rd_L2 l0_1 x9_4) x10_5).f0)) != (wrap64 (x8_3 - 1))) = false := bne_eq_false_iff_eq.mpr c39
                                                      clear c39
                                                      by_cases c40 : x9_4 < (x6_5.length : Int)
                                                      · rw [if_pos c40] at H
                                                        have c40b0 : decide (x9_4 < (x6_5.length : Int)) = true := decide_eq_true c40
                                                        (try (have c40h0 := c40b0; simp only [hl6_3, hl6_4, hl6_5] at c40h0))
                                                        clear c40
                                                        obtain ⟨y282, hy282⟩ : ∃ y_ : List Int, y_ = (x6_5.set (x9_4 : Int).toNat x8_3) := ⟨_, rfl⟩
                                                        replace H : (selfstabref01_Distances.l3 kj24 (l0_1.length : Int) y282 x8_3 x9_4 (wrap64 (x10_5 + 1)) l0_0 l0_1) = some r := by first | (rw [hy282]; with_reducible exact H) | (have H2_ := (Option.bind_some _ _).symm.trans H; rw [hy282]; with_reducible exact H2_) | (have H2_ := (Option.bind_some _ _).symm.trans H; with_reducible exact H2_) | with_reducible exact H | (rw [hy282]; exact H) | exact H
                                                        have Ny282 := Aside0.mk hy282
                                                        clear hy282
                                                        have H' := Aside0.mk H
                                                        clear H
                                                        have hcz42_0 : wc.cell? ⟨gb270, 0, none⟩ = some (.slice A0_0 l0_0.length c0_0) := (blk_cell BK270.out 0).trans rfl
                                                        have hcz42_1 : wc.cell? ⟨gb270, 1, none⟩ = some (.slice A0_1 l0_1.length c0_1) := (blk_cell BK270.out 1).trans rfl
                                                        have hfz42_0 := blk_frozen BK270.out 0
                                                        have hfz42_1 := blk_frozen BK270.out 1
                                                        have p279 : 0 ≤ (x9_4 : Int) := of_decide_eq_true (by first | (with_reducible assumption) | assumption)
                                                        have q279 : x9_4 < (l0_1.length : Int) := of_decide_eq_true (by first | (with_reducible assumption) | assumption)
                                                        obtain ⟨ad279, A279_0, c279_0, e279, hx279_0, hl279_0, hi279_0⟩ := at_L2 HR0_1.out x9_4 p279 q279
                                                        cases e279
                                                        replace hx279_0 := (HB.out.cell (World.block_lt_of_cell? w _ hx279_0)).trans hx279_0
                                                        have HR279_0 := Aside0.mk hi279_0
                                                        have HC279_0 := Aside0.mk hl279_0
                                                        clear hi279_0 hl279_0
                                                        replace p279 := eq_true p279
                                                        replace q279 := eq_true q279
                                                        have p280 : 0 ≤ (x10_5 : Int) := of_decide_eq_true (by first | (with_reducible assumption) | assumption)
                                                        have q280 : x10_5 < ((rd_L2 l0_1 x9_4).length : Int) := of_decide_eq_true (by first | (with_reducible assumption) | assumption)
                                                        obtain ⟨ad280, e280, hx280_0, hx280_1⟩ := at_T32 HR279_0.out x10_5 p280 q280
                                                        cases e280
                                                        replace hx280_0 := (HB.out.cell (World.block_lt_of_cell? w _ hx280_0)).trans hx280_0
                                                        replace hx280_1 := (HB.out.cell (World.block_lt_of_cell? w _ hx280_1)).trans hx280_1
                                                        replace p280 := eq_true p280
                                                        replace q280 := eq_true q280
                                                        have p281 : 0 ≤ (((rd_T32 (rd_L2 l0_1 x9_4) x10_5).f0) : Int) := of_decide_eq_true (by first | (with_reducible assumption) | assumption)
                                                        have q281 : ((rd_T32 (rd_L2 l0_1 x9_4) x10_5).f0) < (x6_5.length : Int) := of_decide_eq_true (by first | (with_reducible assumption) | assumption)
                                                        (try (obtain ⟨Az281, cz281, ez281⟩ := Kd.R_slice HO_6.out; subst ez281))
                                                        obtain ⟨ad281, e281, hx281_0⟩ := Kd.at_int (Kd.R_reads' HO_6.out).2.2 ((rd_T32 (rd_L2 l0_1 x9_4) x10_5).f0) p281 q281
                                                        obtain rfl : (⟨go20, 0, none⟩ : Addr) = ad281 := (by injection e281)
                                                        (first | simp only [add_plain] at hx281_0 | simp only [add_at] at hx281_0 | simp only [Addr.add, Nat.zero_add] at hx281_0 | skip)
                                                        replace p281 := eq_true p281
                                                        replace q281 := eq_true q281
                                                        have p41 : 0 ≤ (x9_4 : Int) := of_decide_eq_true (by first | (with_reducible assumption) | assumption)
                                                        have q41 : (x9_4 : Int) < ((x6_5.length : Int) : Int) := of_decide_eq_true (by first | (with_reducible assumption) | assumption)
                                                        obtain ⟨hx41_0, hf41_0⟩ := Kd.R_celln 0 HO_6.out (x9_4 : Int) p41 q41
                                                        replace p41 := eq_true p41
                                                        replace q41 := eq_true q41
                                                        have HP43 := Kd.R_putg HO_6.out (x9_4 : Int) x8_3
                                                        go_wp2_with (first | ((with_reducible refine gate_store (t := 3) (p := 82) rfl ?_); refine store_event (t := 3) (p := 82) (v := ?vo_w44) (w1 := (wc.setCell ⟨go20, (x9_4 : Int).toNat, none⟩ (.int .i64 x8_3))) ?hg ?ho ?hn ?hr ?_; (case ho => rfl); (case hg => rfl); (case hn => rfl); (case hr => first | (go_simp; done) | (go_simp; rfl)); intro w44 hw; have hg : wc.grownBy w44 (some go20) := (by rw [hw]; exact HP43.2); have hp_ : Kd.R (Kd.int .i64) 3 w44 w.heap.size (fun _ => True) (.slice (some ⟨go20, 0, none⟩) x6_5.length co20) y282 := (by rw [hw, Ny282.out]; exact HP43.1); clear HP43; have n0_ := Aside0.mk (hp_); have n1_ := Aside0.mk (blk_grown (g := gb270) (o := .cells #[.slice A0_0 l0_0.length c0_0, .slice (some ad279) l0_1.length c0_1] 25 (0, 0)) (by (with_reducible repeat (first | refine blk_drewN ?_ _ | refine blk_drew ?_ | refine blk_alloc ?_ _)); exact BK270.out) hg (Kd.R_ne HO_6.out BK270.out (by decide))); have n2_ := Aside0.mk ((by rw [hw]; exact below_set (HB.out) GB20.out : Below w.heap.size w w44)); clear HO_6; clear BK270; clear HB; have HO_6 := n0_; have BK270 := n1_; have HB := n2_; clear n0_ n1_ n2_; clear hg hw hp_))
                                                        (try simp only [← hl6_5])
                                                        go_roundg kj24
                                                        case measure => have := HJ2.out; have := HK2.out; have := HK3.out; have := HK4.out; have := HK5.out; have := HJ24.out; omega
                                                        case rel => exact ⟨(y282), (wrap64 (x10_5 + 1)), (by first | rfl | (simp; done) | (simp [*]; done)), H', ⟨by have := HJ2.out; have := HK2.out; have := HK3.out; have := HK4.out; have := HK5.out; have := HJ24.out; omega⟩, ⟨by (try simp only [hl6_3]); (try simp only [hl6_4]); (try simp only [hl6_5]); (with_reducible repeat (first | apply Kd.R_alloc | apply Kd.R_drewN | apply Kd.R_drew)); exact HO_6.out⟩, ⟨by (try simp only [hl6_3]); (try simp only [hl6_4]); (try simp only [hl6_5]); (with_reducible repeat (first | refine blk_drewN ?_ _ | refine blk_drew ?_ | refine blk_alloc ?_ _)); exact BK270.out⟩, ⟨by repeat (first | (with_reducible first | exact HB.out | apply below_alloc | apply pw_below_drewN | apply below_drew1 | refine below_set ?_ GE270.out) | exact HB.out)⟩⟩
                                                      · rw [if_neg c40] at H
                                                        exact absurd H (by simp)
                                                    · rw [if_neg c39] at H
                                                      have c39b0 : ((rd x6_5 ((rd_T32 (rd_L2 l0_1 x9_4) x10_5).f0)) == (wrap64 (x8_3 - 1))) = false := beq_eq_false_iff_ne.mpr c39
                                                      have c39b1 : ((rd x6_5 ((rd_T32 (rd_L2 l0_1 x9_4) x10_5).f0)) != (wrap64 (x8_3 - 1))) = true := bne_iff_ne.mpr c39
                                                      have H' := Aside0.mk H
                                                      clear H
                                                      have hcz45_0 : wc.cell? ⟨gb270, 0, none⟩ = some (.slice A0_0 l0_0.length c0_0) := (blk_cell BK270.out 0).trans rfl
                                                      have hcz45_1 : wc.cell? ⟨gb270, 1, none⟩ = some (.slice A0_1 l0_1.length c0_1) := (blk_cell BK270.out 1).trans rfl
                                                      have hfz45_0 := blk_frozen BK270.out 0
                                                      have hfz45_1 := blk_frozen BK270.out 1
                                                      have p279 : 0 ≤ (x9_4 : Int) := of_decide_eq_true (by first | (with_reducible assumption) | assumption)
                                                      have q279 : x9_4 < (l0_1.length : Int) := of_decide_eq_true (by first | (with_reducible assumption) | assumption)
                                                      obtain ⟨ad279, A279_0, c279_0, e279, hx279_0, hl279_0, hi279_0⟩ := at_L2 HR0_1.out x9_4 p279 q279
                                                      cases e279
                                                      replace hx279_0 := (HB.out.cell (World.block_lt_of_cell? w _ hx279_0)).trans hx279_0
                                                      have HR279_0 := Aside0.mk hi279_0
                                                      have HC279_0 := Aside0.mk hl279_0
                                                      clear hi279_0 hl279_0
                                                      replace p279 := eq_true p279
                                                      replace q279 := eq_true q279
                                                      have p280 : 0 ≤ (x10_5 : Int) := of_decide_eq_true (by first | (with_reducible assumption) | assumption)
                                                      have q280 : x10_5 < ((rd_L2 l0_1 x9_4).length : Int) := of_decide_eq_true (by first | (with_reducible assumption) | assumption)
                                                      obtain ⟨ad280, e280, hx280_0, hx280_1⟩ := at_T32 HR279_0.out x10_5 p280 q280
                                                      cases e280
                                                      replace hx280_0 := (HB.out.cell (World.block_lt_of_cell? w _ hx280_0)).trans hx280_0
                                                      replace hx280_1 := (HB.out.cell (World.block_lt_of_cell? w _ hx280_1)).trans hx280_1
                                                      replace p280 := eq_true p280
                                                      replace q280 := eq_true q280
                                                      have p281 : 0 ≤ (((rd_T32 (rd_L2 l0_1 x9_4) x10_5).f0) : Int) := of_decide_eq_true (by first | (with_reducible assumption) | assumption)
                                                      have q281 : ((rd_T32 (rd_L2 l0_1 x9_4) x10_5).f0) < (x6_5.length : Int) := of_decide_eq_true (by first | (with_reducible assumption) | assumption)
                                                      (try (obtain ⟨Az281, cz281, ez281⟩ := Kd.R_slice HO_6.out; subst ez281))
                                                      obtain ⟨ad281, e281, hx281_0⟩ := Kd.at_int (Kd.R_reads' HO_6.out).2.2 ((rd_T32 (rd_L2 l0_1 x9_4) x10_5).f0) p281 q281
                                                      obtain rfl : (⟨go20, 0, none⟩ : Addr) = ad281 := (by injection e281)
                                                      (first | simp only [add_plain] at hx281_0 | simp only [add_at] at hx281_0 | simp only [Addr.add, Nat.zero_add] at hx281_0 | skip)
                                                      replace p281 := eq_true p281
                                                      replace q281 := eq_true q281
                                                      go_wp2
                                                      (try simp only [← hl6_5])
                                                      go_roundg kj24
                                                      case measure => have := HJ2.out; have := HK2.out; have := HK3.out; have := HK4.out; have := HK5.out; have := HJ24.out; omega
                                                      case rel => exact ⟨(x6_5), (wrap64 (x10_5 + 1)), (by first | rfl | (simp; done) | (simp [*]; done)), H', ⟨by have := HJ2.out; have := HK2.out; have := HK3.out; have := HK4.out; have := HK5.out; have := HJ24.out; omega⟩, ⟨by (try simp only [hl6_3]); (try simp only [hl6_4]); (try simp only [hl6_5]); (with_reducible repeat (first | apply Kd.R_alloc | apply Kd.R_drewN | apply Kd.R_drew)); exact HO_6.out⟩, ⟨by (try simp only [hl6_3]); (try simp only [hl6_4]); (try simp only [hl6_5]); (with_reducible repeat (first | refine blk_drewN ?_ _ | refine blk_drew ?_ | refine blk_alloc ?_ _)); exact BK270.out⟩, ⟨by repeat (first | (with_reducible first | exact HB.out | apply below_alloc | apply pw_below_drewN | apply below_drew1 | refine below_set ?_ GE270.out) | exact HB.out)⟩⟩
                                                  · rw [if_neg c38] at H
                                                    exact absurd H (by simp)
                                                · rw [if_neg c37] at H
                                                  exact absurd H (by simp)
                                              · rw [if_neg c36] at H
                                                exact absurd H (by simp)
                                            · rw [if_neg c35] at H
                                              exact absurd H (by simp)
                                          · rw [if_neg c34] at H
                                            exact absurd H (by simp)
                                        · rw [if_neg c33] at H
                                          exact absurd H (by simp)
                                      · replace c32 := Bool.eq_false_iff.mpr c32
                                        subst c32
                                        have H1 : (selfstabref01_Distances.l2 kj24 (l0_1.length : Int) x6_5 x8_3 (wrap64 (x9_4 + 1)) l0_0 l0_1) = some r := by rw [if_neg (show ¬ (false = true) by decide)] at H; exact H
                                        clear H
                                        have H := H1
                                        clear H1
                                        have H' := Aside0.mk H
                                        clear H
                                        go_wp2
                                        (try simp only [← hl6_4, ← hl6_5])
                                        go_roundg kj24
                                        case measure => have := HJ2.out; have := HK2.out; have := HK3.out; have := HK4.out; have := HK5.out; have := HJ24.out; omega
                                        case rel => exact ⟨(x6_5), (wrap64 (x9_4 + 1)), (by first | rfl | (simp; done) | (simp [*]; done)), H', ⟨by have := HJ2.out; have := HK2.out; have := HK3.out; have := HK4.out; have := HK5.out; have := HJ24.out; omega⟩, ⟨by (try simp only [hl6_3]); (try simp only [hl6_4]); (try simp only [hl6_5]); (with_reducible repeat (first | apply Kd.R_alloc | apply Kd.R_drewN | apply Kd.R_drew)); exact HO_6.out⟩, ⟨by (try simp only [hl6_3]); (try simp only [hl6_4]); (try simp only [hl6_5]); (with_reducible repeat (first | refine blk_drewN ?_ _ | refine blk_drew ?_ | refine blk_alloc ?_ _)); exact BK270.out⟩, ⟨by repeat (first | (with_reducible first | exact HB.out | apply below_alloc | apply pw_below_drewN | apply below_drew1 | refine below_set ?_ GE270.out) | exact HB.out)⟩⟩
                            · rw [if_neg c24] at H
                              have c24b0 : decide (x9_4 < (l0_1.length : Int)) = false := decide_eq_false c24
                              (try (have c24h0 := c24b0; simp only [hl6_3, hl6_4] at c24h0))
                              clear c24
                              have H' := Aside0.mk H
                              clear H
                              go_wp2
                              (try simp only [← hl6_3, ← hl6_4])
                              go_roundg k4
                              case measure => have := HJ2.out; have := HK2.out; have := HK3.out; have := HK4.out; omega
                              case rel => exact ⟨(x6_4), (wrap64 (x8_3 + 1)), (by first | rfl | (simp; done) | (simp [*]; done)), H', ⟨by have := HJ2.out; have := HK2.out; have := HK3.out; have := HK4.out; omega⟩, ⟨by (try simp only [hl6_3]); (try simp only [hl6_4]); (with_reducible repeat (first | apply Kd.R_alloc | apply Kd.R_drewN | apply Kd.R_drew)); exact HO_6.out⟩, ⟨by (try simp only [hl6_3]); (try simp only [hl6_4]); (with_reducible repeat (first | refine blk_drewN ?_ _ | refine blk_drew ?_ | refine blk_alloc ?_ _)); exact BK270.out⟩, ⟨by repeat (first | (with_reducible first | exact HB.out | apply below_alloc | apply pw_below_drewN | apply below_drew1 | refine below_set ?_ GE270.out) | exact HB.out)⟩⟩
                      · rw [if_neg c23] at H
                        have c23b0 : decide (x8_3 < (l0_1.length : Int)) = false := decide_eq_false c23
                        (try (have c23h0 := c23b0; simp only [hl6_3] at c23h0))
                        clear c23
                        obtain rfl := Option.some.inj H
                        go_wp2
                        go_ret
                        exact ⟨_, by first | rfl | (simp [errW_none, errW_some] <;> rfl) | (simp [*, errW_none, errW_some] <;> rfl), by (with_reducible repeat (first | apply Kd.R_alloc | apply Kd.R_drewN | apply Kd.R_drew)); exact HO_6.out, by repeat (first | (with_reducible first | exact HB.out | apply below_alloc | apply pw_below_drewN | apply below_drew1 | refine below_set ?_ GE270.out) | exact HB.out)⟩
                · rw [if_neg c19] at H
                  exact absurd H (by simp)
              · rw [if_neg c18] at H
                exact absurd H (by simp)

end Go.Proofs.Ytbpolpagcaacoaa.P
