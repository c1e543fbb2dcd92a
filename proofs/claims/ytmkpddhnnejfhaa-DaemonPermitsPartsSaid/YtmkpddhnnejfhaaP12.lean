-- By a program of this session (wip/tools/myprint.py over the kit's printer). Not trusted: Lean checks it.
import Derived.Test.YtmkpddhnnejfhaaP0
import Derived.Test.YtmkpddhnnejfhaaP1
import Derived.Test.YtmkpddhnnejfhaaP3
import Derived.Test.YtmkpddhnnejfhaaP4
namespace Go.Proofs.Ytmkpddhnnejfhaa.P
open Go.RowKit Go.Proofs.YtmkpddhnnejfhaaW.PrintWords Go.Proofs.YtmkpddhnnejfhaaW.PrintLast Go.Proofs.YtmkpddhnnejfhaaW.PrintMore
attribute [local go_sem] max2_int min2_int max_two min_two max_three min_three max_four min_four   -- for this text's walks alone
set_option linter.unusedVariables false
set_option linter.unusedSimpArgs false

/-! ### selfstablaw15_DaemonPermitsParts: function 7 -/
mutual
def selfstablaw15_DaemonPermitsParts.j0 : Nat → Int → Int → Int → Int → List Int → List (List (S58)) → Option (Bool)
  | 0, _, _, _, _, _, _ => none
  | k + 1, x2, x3, x4, x11, x303000, x303001 => if (Go.bits .and .u32 x4 x3) = 0 then (selfstablaw15_DaemonPermitsParts.j1 k x2 x3 (Go.bits .and .u32 x4 x3) x11 true x303000 x303001) else ((daemon_Permits.f k x303000 x303001 x11 x2 x3).bind fun t305 => (selfstablaw15_DaemonPermitsParts.j1 k x2 x3 (Go.bits .and .u32 x4 x3) x11 (!t305) x303000 x303001))
def selfstablaw15_DaemonPermitsParts.j1 : Nat → Int → Int → Int → Int → Bool → List Int → List (List (S58)) → Option (Bool)
  | 0, _, _, _, _, _, _, _ => none
  | k + 1, x2, x3, x4, x11, x29, x303000, x303001 => if x29 = true then ((selfstablaw15_awake.f k).bind fun t306 => (if t306 = true then ((daemon_Permits.f k x303000 x303001 x11 x2 0).bind fun t307 => (some (!t307))) else (none))) else ((selfstablaw15_awake.f k).bind fun t308 => (if t308 = true then ((daemon_Permits.f k x303000 x303001 x11 x2 x4).bind fun t309 => (if t309 = true then ((daemon_Permits.f k x303000 x303001 x11 x3 x4).bind fun t310 => (some t310)) else (none))) else (none)))
end
def selfstablaw15_DaemonPermitsParts.f (k : Nat) (l0_0 : List Int) (l0_1 : List (List (S58))) (a1 : Bool) (a2 : Int) (a3 : Int) (a4 : Int) : Option (Bool) := (selfstablaw15_fair.f k l0_0 l0_1).bind fun t303 => (if t303 = true then (if a1 = true then (selfstablaw15_DaemonPermitsParts.j0 k a2 a3 a4 2 l0_0 l0_1) else (selfstablaw15_DaemonPermitsParts.j0 k a2 a3 a4 3 l0_0 l0_1)) else ((selfstablaw15_awake.f k).bind fun t304 => (some t304)))
theorem selfstablaw15_DaemonPermitsParts.mono_l : ∀ k, (∀ y0 y1 y2 y3 y4 y5, LeO (selfstablaw15_DaemonPermitsParts.j0 k y0 y1 y2 y3 y4 y5) (selfstablaw15_DaemonPermitsParts.j0 (k + 1) y0 y1 y2 y3 y4 y5)) ∧ (∀ y0 y1 y2 y3 y4 y5 y6, LeO (selfstablaw15_DaemonPermitsParts.j1 k y0 y1 y2 y3 y4 y5 y6) (selfstablaw15_DaemonPermitsParts.j1 (k + 1) y0 y1 y2 y3 y4 y5 y6))
  | 0 => ⟨fun _ _ _ _ _ _ r h => by simp [selfstablaw15_DaemonPermitsParts.j0] at h, fun _ _ _ _ _ _ _ r h => by simp [selfstablaw15_DaemonPermitsParts.j1] at h⟩
  | k + 1 => by
    obtain ⟨ih0, ih1⟩ := selfstablaw15_DaemonPermitsParts.mono_l k
    refine ⟨?_, ?_⟩
    · intro y0 y1 y2 y3 y4 y5
      unfold selfstablaw15_DaemonPermitsParts.j0
      repeat' first
      | (with_reducible exact ih0 _ _ _ _ _ _)
      | (with_reducible exact ih1 _ _ _ _ _ _ _)
      | (with_reducible exact daemon_Permits.mono _ _ _ _ _ _)
      | (with_reducible exact selfstablaw15_awake.mono _)
      | (with_reducible exact selfstablaw15_fair.mono _ _ _)
      | (with_reducible exact LeO.refl _)
      | (with_reducible exact LeO.none _)
      | (with_reducible refine LeO.ite ?_ ?_)
      | (with_reducible refine LeO.bind ?_ (fun _ => ?_))
      | exact ih0 _ _ _ _ _ _
      | exact ih1 _ _ _ _ _ _ _
      | exact daemon_Permits.mono _ _ _ _ _ _
      | exact selfstablaw15_awake.mono _
      | exact selfstablaw15_fair.mono _ _ _
      | exact LeO.none _
      | refine LeO.ite ?_ ?_
      | refine LeO.bind ?_ (fun _ => ?_)
    · intro y0 y1 y2 y3 y4 y5 y6
      unfold selfstablaw15_DaemonPermitsParts.j1
      repeat' first
      | (with_reducible exact ih0 _ _ _ _ _ _)
      | (with_reducible exact ih1 _ _ _ _ _ _ _)
      | (with_reducible exact daemon_Permits.mono _ _ _ _ _ _)
      | (with_reducible exact selfstablaw15_awake.mono _)
      | (with_reducible exact selfstablaw15_fair.mono _ _ _)
      | (with_reducible exact LeO.refl _)
      | (with_reducible exact LeO.none _)
      | (with_reducible refine LeO.ite ?_ ?_)
      | (with_reducible refine LeO.bind ?_ (fun _ => ?_))
      | exact ih0 _ _ _ _ _ _
      | exact ih1 _ _ _ _ _ _ _
      | exact daemon_Permits.mono _ _ _ _ _ _
      | exact selfstablaw15_awake.mono _
      | exact selfstablaw15_fair.mono _ _ _
      | exact LeO.none _
      | refine LeO.ite ?_ ?_
      | refine LeO.bind ?_ (fun _ => ?_)
theorem selfstablaw15_DaemonPermitsParts.mono : ∀ a0 a1 a2 a3 a4 a5 k, LeO (selfstablaw15_DaemonPermitsParts.f k a0 a1 a2 a3 a4 a5) (selfstablaw15_DaemonPermitsParts.f (k + 1) a0 a1 a2 a3 a4 a5) := by
  intro a0 a1 a2 a3 a4 a5 k
  obtain ⟨ih0, ih1⟩ := selfstablaw15_DaemonPermitsParts.mono_l k
  unfold selfstablaw15_DaemonPermitsParts.f
  repeat' first
      | (with_reducible exact ih0 _ _ _ _ _ _)
      | (with_reducible exact ih1 _ _ _ _ _ _ _)
      | (with_reducible exact daemon_Permits.mono _ _ _ _ _ _)
      | (with_reducible exact selfstablaw15_awake.mono _)
      | (with_reducible exact selfstablaw15_fair.mono _ _ _)
      | (with_reducible exact LeO.refl _)
      | (with_reducible exact LeO.none _)
      | (with_reducible refine LeO.ite ?_ ?_)
      | (with_reducible refine LeO.bind ?_ (fun _ => ?_))
      | exact ih0 _ _ _ _ _ _
      | exact ih1 _ _ _ _ _ _ _
      | exact daemon_Permits.mono _ _ _ _ _ _
      | exact selfstablaw15_awake.mono _
      | exact selfstablaw15_fair.mono _ _ _
      | exact LeO.none _
      | refine LeO.ite ?_ ?_
      | refine LeO.bind ?_ (fun _ => ?_)
set_option maxHeartbeats 8000000 in
set_option maxRecDepth 100000 in
theorem selfstablaw15_DaemonPermitsParts.calls (k : Nat) (A0_0 : Option Addr) (c0_0 : Nat) (l0_0 : List Int) (A0_1 : Option Addr) (c0_1 : Nat) (l0_1 : List (List (S58))) (a1 : Bool) (a2 : Int) (a3 : Int) (a4 : Int) (r : Bool) (w : World) (hr0_0 : Kd.C (Kd.int .i64) w A0_0 l0_0.length l0_0) (hc0_0 : l0_0.length ≤ c0_0) (hr0_1 : Kd.C (Kd.slice 58 k58) w A0_1 l0_1.length l0_1) (hc0_1 : l0_1.length ≤ c0_1) (h : selfstablaw15_DaemonPermitsParts.f k l0_0 l0_1 a1 a2 a3 a4 = some r) :
    Calls Try.prog 7 #[.agg #[.slice A0_0 l0_0.length c0_0, .slice A0_1 l0_1.length c0_1], .bool a1, .int .u32 a2, .int .u32 a3, .int .u32 a4] w fun e w' => e = .returned (.bool r) ∧ Below w.heap.size w w' := by
  have hu25 := Try.underlying25
  have HR0_0 := Aside0.mk hr0_0
  have HC0_0 := Aside0.mk hc0_0
  clear hr0_0 hc0_0
  have HR0_1 := Aside0.mk hr0_1
  have HC0_1 := Aside0.mk hc0_1
  clear hr0_1 hc0_1
  have HB := Aside0.mk (Below.refl w.heap.size w)
  have H : ((selfstablaw15_fair.f k l0_0 l0_1).bind fun t303 => (if t303 = true then (if a1 = true then (selfstablaw15_DaemonPermitsParts.j0 k a2 a3 a4 2 l0_0 l0_1) else (selfstablaw15_DaemonPermitsParts.j0 k a2 a3 a4 3 l0_0 l0_1)) else ((selfstablaw15_awake.f k).bind fun t304 => (some t304)))) = some r := h
  clear h
  replace H := Option.bind_eq_some_iff.mp H
  obtain ⟨t303, A60, H⟩ := H
  replace H : (if t303 = true then (if a1 = true then (selfstablaw15_DaemonPermitsParts.j0 k a2 a3 a4 2 l0_0 l0_1) else (selfstablaw15_DaemonPermitsParts.j0 k a2 a3 a4 3 l0_0 l0_1)) else ((selfstablaw15_awake.f k).bind fun t304 => (some t304))) = some r := H
  have A6 := Aside0.mk A60
  clear A60
  by_cases c7 : t303 = true
  · subst c7
    have H1 : (if a1 = true then (selfstablaw15_DaemonPermitsParts.j0 k a2 a3 a4 2 l0_0 l0_1) else (selfstablaw15_DaemonPermitsParts.j0 k a2 a3 a4 3 l0_0 l0_1)) = some r := by rw [if_pos rfl] at H; exact H
    clear H
    have H := H1
    clear H1
    have HC8 := Aside0.mk H
    clear H
    go_enter Try.func7, Try.ntmps7
    go_upto_if 16 with (first | ((with_reducible refine gate_dst (N := 5) rfl ?_); refine box_event ?hg (N := 5) ?hd (cs := #[.slice A0_0 l0_0.length c0_0, .slice A0_1 l0_1.length c0_1]) (t := 25) ?hr ?_; (case hd => rfl); (case hg => rfl); (case hr => first | (go_simp; done) | (go_simp; rfl)); intro gb302 hg w9 hbox hb; have n0_ := Aside0.mk (below_step (by repeat (first | (with_reducible first | exact HB.out | apply below_alloc | apply pw_below_drewN | apply below_drew1) | exact HB.out)) hb); have n1_ := Aside0.mk (hbox); have n2_ := Aside0.mk ((by rw [hg]; exact (below_size (by repeat (first | (with_reducible first | exact HB.out | apply below_alloc | apply pw_below_drewN | apply below_drew1) | exact HB.out))) : w.heap.size ≤ gb302)); have n3_ := Aside0.mk ((by rw [hg]; exact (below_size (by repeat (first | (with_reducible first | exact HB.out | apply below_alloc | apply pw_below_drewN | apply below_drew1) | exact HB.out))) : w.heap.size ≤ gb302)); clear HB; have HB := n0_; have BK302 := n1_; have GW302 := n2_; have GE302 := n3_; clear n0_ n1_ n2_ n3_; clear hb hbox hg; have hcz10_0 : w9.cell? ⟨gb302, 0, none⟩ = some (.slice A0_0 l0_0.length c0_0) := (blk_cell BK302.out 0).trans rfl; have hcz10_1 : w9.cell? ⟨gb302, 1, none⟩ = some (.slice A0_1 l0_1.length c0_1) := (blk_cell BK302.out 1).trans rfl; have hfz10_0 := blk_frozen BK302.out 0; have hfz10_1 := blk_frozen BK302.out 1) | ((with_reducible refine gate_callee (f := 17) rfl ?_); refine goesL_ (some 13) rfl rfl Try.func17 (by kernel_rfl) rfl #[.agg #[.slice A0_0 l0_0.length c0_0, .slice A0_1 l0_1.length c0_1]] rfl (by (try simp only [List.map_toArray, List.map_cons, List.map_nil]); first | done | rfl | (simp only [List.length_drop, List.length_take]; rfl)) ?_; (with_reducible refine (selfstablaw15_fair.calls k _ _ l0_0 _ _ l0_1 true _ ?side1 ?side2 ?side3 ?side4 A6.out).mono ?_); (case side1 => repeat (first | exact (Kd.C_below HR0_0.out HB.out) | (with_reducible refine Kd.C_alloc ?_ _) | (with_reducible refine Kd.C_drewN ?_ _) | (with_reducible refine Kd.C_drew ?_))); (case side2 => exact HC0_0.out); (case side3 => repeat (first | exact (Kd.C_below HR0_1.out HB.out) | (with_reducible refine Kd.C_alloc ?_ _) | (with_reducible refine Kd.C_drewN ?_ _) | (with_reducible refine Kd.C_drew ?_))); (case side4 => exact HC0_1.out); rintro e w11 ⟨rfl, hb⟩; refine ⟨_, rfl, ?_⟩; have n0_ := Aside0.mk (blk_below (g := gb302) (o := .cells #[.slice A0_0 l0_0.length c0_0, .slice A0_1 l0_1.length c0_1] 25 (0, 0)) (by (with_reducible repeat (first | refine blk_drewN ?_ _ | refine blk_drew ?_ | refine blk_alloc ?_ _)); exact BK302.out) hb); have n1_ := Aside0.mk (below_step (by repeat (first | (with_reducible first | exact HB.out | apply below_alloc | apply pw_below_drewN | apply below_drew1 | refine below_set ?_ GE302.out) | exact HB.out)) hb); clear BK302; clear HB; have BK302 := n0_; have HB := n1_; clear n0_ n1_; (try clear hb); (try clear hb2); (try clear hk); (try clear hi)))
    (try simp only [Act.put, List.setIfInBounds_toArray, List.set_cons_zero, List.set_cons_succ])
    go_cut [11] (fun v11 wc => ∃ (kq : Nat) (x11_7 : Int), v11 = .int .i64 x11_7 ∧ Aside0 (selfstablaw15_DaemonPermitsParts.j0 kq a2 a3 a4 x11_7 l0_0 l0_1 = some r) ∧ Aside0 (kq ≤ k) ∧ Aside0 (wc.heap[gb302]? = some (.cells #[(.slice A0_0 l0_0.length c0_0), (.slice A0_1 l0_1.length c0_1)] 25 (0, 0))) ∧ Aside0 (Below w.heap.size w wc))
    case first =>
      have H := HC8.out
      clear HC8
      by_cases c12 : a1 = true
      · subst c12
        have H1 : (selfstablaw15_DaemonPermitsParts.j0 k a2 a3 a4 2 l0_0 l0_1) = some r := by rw [if_pos rfl] at H; exact H
        clear H
        have H := H1
        clear H1
        have H' := Aside0.mk H
        clear H
        go_wp2
        go_meet
        case rel => exact ⟨_, (2), (by first | rfl | (simp; done) | (simp [*]; done)), H', ⟨by first | omega | exact Nat.le_refl _⟩, ⟨by (with_reducible repeat (first | refine blk_drewN ?_ _ | refine blk_drew ?_ | refine blk_alloc ?_ _)); exact BK302.out⟩, ⟨by repeat (first | (with_reducible first | exact HB.out | apply below_alloc | apply pw_below_drewN | apply below_drew1 | refine below_set ?_ GE302.out) | exact HB.out)⟩⟩
      · replace c12 := Bool.eq_false_iff.mpr c12
        subst c12
        have H1 : (selfstablaw15_DaemonPermitsParts.j0 k a2 a3 a4 3 l0_0 l0_1) = some r := by rw [if_neg (show ¬ (false = true) by decide)] at H; exact H
        clear H
        have H := H1
        clear H1
        have H' := Aside0.mk H
        clear H
        go_wp2
        go_meet
        case rel => exact ⟨_, (3), (by first | rfl | (simp; done) | (simp [*]; done)), H', ⟨by first | omega | exact Nat.le_refl _⟩, ⟨by (with_reducible repeat (first | refine blk_drewN ?_ _ | refine blk_drew ?_ | refine blk_alloc ?_ _)); exact BK302.out⟩, ⟨by repeat (first | (with_reducible first | exact HB.out | apply below_alloc | apply pw_below_drewN | apply below_drew1 | refine below_set ?_ GE302.out) | exact HB.out)⟩⟩
    case rest =>
      clear HC8
      try clear c1
      try clear p2
      try clear c7
      try clear c12
      try clear hcz10_0
      try clear hcz10_1
      try clear hfz10_0
      try clear hfz10_1
      obtain ⟨kq, x11_7, rfl, HA, HJ7, BK302, HB⟩ := hcut
      cases kq with
      | zero => exact absurd HA.out (by simp [selfstablaw15_DaemonPermitsParts.j0])
      | succ kj7 =>
        have H := HA.out
        clear HA
        simp only [selfstablaw15_DaemonPermitsParts.j0] at H
        have HC13 := Aside0.mk H
        clear H
        go_upto_region 7 with (fail)
        go_cut [29] (fun v29 wc => ∃ (kq : Nat) (x29_12 : Bool), v29 = .bool x29_12 ∧ Aside0 (selfstablaw15_DaemonPermitsParts.j1 kq a2 a3 (Go.bits .and .u32 a4 a3) x11_7 x29_12 l0_0 l0_1 = some r) ∧ Aside0 (kq ≤ kj7) ∧ Aside0 (wc.heap[gb302]? = some (.cells #[(.slice A0_0 l0_0.length c0_0), (.slice A0_1 l0_1.length c0_1)] 25 (0, 0))) ∧ Aside0 (Below w.heap.size w wc))
        case first =>
          have H := HC13.out
          clear HC13
          by_cases c14 : (Go.bits .and .u32 a4 a3) = 0
          · rw [if_pos c14] at H
            have c14b0 : ((Go.bits .and .u32 a4 a3) == 0) = true := beq_iff_eq.mpr c14
            have c14b1 : ((Go.bits .and .u32 a4 a3) != 0) = false := bne_eq_false_iff_eq.mpr c14
            clear c14
            (first | rw [c14b0] | (simp only [i64_w, i32_w]; rw [c14b0]) | skip)
            have H' := Aside0.mk H
            clear H
            go_wp2
            go_meet
            case rel => exact ⟨_, (true), (by first | rfl | (simp; done) | (simp [*]; done)), H', ⟨by have := HJ7.out; first | omega | exact Nat.le_refl _⟩, ⟨by (with_reducible repeat (first | refine blk_drewN ?_ _ | refine blk_drew ?_ | refine blk_alloc ?_ _)); exact BK302.out⟩, ⟨by repeat (first | (with_reducible first | exact HB.out | apply below_alloc | apply pw_below_drewN | apply below_drew1 | refine below_set ?_ GE302.out) | exact HB.out)⟩⟩
          · rw [if_neg c14] at H
            have c14b0 : ((Go.bits .and .u32 a4 a3) == 0) = false := beq_eq_false_iff_ne.mpr c14
            have c14b1 : ((Go.bits .and .u32 a4 a3) != 0) = true := bne_iff_ne.mpr c14
            (first | rw [c14b0] | (simp only [i64_w, i32_w]; rw [c14b0]) | skip)
            replace H := Option.bind_eq_some_iff.mp H
            obtain ⟨t305, A150, H⟩ := H
            replace H : (selfstablaw15_DaemonPermitsParts.j1 kj7 a2 a3 (Go.bits .and .u32 a4 a3) x11_7 (!t305) l0_0 l0_1) = some r := H
            have A15 := Aside0.mk A150
            clear A150
            have H' := Aside0.mk H
            clear H
            have hcz16_0 : wc.cell? ⟨gb302, 0, none⟩ = some (.slice A0_0 l0_0.length c0_0) := (blk_cell BK302.out 0).trans rfl
            have hcz16_1 : wc.cell? ⟨gb302, 1, none⟩ = some (.slice A0_1 l0_1.length c0_1) := (blk_cell BK302.out 1).trans rfl
            have hfz16_0 := blk_frozen BK302.out 0
            have hfz16_1 := blk_frozen BK302.out 1
            go_wp2_with (first | (go_at_call 23; (with_reducible refine (daemon_Permits.calls kj7 _ _ l0_0 _ _ l0_1 x11_7 a2 a3 t305 _ ?side1 ?side2 ?side3 ?side4 A15.out).mono ?_); (case side1 => repeat (first | exact (Kd.C_below HR0_0.out HB.out) | (with_reducible refine Kd.C_alloc ?_ _) | (with_reducible refine Kd.C_drewN ?_ _) | (with_reducible refine Kd.C_drew ?_))); (case side2 => exact HC0_0.out); (case side3 => repeat (first | exact (Kd.C_below HR0_1.out HB.out) | (with_reducible refine Kd.C_alloc ?_ _) | (with_reducible refine Kd.C_drewN ?_ _) | (with_reducible refine Kd.C_drew ?_))); (case side4 => exact HC0_1.out); rintro e w17 ⟨rfl, hb⟩; have n0_ := Aside0.mk (blk_below (g := gb302) (o := .cells #[.slice A0_0 l0_0.length c0_0, .slice A0_1 l0_1.length c0_1] 25 (0, 0)) (by (with_reducible repeat (first | refine blk_drewN ?_ _ | refine blk_drew ?_ | refine blk_alloc ?_ _)); exact BK302.out) hb); have n1_ := Aside0.mk (below_step (by repeat (first | (with_reducible first | exact HB.out | apply below_alloc | apply pw_below_drewN | apply below_drew1 | refine below_set ?_ GE302.out) | exact HB.out)) hb); clear BK302; clear HB; have BK302 := n0_; have HB := n1_; clear n0_ n1_; (try clear hb); (try clear hb2); (try clear hk); (try clear hi)))
            go_meet
            case rel => exact ⟨_, (!t305), (by first | rfl | (simp; done) | (simp [*]; done)), H', ⟨by have := HJ7.out; first | omega | exact Nat.le_refl _⟩, ⟨by (with_reducible repeat (first | refine blk_drewN ?_ _ | refine blk_drew ?_ | refine blk_alloc ?_ _)); exact BK302.out⟩, ⟨by repeat (first | (with_reducible first | exact HB.out | apply below_alloc | apply pw_below_drewN | apply below_drew1 | refine below_set ?_ GE302.out) | exact HB.out)⟩⟩
        case rest =>
          clear HC13
          try clear c1
          try clear p2
          try clear c7
          try clear c12
          try clear c14
          try clear c14b0
          try clear c14b1
          try clear c17
          try clear hcz10_0
          try clear hcz10_1
          try clear hcz16_0
          try clear hcz16_1
          try clear hfz10_0
          try clear hfz10_1
          try clear hfz16_0
          try clear hfz16_1
          try clear p2
          obtain ⟨kq, x29_12, rfl, HA, HJ12, BK302, HB⟩ := hcut
          cases kq with
          | zero => exact absurd HA.out (by simp [selfstablaw15_DaemonPermitsParts.j1])
          | succ kj12 =>
            have H := HA.out
            clear HA
            simp only [selfstablaw15_DaemonPermitsParts.j1] at H
            by_cases c18 : x29_12 = true
            · subst c18
              have H1 : ((selfstablaw15_awake.f kj12).bind fun t306 => (if t306 = true then ((daemon_Permits.f kj12 l0_0 l0_1 x11_7 a2 0).bind fun t307 => (some (!t307))) else (none))) = some r := by rw [if_pos rfl] at H; exact H
              clear H
              have H := H1
              clear H1
              replace H := Option.bind_eq_some_iff.mp H
              obtain ⟨t306, A190, H⟩ := H
              replace H : (if t306 = true then ((daemon_Permits.f kj12 l0_0 l0_1 x11_7 a2 0).bind fun t307 => (some (!t307))) else (none)) = some r := H
              have A19 := Aside0.mk A190
              clear A190
              by_cases c20 : t306 = true
              · subst c20
                have H1 : ((daemon_Permits.f kj12 l0_0 l0_1 x11_7 a2 0).bind fun t307 => (some (!t307))) = some r := by rw [if_pos rfl] at H; exact H
                clear H
                have H := H1
                clear H1
                replace H := Option.bind_eq_some_iff.mp H
                obtain ⟨t307, A210, H⟩ := H
                replace H : (some (!t307)) = some r := H
                have A21 := Aside0.mk A210
                clear A210
                obtain rfl := Option.some.inj H
                go_wp2_with (first | ((with_reducible refine gate_callee (f := 11) rfl ?_); refine goesL_ (some 30) rfl rfl Try.func11 (by kernel_rfl) rfl #[] rfl (by (try simp only [List.map_toArray, List.map_cons, List.map_nil]); first | done | rfl | (simp only [List.length_drop, List.length_take]; rfl)) ?_; (with_reducible refine (selfstablaw15_awake.calls kj12  true _ A19.out).mono ?_); rintro e w22 ⟨rfl, hb⟩; refine ⟨_, rfl, ?_⟩; have n0_ := Aside0.mk (blk_below (g := gb302) (o := .cells #[.slice A0_0 l0_0.length c0_0, .slice A0_1 l0_1.length c0_1] 25 (0, 0)) (by (with_reducible repeat (first | refine blk_drewN ?_ _ | refine blk_drew ?_ | refine blk_alloc ?_ _)); exact BK302.out) hb); have n1_ := Aside0.mk (below_step (by repeat (first | (with_reducible first | exact HB.out | apply below_alloc | apply pw_below_drewN | apply below_drew1 | refine below_set ?_ GE302.out) | exact HB.out)) hb); clear BK302; clear HB; have BK302 := n0_; have HB := n1_; clear n0_ n1_; (try clear hb); (try clear hb2); (try clear hk); (try clear hi); have hcz23_0 : w22.cell? ⟨gb302, 0, none⟩ = some (.slice A0_0 l0_0.length c0_0) := (blk_cell BK302.out 0).trans rfl; have hcz23_1 : w22.cell? ⟨gb302, 1, none⟩ = some (.slice A0_1 l0_1.length c0_1) := (blk_cell BK302.out 1).trans rfl; have hfz23_0 := blk_frozen BK302.out 0; have hfz23_1 := blk_frozen BK302.out 1) | (go_at_call 23; (with_reducible refine (daemon_Permits.calls kj12 _ _ l0_0 _ _ l0_1 x11_7 a2 0 t307 _ ?side1 ?side2 ?side3 ?side4 A21.out).mono ?_); (case side1 => repeat (first | exact (Kd.C_below HR0_0.out HB.out) | (with_reducible refine Kd.C_alloc ?_ _) | (with_reducible refine Kd.C_drewN ?_ _) | (with_reducible refine Kd.C_drew ?_))); (case side2 => exact HC0_0.out); (case side3 => repeat (first | exact (Kd.C_below HR0_1.out HB.out) | (with_reducible refine Kd.C_alloc ?_ _) | (with_reducible refine Kd.C_drewN ?_ _) | (with_reducible refine Kd.C_drew ?_))); (case side4 => exact HC0_1.out); rintro e w24 ⟨rfl, hb⟩; have n0_ := Aside0.mk (blk_below (g := gb302) (o := .cells #[.slice A0_0 l0_0.length c0_0, .slice A0_1 l0_1.length c0_1] 25 (0, 0)) (by (with_reducible repeat (first | refine blk_drewN ?_ _ | refine blk_drew ?_ | refine blk_alloc ?_ _)); exact BK302.out) hb); have n1_ := Aside0.mk (below_step (by repeat (first | (with_reducible first | exact HB.out | apply below_alloc | apply pw_below_drewN | apply below_drew1 | refine below_set ?_ GE302.out) | exact HB.out)) hb); clear BK302; clear HB; have BK302 := n0_; have HB := n1_; clear n0_ n1_; (try clear hb); (try clear hb2); (try clear hk); (try clear hi)))
                go_ret
                exact ⟨by first | rfl | (simp [errW_none, errW_some] <;> rfl) | (simp [*, errW_none, errW_some] <;> rfl), by repeat (first | (with_reducible first | exact HB.out | apply below_alloc | apply pw_below_drewN | apply below_drew1 | refine below_set ?_ GE302.out) | exact HB.out)⟩
              · replace c20 := Bool.eq_false_iff.mpr c20
                subst c20
                have H1 : (none) = some r := by rw [if_neg (show ¬ (false = true) by decide)] at H; exact H
                clear H
                have H := H1
                clear H1
                exact absurd H (by simp)
            · replace c18 := Bool.eq_false_iff.mpr c18
              subst c18
              have H1 : ((selfstablaw15_awake.f kj12).bind fun t308 => (if t308 = true then ((daemon_Permits.f kj12 l0_0 l0_1 x11_7 a2 (Go.bits .and .u32 a4 a3)).bind fun t309 => (if t309 = true then ((daemon_Permits.f kj12 l0_0 l0_1 x11_7 a3 (Go.bits .and .u32 a4 a3)).bind fun t310 => (some t310)) else (none))) else (none))) = some r := by rw [if_neg (show ¬ (false = true) by decide)] at H; exact H
              clear H
              have H := H1
              clear H1
              replace H := Option.bind_eq_some_iff.mp H
              obtain ⟨t308, A250, H⟩ := H
              replace H : (if t308 = true then ((daemon_Permits.f kj12 l0_0 l0_1 x11_7 a2 (Go.bits .and .u32 a4 a3)).bind fun t309 => (if t309 = true then ((daemon_Permits.f kj12 l0_0 l0_1 x11_7 a3 (Go.bits .and .u32 a4 a3)).bind fun t310 => (some t310)) else (none))) else (none)) = some r := H
              have A25 := Aside0.mk A250
              clear A250
              by_cases c26 : t308 = true
              · subst c26
                have H1 : ((daemon_Permits.f kj12 l0_0 l0_1 x11_7 a2 (Go.bits .and .u32 a4 a3)).bind fun t309 => (if t309 = true then ((daemon_Permits.f kj12 l0_0 l0_1 x11_7 a3 (Go.bits .and .u32 a4 a3)).bind fun t310 => (some t310)) else (none))) = some r := by rw [if_pos rfl] at H; exact H
                clear H
                have H := H1
                clear H1
                replace H := Option.bind_eq_some_iff.mp H
                obtain ⟨t309, A270, H⟩ := H
                replace H : (if t309 = true then ((daemon_Permits.f kj12 l0_0 l0_1 x11_7 a3 (Go.bits .and .u32 a4 a3)).bind fun t310 => (some t310)) else (none)) = some r := H
                have A27 := Aside0.mk A270
                clear A270
                by_cases c28 : t309 = true
                · subst c28
                  have H1 : ((daemon_Permits.f kj12 l0_0 l0_1 x11_7 a3 (Go.bits .and .u32 a4 a3)).bind fun t310 => (some t310)) = some r := by rw [if_pos rfl] at H; exact H
                  clear H
                  have H := H1
                  clear H1
                  replace H := Option.bind_eq_some_iff.mp H
                  obtain ⟨t310, A290, H⟩ := H
                  replace H : (some t310) = some r := H
                  have A29 := Aside0.mk A290
                  clear A290
                  obtain rfl := Option.some.inj H
                  go_wp2_with (first | ((with_reducible refine gate_callee (f := 11) rfl ?_); refine goesL_ (some 38) rfl rfl Try.func11 (by kernel_rfl) rfl #[] rfl (by (try simp only [List.map_toArray, List.map_cons, List.map_nil]); first | done | rfl | (simp only [List.length_drop, List.length_take]; rfl)) ?_; (with_reducible refine (selfstablaw15_awake.calls kj12  true _ A25.out).mono ?_); rintro e w30 ⟨rfl, hb⟩; refine ⟨_, rfl, ?_⟩; have n0_ := Aside0.mk (blk_below (g := gb302) (o := .cells #[.slice A0_0 l0_0.length c0_0, .slice A0_1 l0_1.length c0_1] 25 (0, 0)) (by (with_reducible repeat (first | refine blk_drewN ?_ _ | refine blk_drew ?_ | refine blk_alloc ?_ _)); exact BK302.out) hb); have n1_ := Aside0.mk (below_step (by repeat (first | (with_reducible first | exact HB.out | apply below_alloc | apply pw_below_drewN | apply below_drew1 | refine below_set ?_ GE302.out) | exact HB.out)) hb); clear BK302; clear HB; have BK302 := n0_; have HB := n1_; clear n0_ n1_; (try clear hb); (try clear hb2); (try clear hk); (try clear hi); have hcz31_0 : w30.cell? ⟨gb302, 0, none⟩ = some (.slice A0_0 l0_0.length c0_0) := (blk_cell BK302.out 0).trans rfl; have hcz31_1 : w30.cell? ⟨gb302, 1, none⟩ = some (.slice A0_1 l0_1.length c0_1) := (blk_cell BK302.out 1).trans rfl; have hfz31_0 := blk_frozen BK302.out 0; have hfz31_1 := blk_frozen BK302.out 1) | (go_at_call 23; (with_reducible refine (daemon_Permits.calls kj12 _ _ l0_0 _ _ l0_1 x11_7 a2 (Go.bits .and .u32 a4 a3) true _ ?side1 ?side2 ?side3 ?side4 A27.out).mono ?_); (case side1 => repeat (first | exact (Kd.C_below HR0_0.out HB.out) | (with_reducible refine Kd.C_alloc ?_ _) | (with_reducible refine Kd.C_drewN ?_ _) | (with_reducible refine Kd.C_drew ?_))); (case side2 => exact HC0_0.out); (case side3 => repeat (first | exact (Kd.C_below HR0_1.out HB.out) | (with_reducible refine Kd.C_alloc ?_ _) | (with_reducible refine Kd.C_drewN ?_ _) | (with_reducible refine Kd.C_drew ?_))); (case side4 => exact HC0_1.out); rintro e w32 ⟨rfl, hb⟩; have n0_ := Aside0.mk (blk_below (g := gb302) (o := .cells #[.slice A0_0 l0_0.length c0_0, .slice A0_1 l0_1.length c0_1] 25 (0, 0)) (by (with_reducible repeat (first | refine blk_drewN ?_ _ | refine blk_drew ?_ | refine blk_alloc ?_ _)); exact BK302.out) hb); have n1_ := Aside0.mk (below_step (by repeat (first | (with_reducible first | exact HB.out | apply below_alloc | apply pw_below_drewN | apply below_drew1 | refine below_set ?_ GE302.out) | exact HB.out)) hb); clear BK302; clear HB; have BK302 := n0_; have HB := n1_; clear n0_ n1_; (try clear hb); (try clear hb2); (try clear hk); (try clear hi); have hcz33_0 : w32.cell? ⟨gb302, 0, none⟩ = some (.slice A0_0 l0_0.length c0_0) := (blk_cell BK302.out 0).trans rfl; have hcz33_1 : w32.cell? ⟨gb302, 1, none⟩ = some (.slice A0_1 l0_1.length c0_1) := (blk_cell BK302.out 1).trans rfl; have hfz33_0 := blk_frozen BK302.out 0; have hfz33_1 := blk_frozen BK302.out 1) | (go_at_call 23; (with_reducible refine (daemon_Permits.calls kj12 _ _ l0_0 _ _ l0_1 x11_7 a3 (Go.bits .and .u32 a4 a3) t310 _ ?side1 ?side2 ?side3 ?side4 A29.out).mono ?_); (case side1 => repeat (first | exact (Kd.C_below HR0_0.out HB.out) | (with_reducible refine Kd.C_alloc ?_ _) | (with_reducible refine Kd.C_drewN ?_ _) | (with_reducible refine Kd.C_drew ?_))); (case side2 => exact HC0_0.out); (case side3 => repeat (first | exact (Kd.C_below HR0_1.out HB.out) | (with_reducible refine Kd.C_alloc ?_ _) | (with_reducible refine Kd.C_drewN ?_ _) | (with_reducible refine Kd.C_drew ?_))); (case side4 => exact HC0_1.out); rintro e w34 ⟨rfl, hb⟩; have n0_ := Aside0.mk (blk_below (g := gb302) (o := .cells #[.slice A0_0 l0_0.length c0_0, .slice A0_1 l0_1.length c0_1] 25 (0, 0)) (by (with_reducible repeat (first | refine blk_drewN ?_ _ | refine blk_drew ?_ | refine blk_alloc ?_ _)); exact BK302.out) hb); have n1_ := Aside0.mk (below_step (by repeat (first | (with_reducible first | exact HB.out | apply below_alloc | apply pw_below_drewN | apply below_drew1 | refine below_set ?_ GE302.out) | exact HB.out)) hb); clear BK302; clear HB; have BK302 := n0_; have HB := n1_; clear n0_ n1_; (try clear hb); (try clear hb2); (try clear hk); (try clear hi)))
                  go_ret
                  exact ⟨by first | rfl | (simp [errW_none, errW_some] <;> rfl) | (simp [*, errW_none, errW_some] <;> rfl), by repeat (first | (with_reducible first | exact HB.out | apply below_alloc | apply pw_below_drewN | apply below_drew1 | refine below_set ?_ GE302.out) | exact HB.out)⟩
                · replace c28 := Bool.eq_false_iff.mpr c28
                  subst c28
                  have H1 : (none) = some r := by rw [if_neg (show ¬ (false = true) by decide)] at H; exact H
                  clear H
                  have H := H1
                  clear H1
                  exact absurd H (by simp)
              · replace c26 := Bool.eq_false_iff.mpr c26
                subst c26
                have H1 : (none) = some r := by rw [if_neg (show ¬ (false = true) by decide)] at H; exact H
                clear H
                have H := H1
                clear H1
                exact absurd H (by simp)
  · replace c7 := Bool.eq_false_iff.mpr c7
    subst c7
    have H1 : ((selfstablaw15_awake.f k).bind fun t304 => (some t304)) = some r := by rw [if_neg (show ¬ (false = true) by decide)] at H; exact H
    clear H
    have H := H1
    clear H1
    replace H := Option.bind_eq_some_iff.mp H
    obtain ⟨t304, A350, H⟩ := H
    replace H : (some t304) = some r := H
    have A35 := Aside0.mk A350
    clear A350
    obtain rfl := Option.some.inj H
    go_enter Try.func7, Try.ntmps7
    go_wp2_with (first | ((with_reducible refine gate_dst (N := 5) rfl ?_); refine box_event ?hg (N := 5) ?hd (cs := #[.slice A0_0 l0_0.length c0_0, .slice A0_1 l0_1.length c0_1]) (t := 25) ?hr ?_; (case hd => rfl); (case hg => rfl); (case hr => first | (go_simp; done) | (go_simp; rfl)); intro gb302 hg w36 hbox hb; have n0_ := Aside0.mk (below_step (by repeat (first | (with_reducible first | exact HB.out | apply below_alloc | apply pw_below_drewN | apply below_drew1) | exact HB.out)) hb); have n1_ := Aside0.mk (hbox); have n2_ := Aside0.mk ((by rw [hg]; exact (below_size (by repeat (first | (with_reducible first | exact HB.out | apply below_alloc | apply pw_below_drewN | apply below_drew1) | exact HB.out))) : w.heap.size ≤ gb302)); have n3_ := Aside0.mk ((by rw [hg]; exact (below_size (by repeat (first | (with_reducible first | exact HB.out | apply below_alloc | apply pw_below_drewN | apply below_drew1) | exact HB.out))) : w.heap.size ≤ gb302)); clear HB; have HB := n0_; have BK302 := n1_; have GW302 := n2_; have GE302 := n3_; clear n0_ n1_ n2_ n3_; clear hb hbox hg; have hcz37_0 : w36.cell? ⟨gb302, 0, none⟩ = some (.slice A0_0 l0_0.length c0_0) := (blk_cell BK302.out 0).trans rfl; have hcz37_1 : w36.cell? ⟨gb302, 1, none⟩ = some (.slice A0_1 l0_1.length c0_1) := (blk_cell BK302.out 1).trans rfl; have hfz37_0 := blk_frozen BK302.out 0; have hfz37_1 := blk_frozen BK302.out 1) | ((with_reducible refine gate_callee (f := 17) rfl ?_); refine goesL_ (some 13) rfl rfl Try.func17 (by kernel_rfl) rfl #[.agg #[.slice A0_0 l0_0.length c0_0, .slice A0_1 l0_1.length c0_1]] rfl (by (try simp only [List.map_toArray, List.map_cons, List.map_nil]); first | done | rfl | (simp only [List.length_drop, List.length_take]; rfl)) ?_; (with_reducible refine (selfstablaw15_fair.calls k _ _ l0_0 _ _ l0_1 false _ ?side1 ?side2 ?side3 ?side4 A6.out).mono ?_); (case side1 => repeat (first | exact (Kd.C_below HR0_0.out HB.out) | (with_reducible refine Kd.C_alloc ?_ _) | (with_reducible refine Kd.C_drewN ?_ _) | (with_reducible refine Kd.C_drew ?_))); (case side2 => exact HC0_0.out); (case side3 => repeat (first | exact (Kd.C_below HR0_1.out HB.out) | (with_reducible refine Kd.C_alloc ?_ _) | (with_reducible refine Kd.C_drewN ?_ _) | (with_reducible refine Kd.C_drew ?_))); (case side4 => exact HC0_1.out); rintro e w38 ⟨rfl, hb⟩; refine ⟨_, rfl, ?_⟩; have n0_ := Aside0.mk (blk_below (g := gb302) (o := .cells #[.slice A0_0 l0_0.length c0_0, .slice A0_1 l0_1.length c0_1] 25 (0, 0)) (by (with_reducible repeat (first | refine blk_drewN ?_ _ | refine blk_drew ?_ | refine blk_alloc ?_ _)); exact BK302.out) hb); have n1_ := Aside0.mk (below_step (by repeat (first | (with_reducible first | exact HB.out | apply below_alloc | apply pw_below_drewN | apply below_drew1 | refine below_set ?_ GE302.out) | exact HB.out)) hb); clear BK302; clear HB; have BK302 := n0_; have HB := n1_; clear n0_ n1_; (try clear hb); (try clear hb2); (try clear hk); (try clear hi)) | ((with_reducible refine gate_callee (f := 11) rfl ?_); refine goesL_ (some 15) rfl rfl Try.func11 (by kernel_rfl) rfl #[] rfl (by (try simp only [List.map_toArray, List.map_cons, List.map_nil]); first | done | rfl | (simp only [List.length_drop, List.length_take]; rfl)) ?_; (with_reducible refine (selfstablaw15_awake.calls k  t304 _ A35.out).mono ?_); rintro e w39 ⟨rfl, hb⟩; refine ⟨_, rfl, ?_⟩; have n0_ := Aside0.mk (blk_below (g := gb302) (o := .cells #[.slice A0_0 l0_0.length c0_0, .slice A0_1 l0_1.length c0_1] 25 (0, 0)) (by (with_reducible repeat (first | refine blk_drewN ?_ _ | refine blk_drew ?_ | refine blk_alloc ?_ _)); exact BK302.out) hb); have n1_ := Aside0.mk (below_step (by repeat (first | (with_reducible first | exact HB.out | apply below_alloc | apply pw_below_drewN | apply below_drew1 | refine below_set ?_ GE302.out) | exact HB.out)) hb); clear BK302; clear HB; have BK302 := n0_; have HB := n1_; clear n0_ n1_; (try clear hb); (try clear hb2); (try clear hk); (try clear hi)))
    go_ret
    exact ⟨by first | rfl | (simp [errW_none, errW_some] <;> rfl) | (simp [*, errW_none, errW_some] <;> rfl), by repeat (first | (with_reducible first | exact HB.out | apply below_alloc | apply pw_below_drewN | apply below_drew1 | refine below_set ?_ GE302.out) | exact HB.out)⟩

end Go.Proofs.Ytmkpddhnnejfhaa.P
