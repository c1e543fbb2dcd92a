/- daemon.Resolve, but for the locally central daemon at what is to be resolved: what the printer gives for its text without that branch. -/
import Derived.Test.YtmkpddhnnejfhaaP3
import Derived.Test.YtmkpddhnnejfhaaMLeast
namespace Go.Proofs.Ytmkpddhnnejfhaa.P
open Go.RowKit Go.Proofs.YtmkpddhnnejfhaaW.PrintWords Go.Proofs.YtmkpddhnnejfhaaW.PrintLast Go.Proofs.YtmkpddhnnejfhaaW.PrintMore
attribute [local go_sem] max2_int min2_int max_two min_two max_three min_three max_four min_four
set_option linter.unusedVariables false
set_option linter.unusedSimpArgs false

/-! ### daemon_ResolveQ: function 15 -/
mutual
def daemon_ResolveQ.j0 : Nat → Int → Int → Int → Bool → Option (Int)
  | 0, _, _, _, _ => none
  | k + 1, x1, x2, x3, x29 => if x29 = true then (some 0) else (if (Go.bits .and .u32 x3 x2) = 0 then ((daemon_least.f x2).bind fun t129 => (daemon_ResolveQ.j1 k x1 x2 t129)) else (daemon_ResolveQ.j1 k x1 x2 (Go.bits .and .u32 x3 x2)))
def daemon_ResolveQ.j1 : Nat → Int → Int → Int → Option (Int)
  | 0, _, _, _ => none
  | k + 1, x1, x2, x9 => if x1 = 1 then ((daemon_least.f x9).bind fun t130 => (some t130)) else (if x1 = 4 then (some x2) else (if x1 = 2 then (none) else (some x9)))
end
def daemon_ResolveQ.f (k : Nat) (l0_0 : List Int) (l0_1 : List (List (S58))) (a1 : Int) (a2 : Int) (a3 : Int) : Option (Int) := (graph_Valid.f l0_0 l0_1).bind fun t126 => (if t126 = true then ((daemon_Valid.f a1).bind fun t127 => (if t127 = true then ((daemon_nodes.f l0_0 l0_1 a2).bind fun t128 => (if t128 = true then (daemon_ResolveQ.j0 k a1 a2 a3 (a2 == 0)) else (daemon_ResolveQ.j0 k a1 a2 a3 true))) else (daemon_ResolveQ.j0 k a1 a2 a3 true))) else (daemon_ResolveQ.j0 k a1 a2 a3 true))
theorem daemon_ResolveQ.mono_l : ∀ k, (∀ y0 y1 y2 y3, LeO (daemon_ResolveQ.j0 k y0 y1 y2 y3) (daemon_ResolveQ.j0 (k + 1) y0 y1 y2 y3)) ∧ (∀ y0 y1 y2, LeO (daemon_ResolveQ.j1 k y0 y1 y2) (daemon_ResolveQ.j1 (k + 1) y0 y1 y2))
  | 0 => ⟨fun _ _ _ _ r h => by simp [daemon_ResolveQ.j0] at h, fun _ _ _ r h => by simp [daemon_ResolveQ.j1] at h⟩
  | k + 1 => by
    obtain ⟨ih0, ih1⟩ := daemon_ResolveQ.mono_l k
    refine ⟨?_, ?_⟩
    · intro y0 y1 y2 y3
      unfold daemon_ResolveQ.j0
      repeat' first
      | (with_reducible exact ih0 _ _ _ _)
      | (with_reducible exact ih1 _ _ _)
      | (with_reducible exact LeO.refl _)
      | (with_reducible exact LeO.none _)
      | (with_reducible refine LeO.ite ?_ ?_)
      | (with_reducible refine LeO.bind ?_ (fun _ => ?_))
      | exact ih0 _ _ _ _
      | exact ih1 _ _ _
      | exact LeO.none _
      | refine LeO.ite ?_ ?_
      | refine LeO.bind ?_ (fun _ => ?_)
    · intro y0 y1 y2
      unfold daemon_ResolveQ.j1
      repeat' first
      | (with_reducible exact ih0 _ _ _ _)
      | (with_reducible exact ih1 _ _ _)
      | (with_reducible exact LeO.refl _)
      | (with_reducible exact LeO.none _)
      | (with_reducible refine LeO.ite ?_ ?_)
      | (with_reducible refine LeO.bind ?_ (fun _ => ?_))
      | exact ih0 _ _ _ _
      | exact ih1 _ _ _
      | exact LeO.none _
      | refine LeO.ite ?_ ?_
      | refine LeO.bind ?_ (fun _ => ?_)
theorem daemon_ResolveQ.mono : ∀ a0 a1 a2 a3 a4 k, LeO (daemon_ResolveQ.f k a0 a1 a2 a3 a4) (daemon_ResolveQ.f (k + 1) a0 a1 a2 a3 a4) := by
  intro a0 a1 a2 a3 a4 k
  obtain ⟨ih0, ih1⟩ := daemon_ResolveQ.mono_l k
  unfold daemon_ResolveQ.f
  repeat' first
      | (with_reducible exact ih0 _ _ _ _)
      | (with_reducible exact ih1 _ _ _)
      | (with_reducible exact LeO.refl _)
      | (with_reducible exact LeO.none _)
      | (with_reducible refine LeO.ite ?_ ?_)
      | (with_reducible refine LeO.bind ?_ (fun _ => ?_))
      | exact ih0 _ _ _ _
      | exact ih1 _ _ _
      | exact LeO.none _
      | refine LeO.ite ?_ ?_
      | refine LeO.bind ?_ (fun _ => ?_)
set_option maxHeartbeats 8000000 in
set_option maxRecDepth 100000 in
theorem daemon_ResolveQ.calls (k : Nat) (A0_0 : Option Addr) (c0_0 : Nat) (l0_0 : List Int) (A0_1 : Option Addr) (c0_1 : Nat) (l0_1 : List (List (S58))) (a1 : Int) (a2 : Int) (a3 : Int) (r : Int) (w : World) (hr0_0 : Kd.C (Kd.int .i64) w A0_0 l0_0.length l0_0) (hc0_0 : l0_0.length ≤ c0_0) (hr0_1 : Kd.C (Kd.slice 58 k58) w A0_1 l0_1.length l0_1) (hc0_1 : l0_1.length ≤ c0_1) (h : daemon_ResolveQ.f k l0_0 l0_1 a1 a2 a3 = some r) :
    Calls Try.prog 15 #[.agg #[.slice A0_0 l0_0.length c0_0, .slice A0_1 l0_1.length c0_1], .int .i64 a1, .int .u32 a2, .int .u32 a3] w fun e w' => e = .returned (.int .u32 r) ∧ Below w.heap.size w w' := by
  have hu25 := Try.underlying25
  have HR0_0 := Aside0.mk hr0_0
  have HC0_0 := Aside0.mk hc0_0
  clear hr0_0 hc0_0
  have HR0_1 := Aside0.mk hr0_1
  have HC0_1 := Aside0.mk hc0_1
  clear hr0_1 hc0_1
  have HB := Aside0.mk (Below.refl w.heap.size w)
  have H : ((graph_Valid.f l0_0 l0_1).bind fun t126 => (if t126 = true then ((daemon_Valid.f a1).bind fun t127 => (if t127 = true then ((daemon_nodes.f l0_0 l0_1 a2).bind fun t128 => (if t128 = true then (daemon_ResolveQ.j0 k a1 a2 a3 (a2 == 0)) else (daemon_ResolveQ.j0 k a1 a2 a3 true))) else (daemon_ResolveQ.j0 k a1 a2 a3 true))) else (daemon_ResolveQ.j0 k a1 a2 a3 true))) = some r := h
  clear h
  have HC5 := Aside0.mk H
  clear H
  go_enter Try.func15, Try.ntmps15
  go_upto_region 1 with (first | ((with_reducible refine gate_dst (N := 4) rfl ?_); refine box_event ?hg (N := 4) ?hd (cs := #[.slice A0_0 l0_0.length c0_0, .slice A0_1 l0_1.length c0_1]) (t := 25) ?hr ?_; (case hd => rfl); (case hg => rfl); (case hr => first | (go_simp; done) | (go_simp; rfl)); intro gb125 hg w6 hbox hb; have n0_ := Aside0.mk (below_step (by repeat (first | (with_reducible first | exact HB.out | apply below_alloc | apply pw_below_drewN | apply below_drew1) | exact HB.out)) hb); have n1_ := Aside0.mk (hbox); have n2_ := Aside0.mk ((by rw [hg]; exact (below_size (by repeat (first | (with_reducible first | exact HB.out | apply below_alloc | apply pw_below_drewN | apply below_drew1) | exact HB.out))) : w.heap.size ≤ gb125)); have n3_ := Aside0.mk ((by rw [hg]; exact (below_size (by repeat (first | (with_reducible first | exact HB.out | apply below_alloc | apply pw_below_drewN | apply below_drew1) | exact HB.out))) : w.heap.size ≤ gb125)); clear HB; have HB := n0_; have BK125 := n1_; have GW125 := n2_; have GE125 := n3_; clear n0_ n1_ n2_ n3_; clear hb hbox hg))
  (try simp only [Act.put, List.setIfInBounds_toArray, List.set_cons_zero, List.set_cons_succ])
  go_cut [29] (fun v29 wc => ∃ (kq : Nat) (x29_4 : Bool), v29 = .bool x29_4 ∧ Aside0 (daemon_ResolveQ.j0 kq a1 a2 a3 x29_4 = some r) ∧ Aside0 (kq ≤ k) ∧ Aside0 (wc.heap[gb125]? = some (.cells #[(.slice A0_0 l0_0.length c0_0), (.slice A0_1 l0_1.length c0_1)] 25 (0, 0))) ∧ Aside0 (Below w.heap.size w wc))
  case first =>
    have H := HC5.out
    clear HC5
    replace H := Option.bind_eq_some_iff.mp H
    obtain ⟨t126, A70, H⟩ := H
    replace H : (if t126 = true then ((daemon_Valid.f a1).bind fun t127 => (if t127 = true then ((daemon_nodes.f l0_0 l0_1 a2).bind fun t128 => (if t128 = true then (daemon_ResolveQ.j0 k a1 a2 a3 (a2 == 0)) else (daemon_ResolveQ.j0 k a1 a2 a3 true))) else (daemon_ResolveQ.j0 k a1 a2 a3 true))) else (daemon_ResolveQ.j0 k a1 a2 a3 true)) = some r := H
    have A7 := Aside0.mk A70
    clear A70
    by_cases c8 : t126 = true
    · subst c8
      have H1 : ((daemon_Valid.f a1).bind fun t127 => (if t127 = true then ((daemon_nodes.f l0_0 l0_1 a2).bind fun t128 => (if t128 = true then (daemon_ResolveQ.j0 k a1 a2 a3 (a2 == 0)) else (daemon_ResolveQ.j0 k a1 a2 a3 true))) else (daemon_ResolveQ.j0 k a1 a2 a3 true))) = some r := by rw [if_pos rfl] at H; exact H
      clear H
      have H := H1
      clear H1
      replace H := Option.bind_eq_some_iff.mp H
      obtain ⟨t127, A90, H⟩ := H
      replace H : (if t127 = true then ((daemon_nodes.f l0_0 l0_1 a2).bind fun t128 => (if t128 = true then (daemon_ResolveQ.j0 k a1 a2 a3 (a2 == 0)) else (daemon_ResolveQ.j0 k a1 a2 a3 true))) else (daemon_ResolveQ.j0 k a1 a2 a3 true)) = some r := H
      have A9 := Aside0.mk A90
      clear A90
      by_cases c10 : t127 = true
      · subst c10
        have H1 : ((daemon_nodes.f l0_0 l0_1 a2).bind fun t128 => (if t128 = true then (daemon_ResolveQ.j0 k a1 a2 a3 (a2 == 0)) else (daemon_ResolveQ.j0 k a1 a2 a3 true))) = some r := by rw [if_pos rfl] at H; exact H
        clear H
        have H := H1
        clear H1
        replace H := Option.bind_eq_some_iff.mp H
        obtain ⟨t128, A110, H⟩ := H
        replace H : (if t128 = true then (daemon_ResolveQ.j0 k a1 a2 a3 (a2 == 0)) else (daemon_ResolveQ.j0 k a1 a2 a3 true)) = some r := H
        have A11 := Aside0.mk A110
        clear A110
        by_cases c12 : t128 = true
        · subst c12
          have H1 : (daemon_ResolveQ.j0 k a1 a2 a3 (a2 == 0)) = some r := by rw [if_pos rfl] at H; exact H
          clear H
          have H := H1
          clear H1
          have H' := Aside0.mk H
          clear H
          have hcz13_0 : w6.cell? ⟨gb125, 0, none⟩ = some (.slice A0_0 l0_0.length c0_0) := (blk_cell BK125.out 0).trans rfl
          have hcz13_1 : w6.cell? ⟨gb125, 1, none⟩ = some (.slice A0_1 l0_1.length c0_1) := (blk_cell BK125.out 1).trans rfl
          have hfz13_0 := blk_frozen BK125.out 0
          have hfz13_1 := blk_frozen BK125.out 1
          go_wp2_with (first | ((with_reducible refine gate_callee (f := 30) rfl ?_); refine goesL_ (some 13) rfl rfl Try.func30 (by kernel_rfl) rfl #[.agg #[.slice A0_0 l0_0.length c0_0, .slice A0_1 l0_1.length c0_1]] rfl (by (try simp only [List.map_toArray, List.map_cons, List.map_nil]); first | done | rfl | (simp only [List.length_drop, List.length_take]; rfl)) ?_; (with_reducible refine (graph_Valid.calls _ _ l0_0 _ _ l0_1 true _ ?side1 ?side2 ?side3 ?side4 A7.out).mono ?_); (case side1 => repeat (first | exact (Kd.C_below HR0_0.out HB.out) | (with_reducible refine Kd.C_alloc ?_ _) | (with_reducible refine Kd.C_drewN ?_ _) | (with_reducible refine Kd.C_drew ?_))); (case side2 => exact HC0_0.out); (case side3 => repeat (first | exact (Kd.C_below HR0_1.out HB.out) | (with_reducible refine Kd.C_alloc ?_ _) | (with_reducible refine Kd.C_drewN ?_ _) | (with_reducible refine Kd.C_drew ?_))); (case side4 => exact HC0_1.out); rintro e w14 ⟨rfl, hb⟩; refine ⟨_, rfl, ?_⟩; have n0_ := Aside0.mk (blk_below (g := gb125) (o := .cells #[.slice A0_0 l0_0.length c0_0, .slice A0_1 l0_1.length c0_1] 25 (0, 0)) (by (with_reducible repeat (first | refine blk_drewN ?_ _ | refine blk_drew ?_ | refine blk_alloc ?_ _)); exact BK125.out) hb); have n1_ := Aside0.mk (below_step (by repeat (first | (with_reducible first | exact HB.out | apply below_alloc | apply pw_below_drewN | apply below_drew1 | refine below_set ?_ GE125.out) | exact HB.out)) hb); clear BK125; clear HB; have BK125 := n0_; have HB := n1_; clear n0_ n1_; (try clear hb); (try clear hb2); (try clear hk); (try clear hi)) | (go_at_call 24; (with_reducible refine (daemon_Valid.calls a1 true _ A9.out).mono ?_); rintro e w' ⟨rfl, ⟨nd, rfl⟩⟩; have hcz15_0 : w14.cell? ⟨gb125, 0, none⟩ = some (.slice A0_0 l0_0.length c0_0) := (blk_cell BK125.out 0).trans rfl; have hcz15_1 : w14.cell? ⟨gb125, 1, none⟩ = some (.slice A0_1 l0_1.length c0_1) := (blk_cell BK125.out 1).trans rfl; have hfz15_0 := blk_frozen BK125.out 0; have hfz15_1 := blk_frozen BK125.out 1) | (go_at_call 31; (with_reducible refine (daemon_nodes.calls _ _ l0_0 _ _ l0_1 a2 true _ ?side1 ?side2 ?side3 ?side4 A11.out).mono ?_); (case side1 => repeat (first | exact (Kd.C_below HR0_0.out (by repeat (first | (with_reducible first | exact HB.out | apply below_alloc | apply pw_below_drewN | apply below_drew1 | refine below_set ?_ GE125.out) | exact HB.out))) | (with_reducible refine Kd.C_alloc ?_ _) | (with_reducible refine Kd.C_drewN ?_ _) | (with_reducible refine Kd.C_drew ?_))); (case side2 => exact HC0_0.out); (case side3 => repeat (first | exact (Kd.C_below HR0_1.out (by repeat (first | (with_reducible first | exact HB.out | apply below_alloc | apply pw_below_drewN | apply below_drew1 | refine below_set ?_ GE125.out) | exact HB.out))) | (with_reducible refine Kd.C_alloc ?_ _) | (with_reducible refine Kd.C_drewN ?_ _) | (with_reducible refine Kd.C_drew ?_))); (case side4 => exact HC0_1.out); rintro e w16 ⟨rfl, hb⟩; have n0_ := Aside0.mk (blk_below (g := gb125) (o := .cells #[.slice A0_0 l0_0.length c0_0, .slice A0_1 l0_1.length c0_1] 25 (0, 0)) (by (with_reducible repeat (first | refine blk_drewN ?_ _ | refine blk_drew ?_ | refine blk_alloc ?_ _)); exact BK125.out) hb); have n1_ := Aside0.mk (below_step (by repeat (first | (with_reducible first | exact HB.out | apply below_alloc | apply pw_below_drewN | apply below_drew1 | refine below_set ?_ GE125.out) | exact HB.out)) hb); clear BK125; clear HB; have BK125 := n0_; have HB := n1_; clear n0_ n1_; (try clear hb); (try clear hb2); (try clear hk); (try clear hi)))
          go_meet
          case rel => exact ⟨_, ((a2 == 0)), (by first | rfl | (simp; done) | (simp [*]; done)), H', ⟨by first | omega | exact Nat.le_refl _⟩, ⟨by (with_reducible repeat (first | refine blk_drewN ?_ _ | refine blk_drew ?_ | refine blk_alloc ?_ _)); exact BK125.out⟩, ⟨by repeat (first | (with_reducible first | exact HB.out | apply below_alloc | apply pw_below_drewN | apply below_drew1 | refine below_set ?_ GE125.out) | exact HB.out)⟩⟩
        · replace c12 := Bool.eq_false_iff.mpr c12
          subst c12
          have H1 : (daemon_ResolveQ.j0 k a1 a2 a3 true) = some r := by rw [if_neg (show ¬ (false = true) by decide)] at H; exact H
          clear H
          have H := H1
          clear H1
          have H' := Aside0.mk H
          clear H
          have hcz17_0 : w6.cell? ⟨gb125, 0, none⟩ = some (.slice A0_0 l0_0.length c0_0) := (blk_cell BK125.out 0).trans rfl
          have hcz17_1 : w6.cell? ⟨gb125, 1, none⟩ = some (.slice A0_1 l0_1.length c0_1) := (blk_cell BK125.out 1).trans rfl
          have hfz17_0 := blk_frozen BK125.out 0
          have hfz17_1 := blk_frozen BK125.out 1
          go_wp2_with (first | ((with_reducible refine gate_callee (f := 30) rfl ?_); refine goesL_ (some 13) rfl rfl Try.func30 (by kernel_rfl) rfl #[.agg #[.slice A0_0 l0_0.length c0_0, .slice A0_1 l0_1.length c0_1]] rfl (by (try simp only [List.map_toArray, List.map_cons, List.map_nil]); first | done | rfl | (simp only [List.length_drop, List.length_take]; rfl)) ?_; (with_reducible refine (graph_Valid.calls _ _ l0_0 _ _ l0_1 true _ ?side1 ?side2 ?side3 ?side4 A7.out).mono ?_); (case side1 => repeat (first | exact (Kd.C_below HR0_0.out HB.out) | (with_reducible refine Kd.C_alloc ?_ _) | (with_reducible refine Kd.C_drewN ?_ _) | (with_reducible refine Kd.C_drew ?_))); (case side2 => exact HC0_0.out); (case side3 => repeat (first | exact (Kd.C_below HR0_1.out HB.out) | (with_reducible refine Kd.C_alloc ?_ _) | (with_reducible refine Kd.C_drewN ?_ _) | (with_reducible refine Kd.C_drew ?_))); (case side4 => exact HC0_1.out); rintro e w18 ⟨rfl, hb⟩; refine ⟨_, rfl, ?_⟩; have n0_ := Aside0.mk (blk_below (g := gb125) (o := .cells #[.slice A0_0 l0_0.length c0_0, .slice A0_1 l0_1.length c0_1] 25 (0, 0)) (by (with_reducible repeat (first | refine blk_drewN ?_ _ | refine blk_drew ?_ | refine blk_alloc ?_ _)); exact BK125.out) hb); have n1_ := Aside0.mk (below_step (by repeat (first | (with_reducible first | exact HB.out | apply below_alloc | apply pw_below_drewN | apply below_drew1 | refine below_set ?_ GE125.out) | exact HB.out)) hb); clear BK125; clear HB; have BK125 := n0_; have HB := n1_; clear n0_ n1_; (try clear hb); (try clear hb2); (try clear hk); (try clear hi)) | (go_at_call 24; (with_reducible refine (daemon_Valid.calls a1 true _ A9.out).mono ?_); rintro e w' ⟨rfl, ⟨nd, rfl⟩⟩; have hcz19_0 : w18.cell? ⟨gb125, 0, none⟩ = some (.slice A0_0 l0_0.length c0_0) := (blk_cell BK125.out 0).trans rfl; have hcz19_1 : w18.cell? ⟨gb125, 1, none⟩ = some (.slice A0_1 l0_1.length c0_1) := (blk_cell BK125.out 1).trans rfl; have hfz19_0 := blk_frozen BK125.out 0; have hfz19_1 := blk_frozen BK125.out 1) | (go_at_call 31; (with_reducible refine (daemon_nodes.calls _ _ l0_0 _ _ l0_1 a2 false _ ?side1 ?side2 ?side3 ?side4 A11.out).mono ?_); (case side1 => repeat (first | exact (Kd.C_below HR0_0.out (by repeat (first | (with_reducible first | exact HB.out | apply below_alloc | apply pw_below_drewN | apply below_drew1 | refine below_set ?_ GE125.out) | exact HB.out))) | (with_reducible refine Kd.C_alloc ?_ _) | (with_reducible refine Kd.C_drewN ?_ _) | (with_reducible refine Kd.C_drew ?_))); (case side2 => exact HC0_0.out); (case side3 => repeat (first | exact (Kd.C_below HR0_1.out (by repeat (first | (with_reducible first | exact HB.out | apply below_alloc | apply pw_below_drewN | apply below_drew1 | refine below_set ?_ GE125.out) | exact HB.out))) | (with_reducible refine Kd.C_alloc ?_ _) | (with_reducible refine Kd.C_drewN ?_ _) | (with_reducible refine Kd.C_drew ?_))); (case side4 => exact HC0_1.out); rintro e w20 ⟨rfl, hb⟩; have n0_ := Aside0.mk (blk_below (g := gb125) (o := .cells #[.slice A0_0 l0_0.length c0_0, .slice A0_1 l0_1.length c0_1] 25 (0, 0)) (by (with_reducible repeat (first | refine blk_drewN ?_ _ | refine blk_drew ?_ | refine blk_alloc ?_ _)); exact BK125.out) hb); have n1_ := Aside0.mk (below_step (by repeat (first | (with_reducible first | exact HB.out | apply below_alloc | apply pw_below_drewN | apply below_drew1 | refine below_set ?_ GE125.out) | exact HB.out)) hb); clear BK125; clear HB; have BK125 := n0_; have HB := n1_; clear n0_ n1_; (try clear hb); (try clear hb2); (try clear hk); (try clear hi)))
          go_meet
          case rel => exact ⟨_, (true), (by first | rfl | (simp; done) | (simp [*]; done)), H', ⟨by first | omega | exact Nat.le_refl _⟩, ⟨by (with_reducible repeat (first | refine blk_drewN ?_ _ | refine blk_drew ?_ | refine blk_alloc ?_ _)); exact BK125.out⟩, ⟨by repeat (first | (with_reducible first | exact HB.out | apply below_alloc | apply pw_below_drewN | apply below_drew1 | refine below_set ?_ GE125.out) | exact HB.out)⟩⟩
      · replace c10 := Bool.eq_false_iff.mpr c10
        subst c10
        have H1 : (daemon_ResolveQ.j0 k a1 a2 a3 true) = some r := by rw [if_neg (show ¬ (false = true) by decide)] at H; exact H
        clear H
        have H := H1
        clear H1
        have H' := Aside0.mk H
        clear H
        have hcz21_0 : w6.cell? ⟨gb125, 0, none⟩ = some (.slice A0_0 l0_0.length c0_0) := (blk_cell BK125.out 0).trans rfl
        have hcz21_1 : w6.cell? ⟨gb125, 1, none⟩ = some (.slice A0_1 l0_1.length c0_1) := (blk_cell BK125.out 1).trans rfl
        have hfz21_0 := blk_frozen BK125.out 0
        have hfz21_1 := blk_frozen BK125.out 1
        go_wp2_with (first | ((with_reducible refine gate_callee (f := 30) rfl ?_); refine goesL_ (some 13) rfl rfl Try.func30 (by kernel_rfl) rfl #[.agg #[.slice A0_0 l0_0.length c0_0, .slice A0_1 l0_1.length c0_1]] rfl (by (try simp only [List.map_toArray, List.map_cons, List.map_nil]); first | done | rfl | (simp only [List.length_drop, List.length_take]; rfl)) ?_; (with_reducible refine (graph_Valid.calls _ _ l0_0 _ _ l0_1 true _ ?side1 ?side2 ?side3 ?side4 A7.out).mono ?_); (case side1 => repeat (first | exact (Kd.C_below HR0_0.out HB.out) | (with_reducible refine Kd.C_alloc ?_ _) | (with_reducible refine Kd.C_drewN ?_ _) | (with_reducible refine Kd.C_drew ?_))); (case side2 => exact HC0_0.out); (case side3 => repeat (first | exact (Kd.C_below HR0_1.out HB.out) | (with_reducible refine Kd.C_alloc ?_ _) | (with_reducible refine Kd.C_drewN ?_ _) | (with_reducible refine Kd.C_drew ?_))); (case side4 => exact HC0_1.out); rintro e w22 ⟨rfl, hb⟩; refine ⟨_, rfl, ?_⟩; have n0_ := Aside0.mk (blk_below (g := gb125) (o := .cells #[.slice A0_0 l0_0.length c0_0, .slice A0_1 l0_1.length c0_1] 25 (0, 0)) (by (with_reducible repeat (first | refine blk_drewN ?_ _ | refine blk_drew ?_ | refine blk_alloc ?_ _)); exact BK125.out) hb); have n1_ := Aside0.mk (below_step (by repeat (first | (with_reducible first | exact HB.out | apply below_alloc | apply pw_below_drewN | apply below_drew1 | refine below_set ?_ GE125.out) | exact HB.out)) hb); clear BK125; clear HB; have BK125 := n0_; have HB := n1_; clear n0_ n1_; (try clear hb); (try clear hb2); (try clear hk); (try clear hi)) | (go_at_call 24; (with_reducible refine (daemon_Valid.calls a1 false _ A9.out).mono ?_); rintro e w' ⟨rfl, ⟨nd, rfl⟩⟩))
        go_meet
        case rel => exact ⟨_, (true), (by first | rfl | (simp; done) | (simp [*]; done)), H', ⟨by first | omega | exact Nat.le_refl _⟩, ⟨by (with_reducible repeat (first | refine blk_drewN ?_ _ | refine blk_drew ?_ | refine blk_alloc ?_ _)); exact BK125.out⟩, ⟨by repeat (first | (with_reducible first | exact HB.out | apply below_alloc | apply pw_below_drewN | apply below_drew1 | refine below_set ?_ GE125.out) | exact HB.out)⟩⟩
    · replace c8 := Bool.eq_false_iff.mpr c8
      subst c8
      have H1 : (daemon_ResolveQ.j0 k a1 a2 a3 true) = some r := by rw [if_neg (show ¬ (false = true) by decide)] at H; exact H
      clear H
      have H := H1
      clear H1
      have H' := Aside0.mk H
      clear H
      have hcz23_0 : w6.cell? ⟨gb125, 0, none⟩ = some (.slice A0_0 l0_0.length c0_0) := (blk_cell BK125.out 0).trans rfl
      have hcz23_1 : w6.cell? ⟨gb125, 1, none⟩ = some (.slice A0_1 l0_1.length c0_1) := (blk_cell BK125.out 1).trans rfl
      have hfz23_0 := blk_frozen BK125.out 0
      have hfz23_1 := blk_frozen BK125.out 1
      go_wp2_with (first | ((with_reducible refine gate_callee (f := 30) rfl ?_); refine goesL_ (some 13) rfl rfl Try.func30 (by kernel_rfl) rfl #[.agg #[.slice A0_0 l0_0.length c0_0, .slice A0_1 l0_1.length c0_1]] rfl (by (try simp only [List.map_toArray, List.map_cons, List.map_nil]); first | done | rfl | (simp only [List.length_drop, List.length_take]; rfl)) ?_; (with_reducible refine (graph_Valid.calls _ _ l0_0 _ _ l0_1 false _ ?side1 ?side2 ?side3 ?side4 A7.out).mono ?_); (case side1 => repeat (first | exact (Kd.C_below HR0_0.out HB.out) | (with_reducible refine Kd.C_alloc ?_ _) | (with_reducible refine Kd.C_drewN ?_ _) | (with_reducible refine Kd.C_drew ?_))); (case side2 => exact HC0_0.out); (case side3 => repeat (first | exact (Kd.C_below HR0_1.out HB.out) | (with_reducible refine Kd.C_alloc ?_ _) | (with_reducible refine Kd.C_drewN ?_ _) | (with_reducible refine Kd.C_drew ?_))); (case side4 => exact HC0_1.out); rintro e w24 ⟨rfl, hb⟩; refine ⟨_, rfl, ?_⟩; have n0_ := Aside0.mk (blk_below (g := gb125) (o := .cells #[.slice A0_0 l0_0.length c0_0, .slice A0_1 l0_1.length c0_1] 25 (0, 0)) (by (with_reducible repeat (first | refine blk_drewN ?_ _ | refine blk_drew ?_ | refine blk_alloc ?_ _)); exact BK125.out) hb); have n1_ := Aside0.mk (below_step (by repeat (first | (with_reducible first | exact HB.out | apply below_alloc | apply pw_below_drewN | apply below_drew1 | refine below_set ?_ GE125.out) | exact HB.out)) hb); clear BK125; clear HB; have BK125 := n0_; have HB := n1_; clear n0_ n1_; (try clear hb); (try clear hb2); (try clear hk); (try clear hi)))
      go_meet
      case rel => exact ⟨_, (true), (by first | rfl | (simp; done) | (simp [*]; done)), H', ⟨by first | omega | exact Nat.le_refl _⟩, ⟨by (with_reducible repeat (first | refine blk_drewN ?_ _ | refine blk_drew ?_ | refine blk_alloc ?_ _)); exact BK125.out⟩, ⟨by repeat (first | (with_reducible first | exact HB.out | apply below_alloc | apply pw_below_drewN | apply below_drew1 | refine below_set ?_ GE125.out) | exact HB.out)⟩⟩
  case rest =>
    clear HC5
    try clear c1
    try clear p2
    try clear c3
    try clear c8
    try clear c10
    try clear c12
    try clear c15
    try clear hcz13_0
    try clear hcz13_1
    try clear hcz15_0
    try clear hcz15_1
    try clear hcz17_0
    try clear hcz17_1
    try clear hcz19_0
    try clear hcz19_1
    try clear hcz21_0
    try clear hcz21_1
    try clear hcz23_0
    try clear hcz23_1
    try clear hfz13_0
    try clear hfz13_1
    try clear hfz15_0
    try clear hfz15_1
    try clear hfz17_0
    try clear hfz17_1
    try clear hfz19_0
    try clear hfz19_1
    try clear hfz21_0
    try clear hfz21_1
    try clear hfz23_0
    try clear hfz23_1
    obtain ⟨kq, x29_4, rfl, HA, HJ4, BK125, HB⟩ := hcut
    cases kq with
    | zero => exact absurd HA.out (by simp [daemon_ResolveQ.j0])
    | succ kj4 =>
      have H := HA.out
      clear HA
      simp only [daemon_ResolveQ.j0] at H
      by_cases c25 : x29_4 = true
      · subst c25
        have H1 : (some 0) = some r := by rw [if_pos rfl] at H; exact H
        clear H
        have H := H1
        clear H1
        obtain rfl := Option.some.inj H
        go_wp2
        go_ret
        exact ⟨by first | rfl | (simp [errW_none, errW_some] <;> rfl) | (simp [*, errW_none, errW_some] <;> rfl), by repeat (first | (with_reducible first | exact HB.out | apply below_alloc | apply pw_below_drewN | apply below_drew1 | refine below_set ?_ GE125.out) | exact HB.out)⟩
      · replace c25 := Bool.eq_false_iff.mpr c25
        subst c25
        have H1 : (if (Go.bits .and .u32 a3 a2) = 0 then ((daemon_least.f a2).bind fun t129 => (daemon_ResolveQ.j1 kj4 a1 a2 t129)) else (daemon_ResolveQ.j1 kj4 a1 a2 (Go.bits .and .u32 a3 a2))) = some r := by rw [if_neg (show ¬ (false = true) by decide)] at H; exact H
        clear H
        have H := H1
        clear H1
        have HC26 := Aside0.mk H
        clear H
        go_upto_if 34 with (fail)
        go_cut [9] (fun v9 wc => ∃ (kq : Nat) (x9_25 : Int), v9 = .int .u32 x9_25 ∧ Aside0 (daemon_ResolveQ.j1 kq a1 a2 x9_25 = some r) ∧ Aside0 (kq ≤ kj4) ∧ Aside0 (wc.heap[gb125]? = some (.cells #[(.slice A0_0 l0_0.length c0_0), (.slice A0_1 l0_1.length c0_1)] 25 (0, 0))) ∧ Aside0 (Below w.heap.size w wc))
        case first =>
          have H := HC26.out
          clear HC26
          by_cases c27 : (Go.bits .and .u32 a3 a2) = 0
          · rw [if_pos c27] at H
            have c27b0 : ((Go.bits .and .u32 a3 a2) == 0) = true := beq_iff_eq.mpr c27
            have c27b1 : ((Go.bits .and .u32 a3 a2) != 0) = false := bne_eq_false_iff_eq.mpr c27
            clear c27
            (first | rw [c27b0] | (simp only [i64_w, i32_w]; rw [c27b0]) | skip)
            replace H := Option.bind_eq_some_iff.mp H
            obtain ⟨t129, A280, H⟩ := H
            replace H : (daemon_ResolveQ.j1 kj4 a1 a2 t129) = some r := H
            have A28 := Aside0.mk A280
            clear A280
            have H' := Aside0.mk H
            clear H
            go_wp2_with (first | ((with_reducible refine gate_callee (f := 38) rfl ?_); refine goesL_ (some 36) rfl rfl Try.func38 (by kernel_rfl) rfl #[.int .u32 a2] rfl (by (try simp only [List.map_toArray, List.map_cons, List.map_nil]); first | done | rfl | (simp only [List.length_drop, List.length_take]; rfl)) ?_; (with_reducible refine (daemon_least.calls a2 t129 _ A28.out).mono ?_); rintro e w' ⟨rfl, ⟨nd, rfl⟩⟩; refine ⟨_, rfl, ?_⟩))
            go_meet
            case rel => exact ⟨_, (t129), (by first | rfl | (simp; done) | (simp [*]; done)), H', ⟨by have := HJ4.out; first | omega | exact Nat.le_refl _⟩, ⟨by (with_reducible repeat (first | refine blk_drewN ?_ _ | refine blk_drew ?_ | refine blk_alloc ?_ _)); exact BK125.out⟩, ⟨by repeat (first | (with_reducible first | exact HB.out | apply below_alloc | apply pw_below_drewN | apply below_drew1 | refine below_set ?_ GE125.out) | exact HB.out)⟩⟩
          · rw [if_neg c27] at H
            have c27b0 : ((Go.bits .and .u32 a3 a2) == 0) = false := beq_eq_false_iff_ne.mpr c27
            have c27b1 : ((Go.bits .and .u32 a3 a2) != 0) = true := bne_iff_ne.mpr c27
            (first | rw [c27b0] | (simp only [i64_w, i32_w]; rw [c27b0]) | skip)
            have H' := Aside0.mk H
            clear H
            go_wp2
            go_meet
            case rel => exact ⟨_, (Go.bits .and .u32 a3 a2), (by first | rfl | (simp; done) | (simp [*]; done)), H', ⟨by have := HJ4.out; first | omega | exact Nat.le_refl _⟩, ⟨by (with_reducible repeat (first | refine blk_drewN ?_ _ | refine blk_drew ?_ | refine blk_alloc ?_ _)); exact BK125.out⟩, ⟨by repeat (first | (with_reducible first | exact HB.out | apply below_alloc | apply pw_below_drewN | apply below_drew1 | refine below_set ?_ GE125.out) | exact HB.out)⟩⟩
        case rest =>
          clear HC26
          try clear c1
          try clear c2
          try clear p2
          try clear c3
          try clear c8
          try clear c10
          try clear c12
          try clear c15
          try clear c25
          try clear c27
          try clear c27b0
          try clear c27b1
          try clear hcz13_0
          try clear hcz13_1
          try clear hcz15_0
          try clear hcz15_1
          try clear hcz17_0
          try clear hcz17_1
          try clear hcz19_0
          try clear hcz19_1
          try clear hcz21_0
          try clear hcz21_1
          try clear hcz23_0
          try clear hcz23_1
          try clear hfz13_0
          try clear hfz13_1
          try clear hfz15_0
          try clear hfz15_1
          try clear hfz17_0
          try clear hfz17_1
          try clear hfz19_0
          try clear hfz19_1
          try clear hfz21_0
          try clear hfz21_1
          try clear hfz23_0
          try clear hfz23_1
          try clear p2
          obtain ⟨kq, x9_25, rfl, HA, HJ25, BK125, HB⟩ := hcut
          cases kq with
          | zero => exact absurd HA.out (by simp [daemon_ResolveQ.j1])
          | succ kj25 =>
            have H := HA.out
            clear HA
            simp only [daemon_ResolveQ.j1] at H
            by_cases c29 : a1 = 1
            · rw [if_pos c29] at H
              have c29b0 : (a1 == 1) = true := beq_iff_eq.mpr c29
              have c29b1 : (a1 != 1) = false := bne_eq_false_iff_eq.mpr c29
              clear c29
              replace H := Option.bind_eq_some_iff.mp H
              obtain ⟨t130, A300, H⟩ := H
              replace H : (some t130) = some r := H
              have A30 := Aside0.mk A300
              clear A300
              obtain rfl := Option.some.inj H
              go_wp2_with (first | ((with_reducible refine gate_callee (f := 38) rfl ?_); refine goesL_ (some 41) rfl rfl Try.func38 (by kernel_rfl) rfl #[.int .u32 x9_25] rfl (by (try simp only [List.map_toArray, List.map_cons, List.map_nil]); first | done | rfl | (simp only [List.length_drop, List.length_take]; rfl)) ?_; (with_reducible refine (daemon_least.calls x9_25 t130 _ A30.out).mono ?_); rintro e w' ⟨rfl, ⟨nd, rfl⟩⟩; refine ⟨_, rfl, ?_⟩))
              go_ret
              exact ⟨by first | rfl | (simp [errW_none, errW_some] <;> rfl) | (simp [*, errW_none, errW_some] <;> rfl), by repeat (first | (with_reducible first | exact HB.out | apply below_alloc | apply pw_below_drewN | apply below_drew1 | refine below_set ?_ GE125.out) | exact HB.out)⟩
            · rw [if_neg c29] at H
              have c29b0 : (a1 == 1) = false := beq_eq_false_iff_ne.mpr c29
              have c29b1 : (a1 != 1) = true := bne_iff_ne.mpr c29
              by_cases c31 : a1 = 4
              · rw [if_pos c31] at H
                have c31b0 : (a1 == 4) = true := beq_iff_eq.mpr c31
                have c31b1 : (a1 != 4) = false := bne_eq_false_iff_eq.mpr c31
                clear c31
                obtain rfl := Option.some.inj H
                go_wp2
                go_ret
                exact ⟨by first | rfl | (simp [errW_none, errW_some] <;> rfl) | (simp [*, errW_none, errW_some] <;> rfl), by repeat (first | (with_reducible first | exact HB.out | apply below_alloc | apply pw_below_drewN | apply below_drew1 | refine below_set ?_ GE125.out) | exact HB.out)⟩
              · rw [if_neg c31] at H
                have c31b0 : (a1 == 4) = false := beq_eq_false_iff_ne.mpr c31
                have c31b1 : (a1 != 4) = true := bne_iff_ne.mpr c31
                by_cases c32 : a1 = 2
                · rw [if_pos c32] at H
                  have c32b0 : (a1 == 2) = true := beq_iff_eq.mpr c32
                  have c32b1 : (a1 != 2) = false := bne_eq_false_iff_eq.mpr c32
                  clear c32
                  cases H
                · rw [if_neg c32] at H
                  have c32b0 : (a1 == 2) = false := beq_eq_false_iff_ne.mpr c32
                  have c32b1 : (a1 != 2) = true := bne_iff_ne.mpr c32
                  obtain rfl := Option.some.inj H
                  go_wp2
                  go_ret
                  exact ⟨by first | rfl | (simp [errW_none, errW_some] <;> rfl) | (simp [*, errW_none, errW_some] <;> rfl), by repeat (first | (with_reducible first | exact HB.out | apply below_alloc | apply pw_below_drewN | apply below_drew1 | refine below_set ?_ GE125.out) | exact HB.out)⟩


end Go.Proofs.Ytmkpddhnnejfhaa.P
