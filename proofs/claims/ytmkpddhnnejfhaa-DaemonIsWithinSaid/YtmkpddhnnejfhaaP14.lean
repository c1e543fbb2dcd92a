-- By a program of this session (wip/tools/myprint.py over the kit's printer). Not trusted: Lean checks it.
import Derived.Test.YtmkpddhnnejfhaaP0
import Derived.Test.YtmkpddhnnejfhaaP1
import Derived.Test.YtmkpddhnnejfhaaP3
import Derived.Test.YtmkpddhnnejfhaaP4
namespace Go.Proofs.Ytmkpddhnnejfhaa.P
open Go.RowKit Go.Proofs.YtmkpddhnnejfhaaW.PrintWords Go.Proofs.YtmkpddhnnejfhaaW.PrintLast Go.Proofs.YtmkpddhnnejfhaaW.PrintMore
attribute [local go_sem] max2_int min2_int max_two min_two max_three min_three max_four min_four   -- for this text's walks alone
set_option linter.unusedVariables false
set_option linter.unusedSimpArgs false

/-! ### selfstablaw15_DaemonIsWithin: function 9 -/
mutual
def selfstablaw15_DaemonIsWithin.j0 : Nat → Int → Int → Int → Bool → Option (Bool)
  | 0, _, _, _, _ => none
  | k + 1, x1, x2, x3, x43 => if x43 = true then (none) else ((daemon_Within.f x1 x2).bind fun t338 => (if t338 = true then ((daemon_Within.f x2 x3).bind fun t339 => (if t339 = true then ((daemon_Within.f x1 x3).bind fun t340 => (selfstablaw15_DaemonIsWithin.j1 k x1 (!t340))) else (selfstablaw15_DaemonIsWithin.j1 k x1 false))) else (selfstablaw15_DaemonIsWithin.j1 k x1 false)))
def selfstablaw15_DaemonIsWithin.j1 : Nat → Int → Bool → Option (Bool)
  | 0, _, _ => none
  | k + 1, x1, x57 => if x57 = true then (none) else ((selfstablaw15_awake.f k).bind fun t341 => (if t341 = true then ((daemon_Within.f x1 x1).bind fun t342 => (if t342 = true then ((daemon_Within.f 1 2).bind fun t343 => (if t343 = true then ((daemon_Within.f 2 3).bind fun t344 => (if t344 = true then ((daemon_Within.f 4 3).bind fun t345 => (if t345 = true then ((daemon_Within.f 3 2).bind fun t346 => (some (!t346))) else (none))) else (none))) else (none))) else (none))) else (none)))
end
def selfstablaw15_DaemonIsWithin.f (k : Nat) (l0_0 : List Int) (l0_1 : List (List (S58))) (a1 : Int) (a2 : Int) (a3 : Int) (a4 : Int) (a5 : Int) : Option (Bool) := (selfstablaw15_fair.f k l0_0 l0_1).bind fun t330 => (if t330 = true then ((selfstabmade_Mod.f a1 4).bind fun t332 => ((selfstabmade_Mod.f a2 4).bind fun t333 => ((selfstabmade_Mod.f a3 4).bind fun t334 => ((daemon_Within.f (wrap64 (1 + t332)) (wrap64 (1 + t333))).bind fun t335 => (if t335 = true then ((daemon_Permits.f k l0_0 l0_1 (wrap64 (1 + t332)) a4 a5).bind fun t336 => (if t336 = true then ((daemon_Permits.f k l0_0 l0_1 (wrap64 (1 + t333)) a4 a5).bind fun t337 => (selfstablaw15_DaemonIsWithin.j0 k (wrap64 (1 + t332)) (wrap64 (1 + t333)) (wrap64 (1 + t334)) (!t337))) else (selfstablaw15_DaemonIsWithin.j0 k (wrap64 (1 + t332)) (wrap64 (1 + t333)) (wrap64 (1 + t334)) false))) else (selfstablaw15_DaemonIsWithin.j0 k (wrap64 (1 + t332)) (wrap64 (1 + t333)) (wrap64 (1 + t334)) false)))))) else ((selfstablaw15_awake.f k).bind fun t331 => (some t331)))
theorem selfstablaw15_DaemonIsWithin.mono_l : ∀ k, (∀ y0 y1 y2 y3, LeO (selfstablaw15_DaemonIsWithin.j0 k y0 y1 y2 y3) (selfstablaw15_DaemonIsWithin.j0 (k + 1) y0 y1 y2 y3)) ∧ (∀ y0 y1, LeO (selfstablaw15_DaemonIsWithin.j1 k y0 y1) (selfstablaw15_DaemonIsWithin.j1 (k + 1) y0 y1))
  | 0 => ⟨fun _ _ _ _ r h => by simp [selfstablaw15_DaemonIsWithin.j0] at h, fun _ _ r h => by simp [selfstablaw15_DaemonIsWithin.j1] at h⟩
  | k + 1 => by
    obtain ⟨ih0, ih1⟩ := selfstablaw15_DaemonIsWithin.mono_l k
    refine ⟨?_, ?_⟩
    · intro y0 y1 y2 y3
      unfold selfstablaw15_DaemonIsWithin.j0
      repeat' first
      | (with_reducible exact ih0 _ _ _ _)
      | (with_reducible exact ih1 _ _)
      | (with_reducible exact daemon_Permits.mono _ _ _ _ _ _)
      | (with_reducible exact selfstablaw15_awake.mono _)
      | (with_reducible exact selfstablaw15_fair.mono _ _ _)
      | (with_reducible exact LeO.refl _)
      | (with_reducible exact LeO.none _)
      | (with_reducible refine LeO.ite ?_ ?_)
      | (with_reducible refine LeO.bind ?_ (fun _ => ?_))
      | exact ih0 _ _ _ _
      | exact ih1 _ _
      | exact daemon_Permits.mono _ _ _ _ _ _
      | exact selfstablaw15_awake.mono _
      | exact selfstablaw15_fair.mono _ _ _
      | exact LeO.none _
      | refine LeO.ite ?_ ?_
      | refine LeO.bind ?_ (fun _ => ?_)
    · intro y0 y1
      unfold selfstablaw15_DaemonIsWithin.j1
      repeat' first
      | (with_reducible exact ih0 _ _ _ _)
      | (with_reducible exact ih1 _ _)
      | (with_reducible exact daemon_Permits.mono _ _ _ _ _ _)
      | (with_reducible exact selfstablaw15_awake.mono _)
      | (with_reducible exact selfstablaw15_fair.mono _ _ _)
      | (with_reducible exact LeO.refl _)
      | (with_reducible exact LeO.none _)
      | (with_reducible refine LeO.ite ?_ ?_)
      | (with_reducible refine LeO.bind ?_ (fun _ => ?_))
      | exact ih0 _ _ _ _
      | exact ih1 _ _
      | exact daemon_Permits.mono _ _ _ _ _ _
      | exact selfstablaw15_awake.mono _
      | exact selfstablaw15_fair.mono _ _ _
      | exact LeO.none _
      | refine LeO.ite ?_ ?_
      | refine LeO.bind ?_ (fun _ => ?_)
theorem selfstablaw15_DaemonIsWithin.mono : ∀ a0 a1 a2 a3 a4 a5 a6 k, LeO (selfstablaw15_DaemonIsWithin.f k a0 a1 a2 a3 a4 a5 a6) (selfstablaw15_DaemonIsWithin.f (k + 1) a0 a1 a2 a3 a4 a5 a6) := by
  intro a0 a1 a2 a3 a4 a5 a6 k
  obtain ⟨ih0, ih1⟩ := selfstablaw15_DaemonIsWithin.mono_l k
  unfold selfstablaw15_DaemonIsWithin.f
  repeat' first
      | (with_reducible exact ih0 _ _ _ _)
      | (with_reducible exact ih1 _ _)
      | (with_reducible exact daemon_Permits.mono _ _ _ _ _ _)
      | (with_reducible exact selfstablaw15_awake.mono _)
      | (with_reducible exact selfstablaw15_fair.mono _ _ _)
      | (with_reducible exact LeO.refl _)
      | (with_reducible exact LeO.none _)
      | (with_reducible refine LeO.ite ?_ ?_)
      | (with_reducible refine LeO.bind ?_ (fun _ => ?_))
      | exact ih0 _ _ _ _
      | exact ih1 _ _
      | exact daemon_Permits.mono _ _ _ _ _ _
      | exact selfstablaw15_awake.mono _
      | exact selfstablaw15_fair.mono _ _ _
      | exact LeO.none _
      | refine LeO.ite ?_ ?_
      | refine LeO.bind ?_ (fun _ => ?_)
set_option maxHeartbeats 8000000 in
set_option maxRecDepth 100000 in
theorem selfstablaw15_DaemonIsWithin.calls (k : Nat) (A0_0 : Option Addr) (c0_0 : Nat) (l0_0 : List Int) (A0_1 : Option Addr) (c0_1 : Nat) (l0_1 : List (List (S58))) (a1 : Int) (a2 : Int) (a3 : Int) (a4 : Int) (a5 : Int) (r : Bool) (w : World) (hr0_0 : Kd.C (Kd.int .i64) w A0_0 l0_0.length l0_0) (hc0_0 : l0_0.length ≤ c0_0) (hr0_1 : Kd.C (Kd.slice 58 k58) w A0_1 l0_1.length l0_1) (hc0_1 : l0_1.length ≤ c0_1) (h : selfstablaw15_DaemonIsWithin.f k l0_0 l0_1 a1 a2 a3 a4 a5 = some r) :
    Calls Try.prog 9 #[.agg #[.slice A0_0 l0_0.length c0_0, .slice A0_1 l0_1.length c0_1], .int .i64 a1, .int .i64 a2, .int .i64 a3, .int .u32 a4, .int .u32 a5] w fun e w' => e = .returned (.bool r) ∧ Below w.heap.size w w' := by
  have hu25 := Try.underlying25
  have HR0_0 := Aside0.mk hr0_0
  have HC0_0 := Aside0.mk hc0_0
  clear hr0_0 hc0_0
  have HR0_1 := Aside0.mk hr0_1
  have HC0_1 := Aside0.mk hc0_1
  clear hr0_1 hc0_1
  have HB := Aside0.mk (Below.refl w.heap.size w)
  have H : ((selfstablaw15_fair.f k l0_0 l0_1).bind fun t330 => (if t330 = true then ((selfstabmade_Mod.f a1 4).bind fun t332 => ((selfstabmade_Mod.f a2 4).bind fun t333 => ((selfstabmade_Mod.f a3 4).bind fun t334 => ((daemon_Within.f (wrap64 (1 + t332)) (wrap64 (1 + t333))).bind fun t335 => (if t335 = true then ((daemon_Permits.f k l0_0 l0_1 (wrap64 (1 + t332)) a4 a5).bind fun t336 => (if t336 = true then ((daemon_Permits.f k l0_0 l0_1 (wrap64 (1 + t333)) a4 a5).bind fun t337 => (selfstablaw15_DaemonIsWithin.j0 k (wrap64 (1 + t332)) (wrap64 (1 + t333)) (wrap64 (1 + t334)) (!t337))) else (selfstablaw15_DaemonIsWithin.j0 k (wrap64 (1 + t332)) (wrap64 (1 + t333)) (wrap64 (1 + t334)) false))) else (selfstablaw15_DaemonIsWithin.j0 k (wrap64 (1 + t332)) (wrap64 (1 + t333)) (wrap64 (1 + t334)) false)))))) else ((selfstablaw15_awake.f k).bind fun t331 => (some t331)))) = some r := h
  clear h
  replace H := Option.bind_eq_some_iff.mp H
  obtain ⟨t330, A70, H⟩ := H
  replace H : (if t330 = true then ((selfstabmade_Mod.f a1 4).bind fun t332 => ((selfstabmade_Mod.f a2 4).bind fun t333 => ((selfstabmade_Mod.f a3 4).bind fun t334 => ((daemon_Within.f (wrap64 (1 + t332)) (wrap64 (1 + t333))).bind fun t335 => (if t335 = true then ((daemon_Permits.f k l0_0 l0_1 (wrap64 (1 + t332)) a4 a5).bind fun t336 => (if t336 = true then ((daemon_Permits.f k l0_0 l0_1 (wrap64 (1 + t333)) a4 a5).bind fun t337 => (selfstablaw15_DaemonIsWithin.j0 k (wrap64 (1 + t332)) (wrap64 (1 + t333)) (wrap64 (1 + t334)) (!t337))) else (selfstablaw15_DaemonIsWithin.j0 k (wrap64 (1 + t332)) (wrap64 (1 + t333)) (wrap64 (1 + t334)) false))) else (selfstablaw15_DaemonIsWithin.j0 k (wrap64 (1 + t332)) (wrap64 (1 + t333)) (wrap64 (1 + t334)) false)))))) else ((selfstablaw15_awake.f k).bind fun t331 => (some t331))) = some r := H
  have A7 := Aside0.mk A70
  clear A70
  by_cases c8 : t330 = true
  · subst c8
    have H1 : ((selfstabmade_Mod.f a1 4).bind fun t332 => ((selfstabmade_Mod.f a2 4).bind fun t333 => ((selfstabmade_Mod.f a3 4).bind fun t334 => ((daemon_Within.f (wrap64 (1 + t332)) (wrap64 (1 + t333))).bind fun t335 => (if t335 = true then ((daemon_Permits.f k l0_0 l0_1 (wrap64 (1 + t332)) a4 a5).bind fun t336 => (if t336 = true then ((daemon_Permits.f k l0_0 l0_1 (wrap64 (1 + t333)) a4 a5).bind fun t337 => (selfstablaw15_DaemonIsWithin.j0 k (wrap64 (1 + t332)) (wrap64 (1 + t333)) (wrap64 (1 + t334)) (!t337))) else (selfstablaw15_DaemonIsWithin.j0 k (wrap64 (1 + t332)) (wrap64 (1 + t333)) (wrap64 (1 + t334)) false))) else (selfstablaw15_DaemonIsWithin.j0 k (wrap64 (1 + t332)) (wrap64 (1 + t333)) (wrap64 (1 + t334)) false)))))) = some r := by rw [if_pos rfl] at H; exact H
    clear H
    have H := H1
    clear H1
    replace H := Option.bind_eq_some_iff.mp H
    obtain ⟨t332, A90, H⟩ := H
    replace H : ((selfstabmade_Mod.f a2 4).bind fun t333 => ((selfstabmade_Mod.f a3 4).bind fun t334 => ((daemon_Within.f (wrap64 (1 + t332)) (wrap64 (1 + t333))).bind fun t335 => (if t335 = true then ((daemon_Permits.f k l0_0 l0_1 (wrap64 (1 + t332)) a4 a5).bind fun t336 => (if t336 = true then ((daemon_Permits.f k l0_0 l0_1 (wrap64 (1 + t333)) a4 a5).bind fun t337 => (selfstablaw15_DaemonIsWithin.j0 k (wrap64 (1 + t332)) (wrap64 (1 + t333)) (wrap64 (1 + t334)) (!t337))) else (selfstablaw15_DaemonIsWithin.j0 k (wrap64 (1 + t332)) (wrap64 (1 + t333)) (wrap64 (1 + t334)) false))) else (selfstablaw15_DaemonIsWithin.j0 k (wrap64 (1 + t332)) (wrap64 (1 + t333)) (wrap64 (1 + t334)) false))))) = some r := H
    have A9 := Aside0.mk A90
    clear A90
    replace H := Option.bind_eq_some_iff.mp H
    obtain ⟨t333, A100, H⟩ := H
    replace H : ((selfstabmade_Mod.f a3 4).bind fun t334 => ((daemon_Within.f (wrap64 (1 + t332)) (wrap64 (1 + t333))).bind fun t335 => (if t335 = true then ((daemon_Permits.f k l0_0 l0_1 (wrap64 (1 + t332)) a4 a5).bind fun t336 => (if t336 = true then ((daemon_Permits.f k l0_0 l0_1 (wrap64 (1 + t333)) a4 a5).bind fun t337 => (selfstablaw15_DaemonIsWithin.j0 k (wrap64 (1 + t332)) (wrap64 (1 + t333)) (wrap64 (1 + t334)) (!t337))) else (selfstablaw15_DaemonIsWithin.j0 k (wrap64 (1 + t332)) (wrap64 (1 + t333)) (wrap64 (1 + t334)) false))) else (selfstablaw15_DaemonIsWithin.j0 k (wrap64 (1 + t332)) (wrap64 (1 + t333)) (wrap64 (1 + t334)) false)))) = some r := H
    have A10 := Aside0.mk A100
    clear A100
    replace H := Option.bind_eq_some_iff.mp H
    obtain ⟨t334, A110, H⟩ := H
    replace H : ((daemon_Within.f (wrap64 (1 + t332)) (wrap64 (1 + t333))).bind fun t335 => (if t335 = true then ((daemon_Permits.f k l0_0 l0_1 (wrap64 (1 + t332)) a4 a5).bind fun t336 => (if t336 = true then ((daemon_Permits.f k l0_0 l0_1 (wrap64 (1 + t333)) a4 a5).bind fun t337 => (selfstablaw15_DaemonIsWithin.j0 k (wrap64 (1 + t332)) (wrap64 (1 + t333)) (wrap64 (1 + t334)) (!t337))) else (selfstablaw15_DaemonIsWithin.j0 k (wrap64 (1 + t332)) (wrap64 (1 + t333)) (wrap64 (1 + t334)) false))) else (selfstablaw15_DaemonIsWithin.j0 k (wrap64 (1 + t332)) (wrap64 (1 + t333)) (wrap64 (1 + t334)) false))) = some r := H
    have A11 := Aside0.mk A110
    clear A110
    have HC12 := Aside0.mk H
    clear H
    go_enter Try.func9, Try.ntmps9
    go_upto_region 4 with (first | ((with_reducible refine gate_dst (N := 6) rfl ?_); refine box_event ?hg (N := 6) ?hd (cs := #[.slice A0_0 l0_0.length c0_0, .slice A0_1 l0_1.length c0_1]) (t := 25) ?hr ?_; (case hd => rfl); (case hg => rfl); (case hr => first | (go_simp; done) | (go_simp; rfl)); intro gb329 hg w13 hbox hb; have n0_ := Aside0.mk (below_step (by repeat (first | (with_reducible first | exact HB.out | apply below_alloc | apply pw_below_drewN | apply below_drew1) | exact HB.out)) hb); have n1_ := Aside0.mk (hbox); have n2_ := Aside0.mk ((by rw [hg]; exact (below_size (by repeat (first | (with_reducible first | exact HB.out | apply below_alloc | apply pw_below_drewN | apply below_drew1) | exact HB.out))) : w.heap.size ≤ gb329)); have n3_ := Aside0.mk ((by rw [hg]; exact (below_size (by repeat (first | (with_reducible first | exact HB.out | apply below_alloc | apply pw_below_drewN | apply below_drew1) | exact HB.out))) : w.heap.size ≤ gb329)); clear HB; have HB := n0_; have BK329 := n1_; have GW329 := n2_; have GE329 := n3_; clear n0_ n1_ n2_ n3_; clear hb hbox hg; have hcz14_0 : w13.cell? ⟨gb329, 0, none⟩ = some (.slice A0_0 l0_0.length c0_0) := (blk_cell BK329.out 0).trans rfl; have hcz14_1 : w13.cell? ⟨gb329, 1, none⟩ = some (.slice A0_1 l0_1.length c0_1) := (blk_cell BK329.out 1).trans rfl; have hfz14_0 := blk_frozen BK329.out 0; have hfz14_1 := blk_frozen BK329.out 1) | ((with_reducible refine gate_callee (f := 17) rfl ?_); refine goesL_ (some 14) rfl rfl Try.func17 (by kernel_rfl) rfl #[.agg #[.slice A0_0 l0_0.length c0_0, .slice A0_1 l0_1.length c0_1]] rfl (by (try simp only [List.map_toArray, List.map_cons, List.map_nil]); first | done | rfl | (simp only [List.length_drop, List.length_take]; rfl)) ?_; (with_reducible refine (selfstablaw15_fair.calls k _ _ l0_0 _ _ l0_1 true _ ?side1 ?side2 ?side3 ?side4 A7.out).mono ?_); (case side1 => repeat (first | exact (Kd.C_below HR0_0.out HB.out) | (with_reducible refine Kd.C_alloc ?_ _) | (with_reducible refine Kd.C_drewN ?_ _) | (with_reducible refine Kd.C_drew ?_))); (case side2 => exact HC0_0.out); (case side3 => repeat (first | exact (Kd.C_below HR0_1.out HB.out) | (with_reducible refine Kd.C_alloc ?_ _) | (with_reducible refine Kd.C_drewN ?_ _) | (with_reducible refine Kd.C_drew ?_))); (case side4 => exact HC0_1.out); rintro e w15 ⟨rfl, hb⟩; refine ⟨_, rfl, ?_⟩; have n0_ := Aside0.mk (blk_below (g := gb329) (o := .cells #[.slice A0_0 l0_0.length c0_0, .slice A0_1 l0_1.length c0_1] 25 (0, 0)) (by (with_reducible repeat (first | refine blk_drewN ?_ _ | refine blk_drew ?_ | refine blk_alloc ?_ _)); exact BK329.out) hb); have n1_ := Aside0.mk (below_step (by repeat (first | (with_reducible first | exact HB.out | apply below_alloc | apply pw_below_drewN | apply below_drew1 | refine below_set ?_ GE329.out) | exact HB.out)) hb); clear BK329; clear HB; have BK329 := n0_; have HB := n1_; clear n0_ n1_; (try clear hb); (try clear hb2); (try clear hk); (try clear hi)) | ((with_reducible refine gate_callee (f := 21) rfl ?_); refine goesL_ (some 18) rfl rfl Try.func21 (by kernel_rfl) rfl #[.int .i64 a1, .int .i64 4] rfl (by (try simp only [List.map_toArray, List.map_cons, List.map_nil]); first | done | rfl | (simp only [List.length_drop, List.length_take]; rfl)) ?_; (with_reducible refine (selfstabmade_Mod.calls a1 4 t332 _ A9.out).mono ?_); rintro e w' ⟨rfl, ⟨nd, rfl⟩⟩; refine ⟨_, rfl, ?_⟩) | ((with_reducible refine gate_callee (f := 21) rfl ?_); refine goesL_ (some 21) rfl rfl Try.func21 (by kernel_rfl) rfl #[.int .i64 a2, .int .i64 4] rfl (by (try simp only [List.map_toArray, List.map_cons, List.map_nil]); first | done | rfl | (simp only [List.length_drop, List.length_take]; rfl)) ?_; (with_reducible refine (selfstabmade_Mod.calls a2 4 t333 _ A10.out).mono ?_); rintro e w' ⟨rfl, ⟨nd, rfl⟩⟩; refine ⟨_, rfl, ?_⟩) | ((with_reducible refine gate_callee (f := 21) rfl ?_); refine goesL_ (some 24) rfl rfl Try.func21 (by kernel_rfl) rfl #[.int .i64 a3, .int .i64 4] rfl (by (try simp only [List.map_toArray, List.map_cons, List.map_nil]); first | done | rfl | (simp only [List.length_drop, List.length_take]; rfl)) ?_; (with_reducible refine (selfstabmade_Mod.calls a3 4 t334 _ A11.out).mono ?_); rintro e w' ⟨rfl, ⟨nd, rfl⟩⟩; refine ⟨_, rfl, ?_⟩))
    (try simp only [Act.put, List.setIfInBounds_toArray, List.set_cons_zero, List.set_cons_succ])
    go_cut [43] (fun v43 wc => ∃ (kq : Nat) (x43_11 : Bool), v43 = .bool x43_11 ∧ Aside0 (selfstablaw15_DaemonIsWithin.j0 kq (wrap64 (1 + t332)) (wrap64 (1 + t333)) (wrap64 (1 + t334)) x43_11 = some r) ∧ Aside0 (kq ≤ k) ∧ Aside0 (wc.heap[gb329]? = some (.cells #[(.slice A0_0 l0_0.length c0_0), (.slice A0_1 l0_1.length c0_1)] 25 (0, 0))) ∧ Aside0 (Below w.heap.size w wc))
    case first =>
      have H := HC12.out
      clear HC12
      replace H := Option.bind_eq_some_iff.mp H
      obtain ⟨t335, A160, H⟩ := H
      replace H : (if t335 = true then ((daemon_Permits.f k l0_0 l0_1 (wrap64 (1 + t332)) a4 a5).bind fun t336 => (if t336 = true then ((daemon_Permits.f k l0_0 l0_1 (wrap64 (1 + t333)) a4 a5).bind fun t337 => (selfstablaw15_DaemonIsWithin.j0 k (wrap64 (1 + t332)) (wrap64 (1 + t333)) (wrap64 (1 + t334)) (!t337))) else (selfstablaw15_DaemonIsWithin.j0 k (wrap64 (1 + t332)) (wrap64 (1 + t333)) (wrap64 (1 + t334)) false))) else (selfstablaw15_DaemonIsWithin.j0 k (wrap64 (1 + t332)) (wrap64 (1 + t333)) (wrap64 (1 + t334)) false)) = some r := H
      have A16 := Aside0.mk A160
      clear A160
      by_cases c17 : t335 = true
      · subst c17
        have H1 : ((daemon_Permits.f k l0_0 l0_1 (wrap64 (1 + t332)) a4 a5).bind fun t336 => (if t336 = true then ((daemon_Permits.f k l0_0 l0_1 (wrap64 (1 + t333)) a4 a5).bind fun t337 => (selfstablaw15_DaemonIsWithin.j0 k (wrap64 (1 + t332)) (wrap64 (1 + t333)) (wrap64 (1 + t334)) (!t337))) else (selfstablaw15_DaemonIsWithin.j0 k (wrap64 (1 + t332)) (wrap64 (1 + t333)) (wrap64 (1 + t334)) false))) = some r := by rw [if_pos rfl] at H; exact H
        clear H
        have H := H1
        clear H1
        replace H := Option.bind_eq_some_iff.mp H
        obtain ⟨t336, A180, H⟩ := H
        replace H : (if t336 = true then ((daemon_Permits.f k l0_0 l0_1 (wrap64 (1 + t333)) a4 a5).bind fun t337 => (selfstablaw15_DaemonIsWithin.j0 k (wrap64 (1 + t332)) (wrap64 (1 + t333)) (wrap64 (1 + t334)) (!t337))) else (selfstablaw15_DaemonIsWithin.j0 k (wrap64 (1 + t332)) (wrap64 (1 + t333)) (wrap64 (1 + t334)) false)) = some r := H
        have A18 := Aside0.mk A180
        clear A180
        by_cases c19 : t336 = true
        · subst c19
          have H1 : ((daemon_Permits.f k l0_0 l0_1 (wrap64 (1 + t333)) a4 a5).bind fun t337 => (selfstablaw15_DaemonIsWithin.j0 k (wrap64 (1 + t332)) (wrap64 (1 + t333)) (wrap64 (1 + t334)) (!t337))) = some r := by rw [if_pos rfl] at H; exact H
          clear H
          have H := H1
          clear H1
          replace H := Option.bind_eq_some_iff.mp H
          obtain ⟨t337, A200, H⟩ := H
          replace H : (selfstablaw15_DaemonIsWithin.j0 k (wrap64 (1 + t332)) (wrap64 (1 + t333)) (wrap64 (1 + t334)) (!t337)) = some r := H
          have A20 := Aside0.mk A200
          clear A200
          have H' := Aside0.mk H
          clear H
          go_wp2_with (first | ((with_reducible refine gate_callee (f := 27) rfl ?_); refine goesL_ (some 28) rfl rfl Try.func27 (by kernel_rfl) rfl #[.int .i64 (wrap64 (1 + t332)), .int .i64 (wrap64 (1 + t333))] rfl (by (try simp only [List.map_toArray, List.map_cons, List.map_nil]); first | done | rfl | (simp only [List.length_drop, List.length_take]; rfl)) ?_; (with_reducible refine (daemon_Within.calls (wrap64 (1 + t332)) (wrap64 (1 + t333)) true _ A16.out).mono ?_); rintro e w' ⟨rfl, ⟨nd, rfl⟩⟩; refine ⟨_, rfl, ?_⟩; have hcz21_0 : w15.cell? ⟨gb329, 0, none⟩ = some (.slice A0_0 l0_0.length c0_0) := (blk_cell BK329.out 0).trans rfl; have hcz21_1 : w15.cell? ⟨gb329, 1, none⟩ = some (.slice A0_1 l0_1.length c0_1) := (blk_cell BK329.out 1).trans rfl; have hfz21_0 := blk_frozen BK329.out 0; have hfz21_1 := blk_frozen BK329.out 1) | (go_at_call 23; (with_reducible refine (daemon_Permits.calls k _ _ l0_0 _ _ l0_1 (wrap64 (1 + t332)) a4 a5 true _ ?side1 ?side2 ?side3 ?side4 A18.out).mono ?_); (case side1 => repeat (first | exact (Kd.C_below HR0_0.out (by repeat (first | (with_reducible first | exact HB.out | apply below_alloc | apply pw_below_drewN | apply below_drew1 | refine below_set ?_ GE329.out) | exact HB.out))) | (with_reducible refine Kd.C_alloc ?_ _) | (with_reducible refine Kd.C_drewN ?_ _) | (with_reducible refine Kd.C_drew ?_))); (case side2 => exact HC0_0.out); (case side3 => repeat (first | exact (Kd.C_below HR0_1.out (by repeat (first | (with_reducible first | exact HB.out | apply below_alloc | apply pw_below_drewN | apply below_drew1 | refine below_set ?_ GE329.out) | exact HB.out))) | (with_reducible refine Kd.C_alloc ?_ _) | (with_reducible refine Kd.C_drewN ?_ _) | (with_reducible refine Kd.C_drew ?_))); (case side4 => exact HC0_1.out); rintro e w22 ⟨rfl, hb⟩; have n0_ := Aside0.mk (blk_below (g := gb329) (o := .cells #[.slice A0_0 l0_0.length c0_0, .slice A0_1 l0_1.length c0_1] 25 (0, 0)) (by (with_reducible repeat (first | refine blk_drewN ?_ _ | refine blk_drew ?_ | refine blk_alloc ?_ _)); exact BK329.out) hb); have n1_ := Aside0.mk (below_step (by repeat (first | (with_reducible first | exact HB.out | apply below_alloc | apply pw_below_drewN | apply below_drew1 | refine below_set ?_ GE329.out) | exact HB.out)) hb); clear BK329; clear HB; have BK329 := n0_; have HB := n1_; clear n0_ n1_; (try clear hb); (try clear hb2); (try clear hk); (try clear hi); have hcz23_0 : w22.cell? ⟨gb329, 0, none⟩ = some (.slice A0_0 l0_0.length c0_0) := (blk_cell BK329.out 0).trans rfl; have hcz23_1 : w22.cell? ⟨gb329, 1, none⟩ = some (.slice A0_1 l0_1.length c0_1) := (blk_cell BK329.out 1).trans rfl; have hfz23_0 := blk_frozen BK329.out 0; have hfz23_1 := blk_frozen BK329.out 1) | (go_at_call 23; (with_reducible refine (daemon_Permits.calls k _ _ l0_0 _ _ l0_1 (wrap64 (1 + t333)) a4 a5 t337 _ ?side1 ?side2 ?side3 ?side4 A20.out).mono ?_); (case side1 => repeat (first | exact (Kd.C_below HR0_0.out HB.out) | (with_reducible refine Kd.C_alloc ?_ _) | (with_reducible refine Kd.C_drewN ?_ _) | (with_reducible refine Kd.C_drew ?_))); (case side2 => exact HC0_0.out); (case side3 => repeat (first | exact (Kd.C_below HR0_1.out HB.out) | (with_reducible refine Kd.C_alloc ?_ _) | (with_reducible refine Kd.C_drewN ?_ _) | (with_reducible refine Kd.C_drew ?_))); (case side4 => exact HC0_1.out); rintro e w24 ⟨rfl, hb⟩; have n0_ := Aside0.mk (blk_below (g := gb329) (o := .cells #[.slice A0_0 l0_0.length c0_0, .slice A0_1 l0_1.length c0_1] 25 (0, 0)) (by (with_reducible repeat (first | refine blk_drewN ?_ _ | refine blk_drew ?_ | refine blk_alloc ?_ _)); exact BK329.out) hb); have n1_ := Aside0.mk (below_step (by repeat (first | (with_reducible first | exact HB.out | apply below_alloc | apply pw_below_drewN | apply below_drew1 | refine below_set ?_ GE329.out) | exact HB.out)) hb); clear BK329; clear HB; have BK329 := n0_; have HB := n1_; clear n0_ n1_; (try clear hb); (try clear hb2); (try clear hk); (try clear hi)))
          go_meet
          case rel => exact ⟨_, (!t337), (by first | rfl | (simp; done) | (simp [*]; done)), H', ⟨by first | omega | exact Nat.le_refl _⟩, ⟨by (with_reducible repeat (first | refine blk_drewN ?_ _ | refine blk_drew ?_ | refine blk_alloc ?_ _)); exact BK329.out⟩, ⟨by repeat (first | (with_reducible first | exact HB.out | apply below_alloc | apply pw_below_drewN | apply below_drew1 | refine below_set ?_ GE329.out) | exact HB.out)⟩⟩
        · replace c19 := Bool.eq_false_iff.mpr c19
          subst c19
          have H1 : (selfstablaw15_DaemonIsWithin.j0 k (wrap64 (1 + t332)) (wrap64 (1 + t333)) (wrap64 (1 + t334)) false) = some r := by rw [if_neg (show ¬ (false = true) by decide)] at H; exact H
          clear H
          have H := H1
          clear H1
          have H' := Aside0.mk H
          clear H
          go_wp2_with (first | ((with_reducible refine gate_callee (f := 27) rfl ?_); refine goesL_ (some 28) rfl rfl Try.func27 (by kernel_rfl) rfl #[.int .i64 (wrap64 (1 + t332)), .int .i64 (wrap64 (1 + t333))] rfl (by (try simp only [List.map_toArray, List.map_cons, List.map_nil]); first | done | rfl | (simp only [List.length_drop, List.length_take]; rfl)) ?_; (with_reducible refine (daemon_Within.calls (wrap64 (1 + t332)) (wrap64 (1 + t333)) true _ A16.out).mono ?_); rintro e w' ⟨rfl, ⟨nd, rfl⟩⟩; refine ⟨_, rfl, ?_⟩; have hcz25_0 : w15.cell? ⟨gb329, 0, none⟩ = some (.slice A0_0 l0_0.length c0_0) := (blk_cell BK329.out 0).trans rfl; have hcz25_1 : w15.cell? ⟨gb329, 1, none⟩ = some (.slice A0_1 l0_1.length c0_1) := (blk_cell BK329.out 1).trans rfl; have hfz25_0 := blk_frozen BK329.out 0; have hfz25_1 := blk_frozen BK329.out 1) | (go_at_call 23; (with_reducible refine (daemon_Permits.calls k _ _ l0_0 _ _ l0_1 (wrap64 (1 + t332)) a4 a5 false _ ?side1 ?side2 ?side3 ?side4 A18.out).mono ?_); (case side1 => repeat (first | exact (Kd.C_below HR0_0.out (by repeat (first | (with_reducible first | exact HB.out | apply below_alloc | apply pw_below_drewN | apply below_drew1 | refine below_set ?_ GE329.out) | exact HB.out))) | (with_reducible refine Kd.C_alloc ?_ _) | (with_reducible refine Kd.C_drewN ?_ _) | (with_reducible refine Kd.C_drew ?_))); (case side2 => exact HC0_0.out); (case side3 => repeat (first | exact (Kd.C_below HR0_1.out (by repeat (first | (with_reducible first | exact HB.out | apply below_alloc | apply pw_below_drewN | apply below_drew1 | refine below_set ?_ GE329.out) | exact HB.out))) | (with_reducible refine Kd.C_alloc ?_ _) | (with_reducible refine Kd.C_drewN ?_ _) | (with_reducible refine Kd.C_drew ?_))); (case side4 => exact HC0_1.out); rintro e w26 ⟨rfl, hb⟩; have n0_ := Aside0.mk (blk_below (g := gb329) (o := .cells #[.slice A0_0 l0_0.length c0_0, .slice A0_1 l0_1.length c0_1] 25 (0, 0)) (by (with_reducible repeat (first | refine blk_drewN ?_ _ | refine blk_drew ?_ | refine blk_alloc ?_ _)); exact BK329.out) hb); have n1_ := Aside0.mk (below_step (by repeat (first | (with_reducible first | exact HB.out | apply below_alloc | apply pw_below_drewN | apply below_drew1 | refine below_set ?_ GE329.out) | exact HB.out)) hb); clear BK329; clear HB; have BK329 := n0_; have HB := n1_; clear n0_ n1_; (try clear hb); (try clear hb2); (try clear hk); (try clear hi)))
          go_meet
          case rel => exact ⟨_, (false), (by first | rfl | (simp; done) | (simp [*]; done)), H', ⟨by first | omega | exact Nat.le_refl _⟩, ⟨by (with_reducible repeat (first | refine blk_drewN ?_ _ | refine blk_drew ?_ | refine blk_alloc ?_ _)); exact BK329.out⟩, ⟨by repeat (first | (with_reducible first | exact HB.out | apply below_alloc | apply pw_below_drewN | apply below_drew1 | refine below_set ?_ GE329.out) | exact HB.out)⟩⟩
      · replace c17 := Bool.eq_false_iff.mpr c17
        subst c17
        have H1 : (selfstablaw15_DaemonIsWithin.j0 k (wrap64 (1 + t332)) (wrap64 (1 + t333)) (wrap64 (1 + t334)) false) = some r := by rw [if_neg (show ¬ (false = true) by decide)] at H; exact H
        clear H
        have H := H1
        clear H1
        have H' := Aside0.mk H
        clear H
        go_wp2_with (first | ((with_reducible refine gate_callee (f := 27) rfl ?_); refine goesL_ (some 28) rfl rfl Try.func27 (by kernel_rfl) rfl #[.int .i64 (wrap64 (1 + t332)), .int .i64 (wrap64 (1 + t333))] rfl (by (try simp only [List.map_toArray, List.map_cons, List.map_nil]); first | done | rfl | (simp only [List.length_drop, List.length_take]; rfl)) ?_; (with_reducible refine (daemon_Within.calls (wrap64 (1 + t332)) (wrap64 (1 + t333)) false _ A16.out).mono ?_); rintro e w' ⟨rfl, ⟨nd, rfl⟩⟩; refine ⟨_, rfl, ?_⟩))
        go_meet
        case rel => exact ⟨_, (false), (by first | rfl | (simp; done) | (simp [*]; done)), H', ⟨by first | omega | exact Nat.le_refl _⟩, ⟨by (with_reducible repeat (first | refine blk_drewN ?_ _ | refine blk_drew ?_ | refine blk_alloc ?_ _)); exact BK329.out⟩, ⟨by repeat (first | (with_reducible first | exact HB.out | apply below_alloc | apply pw_below_drewN | apply below_drew1 | refine below_set ?_ GE329.out) | exact HB.out)⟩⟩
    case rest =>
      clear HC12
      try clear c1
      try clear c2
      try clear p2
      try clear p6
      try clear c8
      try clear c9
      try clear c17
      try clear c19
      try clear c21
      try clear hcz14_0
      try clear hcz14_1
      try clear hcz21_0
      try clear hcz21_1
      try clear hcz23_0
      try clear hcz23_1
      try clear hcz25_0
      try clear hcz25_1
      try clear hfz14_0
      try clear hfz14_1
      try clear hfz21_0
      try clear hfz21_1
      try clear hfz23_0
      try clear hfz23_1
      try clear hfz25_0
      try clear hfz25_1
      obtain ⟨kq, x43_11, rfl, HA, HJ11, BK329, HB⟩ := hcut
      cases kq with
      | zero => exact absurd HA.out (by simp [selfstablaw15_DaemonIsWithin.j0])
      | succ kj11 =>
        have H := HA.out
        clear HA
        simp only [selfstablaw15_DaemonIsWithin.j0] at H
        by_cases c27 : x43_11 = true
        · subst c27
          have H1 : (none) = some r := by rw [if_pos rfl] at H; exact H
          clear H
          have H := H1
          clear H1
          exact absurd H (by simp)
        · replace c27 := Bool.eq_false_iff.mpr c27
          subst c27
          have H1 : ((daemon_Within.f (wrap64 (1 + t332)) (wrap64 (1 + t333))).bind fun t338 => (if t338 = true then ((daemon_Within.f (wrap64 (1 + t333)) (wrap64 (1 + t334))).bind fun t339 => (if t339 = true then ((daemon_Within.f (wrap64 (1 + t332)) (wrap64 (1 + t334))).bind fun t340 => (selfstablaw15_DaemonIsWithin.j1 kj11 (wrap64 (1 + t332)) (!t340))) else (selfstablaw15_DaemonIsWithin.j1 kj11 (wrap64 (1 + t332)) false))) else (selfstablaw15_DaemonIsWithin.j1 kj11 (wrap64 (1 + t332)) false))) = some r := by rw [if_neg (show ¬ (false = true) by decide)] at H; exact H
          clear H
          have H := H1
          clear H1
          have HC28 := Aside0.mk H
          clear H
          go_upto_region 6 with (fail)
          go_cut [57] (fun v57 wc => ∃ (kq : Nat) (x57_27 : Bool), v57 = .bool x57_27 ∧ Aside0 (selfstablaw15_DaemonIsWithin.j1 kq (wrap64 (1 + t332)) x57_27 = some r) ∧ Aside0 (kq ≤ kj11) ∧ Aside0 (wc.heap[gb329]? = some (.cells #[(.slice A0_0 l0_0.length c0_0), (.slice A0_1 l0_1.length c0_1)] 25 (0, 0))) ∧ Aside0 (Below w.heap.size w wc))
          case first =>
            have H := HC28.out
            clear HC28
            replace H := Option.bind_eq_some_iff.mp H
            obtain ⟨t338, A290, H⟩ := H
            replace H : (if t338 = true then ((daemon_Within.f (wrap64 (1 + t333)) (wrap64 (1 + t334))).bind fun t339 => (if t339 = true then ((daemon_Within.f (wrap64 (1 + t332)) (wrap64 (1 + t334))).bind fun t340 => (selfstablaw15_DaemonIsWithin.j1 kj11 (wrap64 (1 + t332)) (!t340))) else (selfstablaw15_DaemonIsWithin.j1 kj11 (wrap64 (1 + t332)) false))) else (selfstablaw15_DaemonIsWithin.j1 kj11 (wrap64 (1 + t332)) false)) = some r := H
            have A29 := Aside0.mk A290
            clear A290
            by_cases c30 : t338 = true
            · subst c30
              have H1 : ((daemon_Within.f (wrap64 (1 + t333)) (wrap64 (1 + t334))).bind fun t339 => (if t339 = true then ((daemon_Within.f (wrap64 (1 + t332)) (wrap64 (1 + t334))).bind fun t340 => (selfstablaw15_DaemonIsWithin.j1 kj11 (wrap64 (1 + t332)) (!t340))) else (selfstablaw15_DaemonIsWithin.j1 kj11 (wrap64 (1 + t332)) false))) = some r := by rw [if_pos rfl] at H; exact H
              clear H
              have H := H1
              clear H1
              replace H := Option.bind_eq_some_iff.mp H
              obtain ⟨t339, A310, H⟩ := H
              replace H : (if t339 = true then ((daemon_Within.f (wrap64 (1 + t332)) (wrap64 (1 + t334))).bind fun t340 => (selfstablaw15_DaemonIsWithin.j1 kj11 (wrap64 (1 + t332)) (!t340))) else (selfstablaw15_DaemonIsWithin.j1 kj11 (wrap64 (1 + t332)) false)) = some r := H
              have A31 := Aside0.mk A310
              clear A310
              by_cases c32 : t339 = true
              · subst c32
                have H1 : ((daemon_Within.f (wrap64 (1 + t332)) (wrap64 (1 + t334))).bind fun t340 => (selfstablaw15_DaemonIsWithin.j1 kj11 (wrap64 (1 + t332)) (!t340))) = some r := by rw [if_pos rfl] at H; exact H
                clear H
                have H := H1
                clear H1
                replace H := Option.bind_eq_some_iff.mp H
                obtain ⟨t340, A330, H⟩ := H
                replace H : (selfstablaw15_DaemonIsWithin.j1 kj11 (wrap64 (1 + t332)) (!t340)) = some r := H
                have A33 := Aside0.mk A330
                clear A330
                have H' := Aside0.mk H
                clear H
                go_wp2_with (first | ((with_reducible refine gate_callee (f := 27) rfl ?_); refine goesL_ (some 46) rfl rfl Try.func27 (by kernel_rfl) rfl #[.int .i64 (wrap64 (1 + t332)), .int .i64 (wrap64 (1 + t333))] rfl (by (try simp only [List.map_toArray, List.map_cons, List.map_nil]); first | done | rfl | (simp only [List.length_drop, List.length_take]; rfl)) ?_; (with_reducible refine (daemon_Within.calls (wrap64 (1 + t332)) (wrap64 (1 + t333)) true _ A29.out).mono ?_); rintro e w' ⟨rfl, ⟨nd, rfl⟩⟩; refine ⟨_, rfl, ?_⟩) | (go_at_call 27; (with_reducible refine (daemon_Within.calls (wrap64 (1 + t333)) (wrap64 (1 + t334)) true _ A31.out).mono ?_); rintro e w' ⟨rfl, ⟨nd, rfl⟩⟩) | (go_at_call 27; (with_reducible refine (daemon_Within.calls (wrap64 (1 + t332)) (wrap64 (1 + t334)) t340 _ A33.out).mono ?_); rintro e w' ⟨rfl, ⟨nd, rfl⟩⟩))
                go_meet
                case rel => exact ⟨_, (!t340), (by first | rfl | (simp; done) | (simp [*]; done)), H', ⟨by have := HJ11.out; first | omega | exact Nat.le_refl _⟩, ⟨by (with_reducible repeat (first | refine blk_drewN ?_ _ | refine blk_drew ?_ | refine blk_alloc ?_ _)); exact BK329.out⟩, ⟨by repeat (first | (with_reducible first | exact HB.out | apply below_alloc | apply pw_below_drewN | apply below_drew1 | refine below_set ?_ GE329.out) | exact HB.out)⟩⟩
              · replace c32 := Bool.eq_false_iff.mpr c32
                subst c32
                have H1 : (selfstablaw15_DaemonIsWithin.j1 kj11 (wrap64 (1 + t332)) false) = some r := by rw [if_neg (show ¬ (false = true) by decide)] at H; exact H
                clear H
                have H := H1
                clear H1
                have H' := Aside0.mk H
                clear H
                go_wp2_with (first | ((with_reducible refine gate_callee (f := 27) rfl ?_); refine goesL_ (some 46) rfl rfl Try.func27 (by kernel_rfl) rfl #[.int .i64 (wrap64 (1 + t332)), .int .i64 (wrap64 (1 + t333))] rfl (by (try simp only [List.map_toArray, List.map_cons, List.map_nil]); first | done | rfl | (simp only [List.length_drop, List.length_take]; rfl)) ?_; (with_reducible refine (daemon_Within.calls (wrap64 (1 + t332)) (wrap64 (1 + t333)) true _ A29.out).mono ?_); rintro e w' ⟨rfl, ⟨nd, rfl⟩⟩; refine ⟨_, rfl, ?_⟩) | (go_at_call 27; (with_reducible refine (daemon_Within.calls (wrap64 (1 + t333)) (wrap64 (1 + t334)) false _ A31.out).mono ?_); rintro e w' ⟨rfl, ⟨nd, rfl⟩⟩))
                go_meet
                case rel => exact ⟨_, (false), (by first | rfl | (simp; done) | (simp [*]; done)), H', ⟨by have := HJ11.out; first | omega | exact Nat.le_refl _⟩, ⟨by (with_reducible repeat (first | refine blk_drewN ?_ _ | refine blk_drew ?_ | refine blk_alloc ?_ _)); exact BK329.out⟩, ⟨by repeat (first | (with_reducible first | exact HB.out | apply below_alloc | apply pw_below_drewN | apply below_drew1 | refine below_set ?_ GE329.out) | exact HB.out)⟩⟩
            · replace c30 := Bool.eq_false_iff.mpr c30
              subst c30
              have H1 : (selfstablaw15_DaemonIsWithin.j1 kj11 (wrap64 (1 + t332)) false) = some r := by rw [if_neg (show ¬ (false = true) by decide)] at H; exact H
              clear H
              have H := H1
              clear H1
              have H' := Aside0.mk H
              clear H
              go_wp2_with (first | ((with_reducible refine gate_callee (f := 27) rfl ?_); refine goesL_ (some 46) rfl rfl Try.func27 (by kernel_rfl) rfl #[.int .i64 (wrap64 (1 + t332)), .int .i64 (wrap64 (1 + t333))] rfl (by (try simp only [List.map_toArray, List.map_cons, List.map_nil]); first | done | rfl | (simp only [List.length_drop, List.length_take]; rfl)) ?_; (with_reducible refine (daemon_Within.calls (wrap64 (1 + t332)) (wrap64 (1 + t333)) false _ A29.out).mono ?_); rintro e w' ⟨rfl, ⟨nd, rfl⟩⟩; refine ⟨_, rfl, ?_⟩))
              go_meet
              case rel => exact ⟨_, (false), (by first | rfl | (simp; done) | (simp [*]; done)), H', ⟨by have := HJ11.out; first | omega | exact Nat.le_refl _⟩, ⟨by (with_reducible repeat (first | refine blk_drewN ?_ _ | refine blk_drew ?_ | refine blk_alloc ?_ _)); exact BK329.out⟩, ⟨by repeat (first | (with_reducible first | exact HB.out | apply below_alloc | apply pw_below_drewN | apply below_drew1 | refine below_set ?_ GE329.out) | exact HB.out)⟩⟩
          case rest =>
            clear HC28
            try clear c1
            try clear c2
            try clear p2
            try clear c3
            try clear p6
            try clear c8
            try clear c9
            try clear c17
            try clear c19
            try clear c21
            try clear c27
            try clear c30
            try clear c32
            try clear hcz14_0
            try clear hcz14_1
            try clear hcz21_0
            try clear hcz21_1
            try clear hcz23_0
            try clear hcz23_1
            try clear hcz25_0
            try clear hcz25_1
            try clear hfz14_0
            try clear hfz14_1
            try clear hfz21_0
            try clear hfz21_1
            try clear hfz23_0
            try clear hfz23_1
            try clear hfz25_0
            try clear hfz25_1
            try clear p2
            try clear p6
            obtain ⟨kq, x57_27, rfl, HA, HJ27, BK329, HB⟩ := hcut
            cases kq with
            | zero => exact absurd HA.out (by simp [selfstablaw15_DaemonIsWithin.j1])
            | succ kj27 =>
              have H := HA.out
              clear HA
              simp only [selfstablaw15_DaemonIsWithin.j1] at H
              by_cases c34 : x57_27 = true
              · subst c34
                have H1 : (none) = some r := by rw [if_pos rfl] at H; exact H
                clear H
                have H := H1
                clear H1
                exact absurd H (by simp)
              · replace c34 := Bool.eq_false_iff.mpr c34
                subst c34
                have H1 : ((selfstablaw15_awake.f kj27).bind fun t341 => (if t341 = true then ((daemon_Within.f (wrap64 (1 + t332)) (wrap64 (1 + t332))).bind fun t342 => (if t342 = true then ((daemon_Within.f 1 2).bind fun t343 => (if t343 = true then ((daemon_Within.f 2 3).bind fun t344 => (if t344 = true then ((daemon_Within.f 4 3).bind fun t345 => (if t345 = true then ((daemon_Within.f 3 2).bind fun t346 => (some (!t346))) else (none))) else (none))) else (none))) else (none))) else (none))) = some r := by rw [if_neg (show ¬ (false = true) by decide)] at H; exact H
                clear H
                have H := H1
                clear H1
                replace H := Option.bind_eq_some_iff.mp H
                obtain ⟨t341, A350, H⟩ := H
                replace H : (if t341 = true then ((daemon_Within.f (wrap64 (1 + t332)) (wrap64 (1 + t332))).bind fun t342 => (if t342 = true then ((daemon_Within.f 1 2).bind fun t343 => (if t343 = true then ((daemon_Within.f 2 3).bind fun t344 => (if t344 = true then ((daemon_Within.f 4 3).bind fun t345 => (if t345 = true then ((daemon_Within.f 3 2).bind fun t346 => (some (!t346))) else (none))) else (none))) else (none))) else (none))) else (none)) = some r := H
                have A35 := Aside0.mk A350
                clear A350
                by_cases c36 : t341 = true
                · subst c36
                  have H1 : ((daemon_Within.f (wrap64 (1 + t332)) (wrap64 (1 + t332))).bind fun t342 => (if t342 = true then ((daemon_Within.f 1 2).bind fun t343 => (if t343 = true then ((daemon_Within.f 2 3).bind fun t344 => (if t344 = true then ((daemon_Within.f 4 3).bind fun t345 => (if t345 = true then ((daemon_Within.f 3 2).bind fun t346 => (some (!t346))) else (none))) else (none))) else (none))) else (none))) = some r := by rw [if_pos rfl] at H; exact H
                  clear H
                  have H := H1
                  clear H1
                  replace H := Option.bind_eq_some_iff.mp H
                  obtain ⟨t342, A370, H⟩ := H
                  replace H : (if t342 = true then ((daemon_Within.f 1 2).bind fun t343 => (if t343 = true then ((daemon_Within.f 2 3).bind fun t344 => (if t344 = true then ((daemon_Within.f 4 3).bind fun t345 => (if t345 = true then ((daemon_Within.f 3 2).bind fun t346 => (some (!t346))) else (none))) else (none))) else (none))) else (none)) = some r := H
                  have A37 := Aside0.mk A370
                  clear A370
                  by_cases c38 : t342 = true
                  · subst c38
                    have H1 : ((daemon_Within.f 1 2).bind fun t343 => (if t343 = true then ((daemon_Within.f 2 3).bind fun t344 => (if t344 = true then ((daemon_Within.f 4 3).bind fun t345 => (if t345 = true then ((daemon_Within.f 3 2).bind fun t346 => (some (!t346))) else (none))) else (none))) else (none))) = some r := by rw [if_pos rfl] at H; exact H
                    clear H
                    have H := H1
                    clear H1
                    replace H := Option.bind_eq_some_iff.mp H
                    obtain ⟨t343, A390, H⟩ := H
                    replace H : (if t343 = true then ((daemon_Within.f 2 3).bind fun t344 => (if t344 = true then ((daemon_Within.f 4 3).bind fun t345 => (if t345 = true then ((daemon_Within.f 3 2).bind fun t346 => (some (!t346))) else (none))) else (none))) else (none)) = some r := H
                    have A39 := Aside0.mk A390
                    clear A390
                    by_cases c40 : t343 = true
                    · subst c40
                      have H1 : ((daemon_Within.f 2 3).bind fun t344 => (if t344 = true then ((daemon_Within.f 4 3).bind fun t345 => (if t345 = true then ((daemon_Within.f 3 2).bind fun t346 => (some (!t346))) else (none))) else (none))) = some r := by rw [if_pos rfl] at H; exact H
                      clear H
                      have H := H1
                      clear H1
                      replace H := Option.bind_eq_some_iff.mp H
                      obtain ⟨t344, A410, H⟩ := H
                      replace H : (if t344 = true then ((daemon_Within.f 4 3).bind fun t345 => (if t345 = true then ((daemon_Within.f 3 2).bind fun t346 => (some (!t346))) else (none))) else (none)) = some r := H
                      have A41 := Aside0.mk A410
                      clear A410
                      by_cases c42 : t344 = true
                      · subst c42
                        have H1 : ((daemon_Within.f 4 3).bind fun t345 => (if t345 = true then ((daemon_Within.f 3 2).bind fun t346 => (some (!t346))) else (none))) = some r := by rw [if_pos rfl] at H; exact H
                        clear H
                        have H := H1
                        clear H1
                        replace H := Option.bind_eq_some_iff.mp H
                        obtain ⟨t345, A430, H⟩ := H
                        replace H : (if t345 = true then ((daemon_Within.f 3 2).bind fun t346 => (some (!t346))) else (none)) = some r := H
                        have A43 := Aside0.mk A430
                        clear A430
                        by_cases c44 : t345 = true
                        · subst c44
                          have H1 : ((daemon_Within.f 3 2).bind fun t346 => (some (!t346))) = some r := by rw [if_pos rfl] at H; exact H
                          clear H
                          have H := H1
                          clear H1
                          replace H := Option.bind_eq_some_iff.mp H
                          obtain ⟨t346, A450, H⟩ := H
                          replace H : (some (!t346)) = some r := H
                          have A45 := Aside0.mk A450
                          clear A450
                          obtain rfl := Option.some.inj H
                          go_wp2_with (first | ((with_reducible refine gate_callee (f := 11) rfl ?_); refine goesL_ (some 58) rfl rfl Try.func11 (by kernel_rfl) rfl #[] rfl (by (try simp only [List.map_toArray, List.map_cons, List.map_nil]); first | done | rfl | (simp only [List.length_drop, List.length_take]; rfl)) ?_; (with_reducible refine (selfstablaw15_awake.calls kj27  true _ A35.out).mono ?_); rintro e w46 ⟨rfl, hb⟩; refine ⟨_, rfl, ?_⟩; have n0_ := Aside0.mk (blk_below (g := gb329) (o := .cells #[.slice A0_0 l0_0.length c0_0, .slice A0_1 l0_1.length c0_1] 25 (0, 0)) (by (with_reducible repeat (first | refine blk_drewN ?_ _ | refine blk_drew ?_ | refine blk_alloc ?_ _)); exact BK329.out) hb); have n1_ := Aside0.mk (below_step (by repeat (first | (with_reducible first | exact HB.out | apply below_alloc | apply pw_below_drewN | apply below_drew1 | refine below_set ?_ GE329.out) | exact HB.out)) hb); clear BK329; clear HB; have BK329 := n0_; have HB := n1_; clear n0_ n1_; (try clear hb); (try clear hb2); (try clear hk); (try clear hi)) | (go_at_call 27; (with_reducible refine (daemon_Within.calls (wrap64 (1 + t332)) (wrap64 (1 + t332)) true _ A37.out).mono ?_); rintro e w' ⟨rfl, ⟨nd, rfl⟩⟩) | (go_at_call 27; (with_reducible refine (daemon_Within.calls 1 2 true _ A39.out).mono ?_); rintro e w' ⟨rfl, ⟨nd, rfl⟩⟩) | (go_at_call 27; (with_reducible refine (daemon_Within.calls 2 3 true _ A41.out).mono ?_); rintro e w' ⟨rfl, ⟨nd, rfl⟩⟩) | (go_at_call 27; (with_reducible refine (daemon_Within.calls 4 3 true _ A43.out).mono ?_); rintro e w' ⟨rfl, ⟨nd, rfl⟩⟩) | (go_at_call 27; (with_reducible refine (daemon_Within.calls 3 2 t346 _ A45.out).mono ?_); rintro e w' ⟨rfl, ⟨nd, rfl⟩⟩))
                          go_ret
                          exact ⟨by first | rfl | (simp [errW_none, errW_some] <;> rfl) | (simp [*, errW_none, errW_some] <;> rfl), by repeat (first | (with_reducible first | exact HB.out | apply below_alloc | apply pw_below_drewN | apply below_drew1 | refine below_set ?_ GE329.out) | exact HB.out)⟩
                        · replace c44 := Bool.eq_false_iff.mpr c44
                          subst c44
                          have H1 : (none) = some r := by rw [if_neg (show ¬ (false = true) by decide)] at H; exact H
                          clear H
                          have H := H1
                          clear H1
                          exact absurd H (by simp)
                      · replace c42 := Bool.eq_false_iff.mpr c42
                        subst c42
                        have H1 : (none) = some r := by rw [if_neg (show ¬ (false = true) by decide)] at H; exact H
                        clear H
                        have H := H1
                        clear H1
                        exact absurd H (by simp)
                    · replace c40 := Bool.eq_false_iff.mpr c40
                      subst c40
                      have H1 : (none) = some r := by rw [if_neg (show ¬ (false = true) by decide)] at H; exact H
                      clear H
                      have H := H1
                      clear H1
                      exact absurd H (by simp)
                  · replace c38 := Bool.eq_false_iff.mpr c38
                    subst c38
                    have H1 : (none) = some r := by rw [if_neg (show ¬ (false = true) by decide)] at H; exact H
                    clear H
                    have H := H1
                    clear H1
                    exact absurd H (by simp)
                · replace c36 := Bool.eq_false_iff.mpr c36
                  subst c36
                  have H1 : (none) = some r := by rw [if_neg (show ¬ (false = true) by decide)] at H; exact H
                  clear H
                  have H := H1
                  clear H1
                  exact absurd H (by simp)
  · replace c8 := Bool.eq_false_iff.mpr c8
    subst c8
    have H1 : ((selfstablaw15_awake.f k).bind fun t331 => (some t331)) = some r := by rw [if_neg (show ¬ (false = true) by decide)] at H; exact H
    clear H
    have H := H1
    clear H1
    replace H := Option.bind_eq_some_iff.mp H
    obtain ⟨t331, A470, H⟩ := H
    replace H : (some t331) = some r := H
    have A47 := Aside0.mk A470
    clear A470
    obtain rfl := Option.some.inj H
    go_enter Try.func9, Try.ntmps9
    go_wp2_with (first | ((with_reducible refine gate_dst (N := 6) rfl ?_); refine box_event ?hg (N := 6) ?hd (cs := #[.slice A0_0 l0_0.length c0_0, .slice A0_1 l0_1.length c0_1]) (t := 25) ?hr ?_; (case hd => rfl); (case hg => rfl); (case hr => first | (go_simp; done) | (go_simp; rfl)); intro gb329 hg w48 hbox hb; have n0_ := Aside0.mk (below_step (by repeat (first | (with_reducible first | exact HB.out | apply below_alloc | apply pw_below_drewN | apply below_drew1) | exact HB.out)) hb); have n1_ := Aside0.mk (hbox); have n2_ := Aside0.mk ((by rw [hg]; exact (below_size (by repeat (first | (with_reducible first | exact HB.out | apply below_alloc | apply pw_below_drewN | apply below_drew1) | exact HB.out))) : w.heap.size ≤ gb329)); have n3_ := Aside0.mk ((by rw [hg]; exact (below_size (by repeat (first | (with_reducible first | exact HB.out | apply below_alloc | apply pw_below_drewN | apply below_drew1) | exact HB.out))) : w.heap.size ≤ gb329)); clear HB; have HB := n0_; have BK329 := n1_; have GW329 := n2_; have GE329 := n3_; clear n0_ n1_ n2_ n3_; clear hb hbox hg; have hcz49_0 : w48.cell? ⟨gb329, 0, none⟩ = some (.slice A0_0 l0_0.length c0_0) := (blk_cell BK329.out 0).trans rfl; have hcz49_1 : w48.cell? ⟨gb329, 1, none⟩ = some (.slice A0_1 l0_1.length c0_1) := (blk_cell BK329.out 1).trans rfl; have hfz49_0 := blk_frozen BK329.out 0; have hfz49_1 := blk_frozen BK329.out 1) | ((with_reducible refine gate_callee (f := 17) rfl ?_); refine goesL_ (some 14) rfl rfl Try.func17 (by kernel_rfl) rfl #[.agg #[.slice A0_0 l0_0.length c0_0, .slice A0_1 l0_1.length c0_1]] rfl (by (try simp only [List.map_toArray, List.map_cons, List.map_nil]); first | done | rfl | (simp only [List.length_drop, List.length_take]; rfl)) ?_; (with_reducible refine (selfstablaw15_fair.calls k _ _ l0_0 _ _ l0_1 false _ ?side1 ?side2 ?side3 ?side4 A7.out).mono ?_); (case side1 => repeat (first | exact (Kd.C_below HR0_0.out HB.out) | (with_reducible refine Kd.C_alloc ?_ _) | (with_reducible refine Kd.C_drewN ?_ _) | (with_reducible refine Kd.C_drew ?_))); (case side2 => exact HC0_0.out); (case side3 => repeat (first | exact (Kd.C_below HR0_1.out HB.out) | (with_reducible refine Kd.C_alloc ?_ _) | (with_reducible refine Kd.C_drewN ?_ _) | (with_reducible refine Kd.C_drew ?_))); (case side4 => exact HC0_1.out); rintro e w50 ⟨rfl, hb⟩; refine ⟨_, rfl, ?_⟩; have n0_ := Aside0.mk (blk_below (g := gb329) (o := .cells #[.slice A0_0 l0_0.length c0_0, .slice A0_1 l0_1.length c0_1] 25 (0, 0)) (by (with_reducible repeat (first | refine blk_drewN ?_ _ | refine blk_drew ?_ | refine blk_alloc ?_ _)); exact BK329.out) hb); have n1_ := Aside0.mk (below_step (by repeat (first | (with_reducible first | exact HB.out | apply below_alloc | apply pw_below_drewN | apply below_drew1 | refine below_set ?_ GE329.out) | exact HB.out)) hb); clear BK329; clear HB; have BK329 := n0_; have HB := n1_; clear n0_ n1_; (try clear hb); (try clear hb2); (try clear hk); (try clear hi)) | ((with_reducible refine gate_callee (f := 11) rfl ?_); refine goesL_ (some 16) rfl rfl Try.func11 (by kernel_rfl) rfl #[] rfl (by (try simp only [List.map_toArray, List.map_cons, List.map_nil]); first | done | rfl | (simp only [List.length_drop, List.length_take]; rfl)) ?_; (with_reducible refine (selfstablaw15_awake.calls k  t331 _ A47.out).mono ?_); rintro e w51 ⟨rfl, hb⟩; refine ⟨_, rfl, ?_⟩; have n0_ := Aside0.mk (blk_below (g := gb329) (o := .cells #[.slice A0_0 l0_0.length c0_0, .slice A0_1 l0_1.length c0_1] 25 (0, 0)) (by (with_reducible repeat (first | refine blk_drewN ?_ _ | refine blk_drew ?_ | refine blk_alloc ?_ _)); exact BK329.out) hb); have n1_ := Aside0.mk (below_step (by repeat (first | (with_reducible first | exact HB.out | apply below_alloc | apply pw_below_drewN | apply below_drew1 | refine below_set ?_ GE329.out) | exact HB.out)) hb); clear BK329; clear HB; have BK329 := n0_; have HB := n1_; clear n0_ n1_; (try clear hb); (try clear hb2); (try clear hk); (try clear hi)))
    go_ret
    exact ⟨by first | rfl | (simp [errW_none, errW_some] <;> rfl) | (simp [*, errW_none, errW_some] <;> rfl), by repeat (first | (with_reducible first | exact HB.out | apply below_alloc | apply pw_below_drewN | apply below_drew1 | refine below_set ?_ GE329.out) | exact HB.out)⟩

end Go.Proofs.Ytmkpddhnnejfhaa.P
