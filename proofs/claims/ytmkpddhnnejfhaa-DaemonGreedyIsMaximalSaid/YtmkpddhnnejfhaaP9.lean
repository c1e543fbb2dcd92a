-- By a program of this session (wip/tools/myprint.py over the kit's printer). Not trusted: Lean checks it.
import Derived.Test.YtmkpddhnnejfhaaP0
import Derived.Test.YtmkpddhnnejfhaaP1
import Derived.Test.YtmkpddhnnejfhaaP4
import Derived.Test.YtmkpddhnnejfhaaGResolve
namespace Go.Proofs.Ytmkpddhnnejfhaa.P
open Go.RowKit Go.Proofs.YtmkpddhnnejfhaaW.PrintWords Go.Proofs.YtmkpddhnnejfhaaW.PrintLast Go.Proofs.YtmkpddhnnejfhaaW.PrintMore
attribute [local go_sem] max2_int min2_int max_two min_two max_three min_three max_four min_four   -- for this text's walks alone
set_option linter.unusedVariables false
set_option linter.unusedSimpArgs false

/-! ### selfstablaw15_DaemonGreedyIsMaximal: function 4 -/
def selfstablaw15_DaemonGreedyIsMaximal.l0 : Nat → Int → Int → Int → Int → List Int → List (List (S58)) → Option (Bool)
  | 0, _, _, _, _, _, _ => none
  | k + 1, x1, x2, x7, x8, x259000, x259001 => if x8 < (x259001.length : Int) then ((selfstabref01_Has.f (Go.bits .and .u32 x2 x1) x8).bind fun t264 => (if t264 = true then ((selfstabref01_Has.f x7 x8).bind fun t265 => (if t265 = true then (selfstablaw15_DaemonGreedyIsMaximal.l0 k x1 x2 x7 (wrap64 (x8 + 1)) x259000 x259001) else (if 0 ≤ (IntKind.u64.wrap (x8)) then ((selfstabref01_Independent.f k x259000 x259001 (Go.bits .or .u32 x7 (shl .u32 1 (IntKind.u64.wrap (x8))))).bind fun t266 => (if t266 = true then (none) else (selfstablaw15_DaemonGreedyIsMaximal.l0 k x1 x2 x7 (wrap64 (x8 + 1)) x259000 x259001))) else (none)))) else (selfstablaw15_DaemonGreedyIsMaximal.l0 k x1 x2 x7 (wrap64 (x8 + 1)) x259000 x259001))) else ((selfstablaw15_awake.f k).bind fun t263 => (if t263 = true then (if x1 = 0 then (some true) else (some (x7 != 0))) else (none)))
def selfstablaw15_DaemonGreedyIsMaximal.f (k : Nat) (l0_0 : List Int) (l0_1 : List (List (S58))) (a1 : Int) (a2 : Int) : Option (Bool) := (selfstablaw15_fair.f k l0_0 l0_1).bind fun t259 => (if t259 = true then ((selfstabref01_All.f k (l0_1.length : Int)).bind fun t261 => ((daemon_Resolve.f k l0_0 l0_1 2 (Go.bits .and .u32 a1 t261) a2).bind fun t262 => (selfstablaw15_DaemonGreedyIsMaximal.l0 k (Go.bits .and .u32 a1 t261) a2 t262 0 l0_0 l0_1))) else ((selfstablaw15_awake.f k).bind fun t260 => (some t260)))
theorem selfstablaw15_DaemonGreedyIsMaximal.mono_l : ∀ k, (∀ y0 y1 y2 y3 y4 y5, LeO (selfstablaw15_DaemonGreedyIsMaximal.l0 k y0 y1 y2 y3 y4 y5) (selfstablaw15_DaemonGreedyIsMaximal.l0 (k + 1) y0 y1 y2 y3 y4 y5))
  | 0 => fun _ _ _ _ _ _ r h => by simp [selfstablaw15_DaemonGreedyIsMaximal.l0] at h
  | k + 1 => by
    have ih0 := selfstablaw15_DaemonGreedyIsMaximal.mono_l k
    · intro y0 y1 y2 y3 y4 y5
      unfold selfstablaw15_DaemonGreedyIsMaximal.l0
      repeat' first
      | (with_reducible exact ih0 _ _ _ _ _ _)
      | (with_reducible exact daemon_Resolve.mono _ _ _ _ _ _)
      | (with_reducible exact selfstablaw15_awake.mono _)
      | (with_reducible exact selfstablaw15_fair.mono _ _ _)
      | (with_reducible exact selfstabref01_All.mono _ _)
      | (with_reducible exact selfstabref01_Independent.mono _ _ _ _)
      | (with_reducible exact LeO.refl _)
      | (with_reducible exact LeO.none _)
      | (with_reducible refine LeO.ite ?_ ?_)
      | (with_reducible refine LeO.bind ?_ (fun _ => ?_))
      | exact ih0 _ _ _ _ _ _
      | exact daemon_Resolve.mono _ _ _ _ _ _
      | exact selfstablaw15_awake.mono _
      | exact selfstablaw15_fair.mono _ _ _
      | exact selfstabref01_All.mono _ _
      | exact selfstabref01_Independent.mono _ _ _ _
      | exact LeO.none _
      | refine LeO.ite ?_ ?_
      | refine LeO.bind ?_ (fun _ => ?_)
theorem selfstablaw15_DaemonGreedyIsMaximal.mono : ∀ a0 a1 a2 a3 k, LeO (selfstablaw15_DaemonGreedyIsMaximal.f k a0 a1 a2 a3) (selfstablaw15_DaemonGreedyIsMaximal.f (k + 1) a0 a1 a2 a3) := by
  intro a0 a1 a2 a3 k
  have ih0 := selfstablaw15_DaemonGreedyIsMaximal.mono_l k
  unfold selfstablaw15_DaemonGreedyIsMaximal.f
  repeat' first
      | (with_reducible exact ih0 _ _ _ _ _ _)
      | (with_reducible exact daemon_Resolve.mono _ _ _ _ _ _)
      | (with_reducible exact selfstablaw15_awake.mono _)
      | (with_reducible exact selfstablaw15_fair.mono _ _ _)
      | (with_reducible exact selfstabref01_All.mono _ _)
      | (with_reducible exact selfstabref01_Independent.mono _ _ _ _)
      | (with_reducible exact LeO.refl _)
      | (with_reducible exact LeO.none _)
      | (with_reducible refine LeO.ite ?_ ?_)
      | (with_reducible refine LeO.bind ?_ (fun _ => ?_))
      | exact ih0 _ _ _ _ _ _
      | exact daemon_Resolve.mono _ _ _ _ _ _
      | exact selfstablaw15_awake.mono _
      | exact selfstablaw15_fair.mono _ _ _
      | exact selfstabref01_All.mono _ _
      | exact selfstabref01_Independent.mono _ _ _ _
      | exact LeO.none _
      | refine LeO.ite ?_ ?_
      | refine LeO.bind ?_ (fun _ => ?_)
set_option maxHeartbeats 8000000 in
set_option maxRecDepth 100000 in
theorem selfstablaw15_DaemonGreedyIsMaximal.calls (k : Nat) (A0_0 : Option Addr) (c0_0 : Nat) (l0_0 : List Int) (A0_1 : Option Addr) (c0_1 : Nat) (l0_1 : List (List (S58))) (a1 : Int) (a2 : Int) (r : Bool) (w : World) (hr0_0 : Kd.C (Kd.int .i64) w A0_0 l0_0.length l0_0) (hc0_0 : l0_0.length ≤ c0_0) (hr0_1 : Kd.C (Kd.slice 58 k58) w A0_1 l0_1.length l0_1) (hc0_1 : l0_1.length ≤ c0_1) (h : selfstablaw15_DaemonGreedyIsMaximal.f k l0_0 l0_1 a1 a2 = some r) :
    Calls Try.prog 4 #[.agg #[.slice A0_0 l0_0.length c0_0, .slice A0_1 l0_1.length c0_1], .int .u32 a1, .int .u32 a2] w fun e w' => e = .returned (.bool r) ∧ Below w.heap.size w w' := by
  have hu25 := Try.underlying25
  have HR0_0 := Aside0.mk hr0_0
  have HC0_0 := Aside0.mk hc0_0
  clear hr0_0 hc0_0
  have HR0_1 := Aside0.mk hr0_1
  have HC0_1 := Aside0.mk hc0_1
  clear hr0_1 hc0_1
  have HB := Aside0.mk (Below.refl w.heap.size w)
  have H : ((selfstablaw15_fair.f k l0_0 l0_1).bind fun t259 => (if t259 = true then ((selfstabref01_All.f k (l0_1.length : Int)).bind fun t261 => ((daemon_Resolve.f k l0_0 l0_1 2 (Go.bits .and .u32 a1 t261) a2).bind fun t262 => (selfstablaw15_DaemonGreedyIsMaximal.l0 k (Go.bits .and .u32 a1 t261) a2 t262 0 l0_0 l0_1))) else ((selfstablaw15_awake.f k).bind fun t260 => (some t260)))) = some r := h
  clear h
  replace H := Option.bind_eq_some_iff.mp H
  obtain ⟨t259, A40, H⟩ := H
  replace H : (if t259 = true then ((selfstabref01_All.f k (l0_1.length : Int)).bind fun t261 => ((daemon_Resolve.f k l0_0 l0_1 2 (Go.bits .and .u32 a1 t261) a2).bind fun t262 => (selfstablaw15_DaemonGreedyIsMaximal.l0 k (Go.bits .and .u32 a1 t261) a2 t262 0 l0_0 l0_1))) else ((selfstablaw15_awake.f k).bind fun t260 => (some t260))) = some r := H
  have A4 := Aside0.mk A40
  clear A40
  by_cases c5 : t259 = true
  · subst c5
    have H1 : ((selfstabref01_All.f k (l0_1.length : Int)).bind fun t261 => ((daemon_Resolve.f k l0_0 l0_1 2 (Go.bits .and .u32 a1 t261) a2).bind fun t262 => (selfstablaw15_DaemonGreedyIsMaximal.l0 k (Go.bits .and .u32 a1 t261) a2 t262 0 l0_0 l0_1))) = some r := by rw [if_pos rfl] at H; exact H
    clear H
    have H := H1
    clear H1
    replace H := Option.bind_eq_some_iff.mp H
    obtain ⟨t261, A60, H⟩ := H
    replace H : ((daemon_Resolve.f k l0_0 l0_1 2 (Go.bits .and .u32 a1 t261) a2).bind fun t262 => (selfstablaw15_DaemonGreedyIsMaximal.l0 k (Go.bits .and .u32 a1 t261) a2 t262 0 l0_0 l0_1)) = some r := H
    have A6 := Aside0.mk A60
    clear A60
    replace H := Option.bind_eq_some_iff.mp H
    obtain ⟨t262, A70, H⟩ := H
    replace H : (selfstablaw15_DaemonGreedyIsMaximal.l0 k (Go.bits .and .u32 a1 t261) a2 t262 0 l0_0 l0_1) = some r := H
    have A7 := Aside0.mk A70
    clear A70
    have H' := Aside0.mk H
    clear H
    go_enter Try.func4, Try.ntmps4
    go_wp2_with (first | ((with_reducible refine gate_dst (N := 3) rfl ?_); refine box_event ?hg (N := 3) ?hd (cs := #[.slice A0_0 l0_0.length c0_0, .slice A0_1 l0_1.length c0_1]) (t := 25) ?hr ?_; (case hd => rfl); (case hg => rfl); (case hr => first | (go_simp; done) | (go_simp; rfl)); intro gb258 hg w8 hbox hb; have n0_ := Aside0.mk (below_step (by repeat (first | (with_reducible first | exact HB.out | apply below_alloc | apply pw_below_drewN | apply below_drew1) | exact HB.out)) hb); have n1_ := Aside0.mk (hbox); have n2_ := Aside0.mk ((by rw [hg]; exact (below_size (by repeat (first | (with_reducible first | exact HB.out | apply below_alloc | apply pw_below_drewN | apply below_drew1) | exact HB.out))) : w.heap.size ≤ gb258)); have n3_ := Aside0.mk ((by rw [hg]; exact (below_size (by repeat (first | (with_reducible first | exact HB.out | apply below_alloc | apply pw_below_drewN | apply below_drew1) | exact HB.out))) : w.heap.size ≤ gb258)); clear HB; have HB := n0_; have BK258 := n1_; have GW258 := n2_; have GE258 := n3_; clear n0_ n1_ n2_ n3_; clear hb hbox hg; have hcz9_0 : w8.cell? ⟨gb258, 0, none⟩ = some (.slice A0_0 l0_0.length c0_0) := (blk_cell BK258.out 0).trans rfl; have hcz9_1 : w8.cell? ⟨gb258, 1, none⟩ = some (.slice A0_1 l0_1.length c0_1) := (blk_cell BK258.out 1).trans rfl; have hfz9_0 := blk_frozen BK258.out 0; have hfz9_1 := blk_frozen BK258.out 1) | ((with_reducible refine gate_callee (f := 17) rfl ?_); refine goesL_ (some 10) rfl rfl Try.func17 (by kernel_rfl) rfl #[.agg #[.slice A0_0 l0_0.length c0_0, .slice A0_1 l0_1.length c0_1]] rfl (by (try simp only [List.map_toArray, List.map_cons, List.map_nil]); first | done | rfl | (simp only [List.length_drop, List.length_take]; rfl)) ?_; (with_reducible refine (selfstablaw15_fair.calls k _ _ l0_0 _ _ l0_1 true _ ?side1 ?side2 ?side3 ?side4 A4.out).mono ?_); (case side1 => repeat (first | exact (Kd.C_below HR0_0.out HB.out) | (with_reducible refine Kd.C_alloc ?_ _) | (with_reducible refine Kd.C_drewN ?_ _) | (with_reducible refine Kd.C_drew ?_))); (case side2 => exact HC0_0.out); (case side3 => repeat (first | exact (Kd.C_below HR0_1.out HB.out) | (with_reducible refine Kd.C_alloc ?_ _) | (with_reducible refine Kd.C_drewN ?_ _) | (with_reducible refine Kd.C_drew ?_))); (case side4 => exact HC0_1.out); rintro e w10 ⟨rfl, hb⟩; refine ⟨_, rfl, ?_⟩; have n0_ := Aside0.mk (blk_below (g := gb258) (o := .cells #[.slice A0_0 l0_0.length c0_0, .slice A0_1 l0_1.length c0_1] 25 (0, 0)) (by (with_reducible repeat (first | refine blk_drewN ?_ _ | refine blk_drew ?_ | refine blk_alloc ?_ _)); exact BK258.out) hb); have n1_ := Aside0.mk (below_step (by repeat (first | (with_reducible first | exact HB.out | apply below_alloc | apply pw_below_drewN | apply below_drew1 | refine below_set ?_ GE258.out) | exact HB.out)) hb); clear BK258; clear HB; have BK258 := n0_; have HB := n1_; clear n0_ n1_; (try clear hb); (try clear hb2); (try clear hk); (try clear hi); have hcz11_0 : w10.cell? ⟨gb258, 0, none⟩ = some (.slice A0_0 l0_0.length c0_0) := (blk_cell BK258.out 0).trans rfl; have hcz11_1 : w10.cell? ⟨gb258, 1, none⟩ = some (.slice A0_1 l0_1.length c0_1) := (blk_cell BK258.out 1).trans rfl; have hfz11_0 := blk_frozen BK258.out 0; have hfz11_1 := blk_frozen BK258.out 1) | ((with_reducible refine gate_callee (f := 18) rfl ?_); refine goesL_ (some 17) rfl rfl Try.func18 (by kernel_rfl) rfl #[.int .i64 (l0_1.length : Int)] rfl (by (try simp only [List.map_toArray, List.map_cons, List.map_nil]); first | done | rfl | (simp only [List.length_drop, List.length_take]; rfl)) ?_; (with_reducible refine (selfstabref01_All.calls k (l0_1.length : Int) t261 _ A6.out).mono ?_); rintro e w' ⟨rfl, ⟨nd, rfl⟩⟩; refine ⟨_, rfl, ?_⟩) | ((with_reducible refine gate_callee (f := 15) rfl ?_); refine goesL_ (some 22) rfl rfl Try.func15 (by kernel_rfl) rfl #[.agg #[.slice A0_0 l0_0.length c0_0, .slice A0_1 l0_1.length c0_1], .int .i64 2, .int .u32 (Go.bits .and .u32 a1 t261), .int .u32 a2] rfl (by (try simp only [List.map_toArray, List.map_cons, List.map_nil]); first | done | rfl | (simp only [List.length_drop, List.length_take]; rfl)) ?_; (with_reducible refine (daemon_Resolve.calls k _ _ l0_0 _ _ l0_1 2 (Go.bits .and .u32 a1 t261) a2 t262 _ ?side1 ?side2 ?side3 ?side4 A7.out).mono ?_); (case side1 => repeat (first | exact (Kd.C_below HR0_0.out (by repeat (first | (with_reducible first | exact HB.out | apply below_alloc | apply pw_below_drewN | apply below_drew1 | refine below_set ?_ GE258.out) | exact HB.out))) | (with_reducible refine Kd.C_alloc ?_ _) | (with_reducible refine Kd.C_drewN ?_ _) | (with_reducible refine Kd.C_drew ?_))); (case side2 => exact HC0_0.out); (case side3 => repeat (first | exact (Kd.C_below HR0_1.out (by repeat (first | (with_reducible first | exact HB.out | apply below_alloc | apply pw_below_drewN | apply below_drew1 | refine below_set ?_ GE258.out) | exact HB.out))) | (with_reducible refine Kd.C_alloc ?_ _) | (with_reducible refine Kd.C_drewN ?_ _) | (with_reducible refine Kd.C_drew ?_))); (case side4 => exact HC0_1.out); rintro e w12 ⟨rfl, hb⟩; refine ⟨_, rfl, ?_⟩; have n0_ := Aside0.mk (blk_below (g := gb258) (o := .cells #[.slice A0_0 l0_0.length c0_0, .slice A0_1 l0_1.length c0_1] 25 (0, 0)) (by (with_reducible repeat (first | refine blk_drewN ?_ _ | refine blk_drew ?_ | refine blk_alloc ?_ _)); exact BK258.out) hb); have n1_ := Aside0.mk (below_step (by repeat (first | (with_reducible first | exact HB.out | apply below_alloc | apply pw_below_drewN | apply below_drew1 | refine below_set ?_ GE258.out) | exact HB.out)) hb); clear BK258; clear HB; have BK258 := n0_; have HB := n1_; clear n0_ n1_; (try clear hb); (try clear hb2); (try clear hk); (try clear hi)))
    go_loopg [8] k (fun kq v8 w' => ∃ (x8_1 : Int), v8 = .int .i64 x8_1 ∧ Aside0 (selfstablaw15_DaemonGreedyIsMaximal.l0 kq (Go.bits .and .u32 a1 t261) a2 t262 x8_1 l0_0 l0_1 = some r) ∧ Aside0 (kq ≤ k) ∧ Aside0 (w'.heap[gb258]? = some (.cells #[(.slice A0_0 l0_0.length c0_0), (.slice A0_1 l0_1.length c0_1)] 25 (0, 0))) ∧ Aside0 (Below w.heap.size w w'))
    case atStart => exact ⟨(0), (by first | rfl | (simp; done) | (simp [*]; done)), H', ⟨Nat.le_refl _⟩, ⟨by (with_reducible repeat (first | refine blk_drewN ?_ _ | refine blk_drew ?_ | refine blk_alloc ?_ _)); exact BK258.out⟩, ⟨by repeat (first | (with_reducible first | exact HB.out | apply below_alloc | apply pw_below_drewN | apply below_drew1 | refine below_set ?_ GE258.out) | exact HB.out)⟩⟩
    case round =>
      clear H'
      try clear c1
      try clear p2
      try clear c4
      try clear c5
      try clear hcz11_0
      try clear hcz11_1
      try clear hcz9_0
      try clear hcz9_1
      try clear hfz11_0
      try clear hfz11_1
      try clear hfz9_0
      try clear hfz9_1
      obtain ⟨x8_1, rfl, HA, HK1, BK258, HB⟩ := hrel
      cases gk with
      | zero => exact absurd HA.out (by simp [selfstablaw15_DaemonGreedyIsMaximal.l0])
      | succ k1 =>
        have H := HA.out
        clear HA
        simp only [selfstablaw15_DaemonGreedyIsMaximal.l0] at H
        by_cases c13 : x8_1 < (l0_1.length : Int)
        · rw [if_pos c13] at H
          have c13b0 : decide (x8_1 < (l0_1.length : Int)) = true := decide_eq_true c13
          clear c13
          replace H := Option.bind_eq_some_iff.mp H
          obtain ⟨t264, A140, H⟩ := H
          replace H : (if t264 = true then ((selfstabref01_Has.f t262 x8_1).bind fun t265 => (if t265 = true then (selfstablaw15_DaemonGreedyIsMaximal.l0 k1 (Go.bits .and .u32 a1 t261) a2 t262 (wrap64 (x8_1 + 1)) l0_0 l0_1) else (if 0 ≤ (IntKind.u64.wrap (x8_1)) then ((selfstabref01_Independent.f k1 l0_0 l0_1 (Go.bits .or .u32 t262 (shl .u32 1 (IntKind.u64.wrap (x8_1))))).bind fun t266 => (if t266 = true then (none) else (selfstablaw15_DaemonGreedyIsMaximal.l0 k1 (Go.bits .and .u32 a1 t261) a2 t262 (wrap64 (x8_1 + 1)) l0_0 l0_1))) else (none)))) else (selfstablaw15_DaemonGreedyIsMaximal.l0 k1 (Go.bits .and .u32 a1 t261) a2 t262 (wrap64 (x8_1 + 1)) l0_0 l0_1)) = some r := H
          have A14 := Aside0.mk A140
          clear A140
          by_cases c15 : t264 = true
          · subst c15
            have H1 : ((selfstabref01_Has.f t262 x8_1).bind fun t265 => (if t265 = true then (selfstablaw15_DaemonGreedyIsMaximal.l0 k1 (Go.bits .and .u32 a1 t261) a2 t262 (wrap64 (x8_1 + 1)) l0_0 l0_1) else (if 0 ≤ (IntKind.u64.wrap (x8_1)) then ((selfstabref01_Independent.f k1 l0_0 l0_1 (Go.bits .or .u32 t262 (shl .u32 1 (IntKind.u64.wrap (x8_1))))).bind fun t266 => (if t266 = true then (none) else (selfstablaw15_DaemonGreedyIsMaximal.l0 k1 (Go.bits .and .u32 a1 t261) a2 t262 (wrap64 (x8_1 + 1)) l0_0 l0_1))) else (none)))) = some r := by rw [if_pos rfl] at H; exact H
            clear H
            have H := H1
            clear H1
            replace H := Option.bind_eq_some_iff.mp H
            obtain ⟨t265, A160, H⟩ := H
            replace H : (if t265 = true then (selfstablaw15_DaemonGreedyIsMaximal.l0 k1 (Go.bits .and .u32 a1 t261) a2 t262 (wrap64 (x8_1 + 1)) l0_0 l0_1) else (if 0 ≤ (IntKind.u64.wrap (x8_1)) then ((selfstabref01_Independent.f k1 l0_0 l0_1 (Go.bits .or .u32 t262 (shl .u32 1 (IntKind.u64.wrap (x8_1))))).bind fun t266 => (if t266 = true then (none) else (selfstablaw15_DaemonGreedyIsMaximal.l0 k1 (Go.bits .and .u32 a1 t261) a2 t262 (wrap64 (x8_1 + 1)) l0_0 l0_1))) else (none))) = some r := H
            have A16 := Aside0.mk A160
            clear A160
            by_cases c17 : t265 = true
            · subst c17
              have H1 : (selfstablaw15_DaemonGreedyIsMaximal.l0 k1 (Go.bits .and .u32 a1 t261) a2 t262 (wrap64 (x8_1 + 1)) l0_0 l0_1) = some r := by rw [if_pos rfl] at H; exact H
              clear H
              have H := H1
              clear H1
              have H' := Aside0.mk H
              clear H
              have hcz18_0 : wr.cell? ⟨gb258, 0, none⟩ = some (.slice A0_0 l0_0.length c0_0) := (blk_cell BK258.out 0).trans rfl
              have hcz18_1 : wr.cell? ⟨gb258, 1, none⟩ = some (.slice A0_1 l0_1.length c0_1) := (blk_cell BK258.out 1).trans rfl
              have hfz18_0 := blk_frozen BK258.out 0
              have hfz18_1 := blk_frozen BK258.out 1
              go_wp2_with (first | ((with_reducible refine gate_callee (f := 19) rfl ?_); refine goesL_ (some 34) rfl rfl Try.func19 (by kernel_rfl) rfl #[.int .u32 (Go.bits .and .u32 a2 (Go.bits .and .u32 a1 t261)), .int .i64 x8_1] rfl (by (try simp only [List.map_toArray, List.map_cons, List.map_nil]); first | done | rfl | (simp only [List.length_drop, List.length_take]; rfl)) ?_; (with_reducible refine (selfstabref01_Has.calls (Go.bits .and .u32 a2 (Go.bits .and .u32 a1 t261)) x8_1 true _ A14.out).mono ?_); rintro e w' ⟨rfl, ⟨nd, rfl⟩⟩; refine ⟨_, rfl, ?_⟩) | (go_at_call 19; (with_reducible refine (selfstabref01_Has.calls t262 x8_1 true _ A16.out).mono ?_); rintro e w' ⟨rfl, ⟨nd, rfl⟩⟩))
              go_roundg k1
              case measure => have := HK1.out; omega
              case rel => exact ⟨(wrap64 (x8_1 + 1)), (by first | rfl | (simp; done) | (simp [*]; done)), H', ⟨by have := HK1.out; omega⟩, ⟨by (with_reducible repeat (first | refine blk_drewN ?_ _ | refine blk_drew ?_ | refine blk_alloc ?_ _)); exact BK258.out⟩, ⟨by repeat (first | (with_reducible first | exact HB.out | apply below_alloc | apply pw_below_drewN | apply below_drew1 | refine below_set ?_ GE258.out) | exact HB.out)⟩⟩
            · replace c17 := Bool.eq_false_iff.mpr c17
              subst c17
              have H1 : (if 0 ≤ (IntKind.u64.wrap (x8_1)) then ((selfstabref01_Independent.f k1 l0_0 l0_1 (Go.bits .or .u32 t262 (shl .u32 1 (IntKind.u64.wrap (x8_1))))).bind fun t266 => (if t266 = true then (none) else (selfstablaw15_DaemonGreedyIsMaximal.l0 k1 (Go.bits .and .u32 a1 t261) a2 t262 (wrap64 (x8_1 + 1)) l0_0 l0_1))) else (none)) = some r := by rw [if_neg (show ¬ (false = true) by decide)] at H; exact H
              clear H
              have H := H1
              clear H1
              obtain ⟨ji19, hji19⟩ : ∃ j_ : Int, (IntKind.u64.wrap (x8_1)) = j_ := ⟨_, rfl⟩
              replace H : (if 0 ≤ (ji19) then ((selfstabref01_Independent.f k1 l0_0 l0_1 (Go.bits .or .u32 t262 (shl .u32 1 (ji19)))).bind fun t266 => (if t266 = true then (none) else (selfstablaw15_DaemonGreedyIsMaximal.l0 k1 (Go.bits .and .u32 a1 t261) a2 t262 (wrap64 (x8_1 + 1)) l0_0 l0_1))) else (none)) = some r := by first | (rw [hji19] at H; exact H) | (simp only [hji19] at H ⊢; exact H)
              (try rw [hji19] at A14)
              (try rw [hji19] at A16)
              by_cases c20 : 0 ≤ (ji19)
              · rw [if_pos c20] at H
                have c20b0 := eq_true c20
                have c20b1 : decide (0 ≤ (ji19)) = true := decide_eq_true c20
                clear c20
                obtain ⟨ji21, hji21⟩ : ∃ j_ : Int, (shl .u32 1 (ji19)) = j_ := ⟨_, rfl⟩
                replace H : ((selfstabref01_Independent.f k1 l0_0 l0_1 (Go.bits .or .u32 t262 (ji21))).bind fun t266 => (if t266 = true then (none) else (selfstablaw15_DaemonGreedyIsMaximal.l0 k1 (Go.bits .and .u32 a1 t261) a2 t262 (wrap64 (x8_1 + 1)) l0_0 l0_1))) = some r := by first | (rw [hji21] at H; exact H) | (simp only [hji21] at H ⊢; exact H)
                (try rw [hji21] at A14)
                (try rw [hji21] at A16)
                have hji21_ : (IntKind.u32.wrap (1 * 2 ^ min (ji19).toNat 32)) = ji21 := hji21
                have hji21z : (ji19) ≤ 32 → (IntKind.u32.wrap (1 * 2 ^ (ji19).toNat)) = ji21 := shl_small hji21
                have hji21u : (IntKind.u32.wrap (2 ^ min (ji19).toNat 32)) = ji21 := by have h_ := hji21_; rw [Int.one_mul] at h_; exact h_
                have hji21v : (ji19) ≤ 32 → (IntKind.u32.wrap (2 ^ (ji19).toNat)) = ji21 := fun hle_ => by have h_ := hji21z hle_; rw [Int.one_mul] at h_; exact h_
                replace H := Option.bind_eq_some_iff.mp H
                obtain ⟨t266, A220, H⟩ := H
                replace H : (if t266 = true then (none) else (selfstablaw15_DaemonGreedyIsMaximal.l0 k1 (Go.bits .and .u32 a1 t261) a2 t262 (wrap64 (x8_1 + 1)) l0_0 l0_1)) = some r := H
                have A22 := Aside0.mk A220
                clear A220
                by_cases c23 : t266 = true
                · subst c23
                  have H1 : (none) = some r := by rw [if_pos rfl] at H; exact H
                  clear H
                  have H := H1
                  clear H1
                  exact absurd H (by simp)
                · replace c23 := Bool.eq_false_iff.mpr c23
                  subst c23
                  have H1 : (selfstablaw15_DaemonGreedyIsMaximal.l0 k1 (Go.bits .and .u32 a1 t261) a2 t262 (wrap64 (x8_1 + 1)) l0_0 l0_1) = some r := by rw [if_neg (show ¬ (false = true) by decide)] at H; exact H
                  clear H
                  have H := H1
                  clear H1
                  have H' := Aside0.mk H
                  clear H
                  have hcz24_0 : wr.cell? ⟨gb258, 0, none⟩ = some (.slice A0_0 l0_0.length c0_0) := (blk_cell BK258.out 0).trans rfl
                  have hcz24_1 : wr.cell? ⟨gb258, 1, none⟩ = some (.slice A0_1 l0_1.length c0_1) := (blk_cell BK258.out 1).trans rfl
                  have hfz24_0 := blk_frozen BK258.out 0
                  have hfz24_1 := blk_frozen BK258.out 1
                  go_wp2_with (first | ((with_reducible refine gate_callee (f := 19) rfl ?_); refine goesL_ (some 34) rfl rfl Try.func19 (by kernel_rfl) rfl #[.int .u32 (Go.bits .and .u32 a2 (Go.bits .and .u32 a1 t261)), .int .i64 x8_1] rfl (by (try simp only [List.map_toArray, List.map_cons, List.map_nil]); first | done | rfl | (simp only [List.length_drop, List.length_take]; rfl)) ?_; (with_reducible refine (selfstabref01_Has.calls (Go.bits .and .u32 a2 (Go.bits .and .u32 a1 t261)) x8_1 true _ A14.out).mono ?_); rintro e w' ⟨rfl, ⟨nd, rfl⟩⟩; refine ⟨_, rfl, ?_⟩) | (go_at_call 19; (with_reducible refine (selfstabref01_Has.calls t262 x8_1 false _ A16.out).mono ?_); rintro e w' ⟨rfl, ⟨nd, rfl⟩⟩) | (go_at_call 20; (with_reducible refine (selfstabref01_Independent.calls k1 _ _ l0_0 _ _ l0_1 (Go.bits .or .u32 t262 (ji21)) false _ ?side1 ?side2 ?side3 ?side4 A22.out).mono ?_); (case side1 => repeat (first | exact (Kd.C_below HR0_0.out (by repeat (first | (with_reducible first | exact HB.out | apply below_alloc | apply pw_below_drewN | apply below_drew1 | refine below_set ?_ GE258.out) | exact HB.out))) | (with_reducible refine Kd.C_alloc ?_ _) | (with_reducible refine Kd.C_drewN ?_ _) | (with_reducible refine Kd.C_drew ?_))); (case side2 => exact HC0_0.out); (case side3 => repeat (first | exact (Kd.C_below HR0_1.out (by repeat (first | (with_reducible first | exact HB.out | apply below_alloc | apply pw_below_drewN | apply below_drew1 | refine below_set ?_ GE258.out) | exact HB.out))) | (with_reducible refine Kd.C_alloc ?_ _) | (with_reducible refine Kd.C_drewN ?_ _) | (with_reducible refine Kd.C_drew ?_))); (case side4 => exact HC0_1.out); rintro e w25 ⟨rfl, hb⟩; have n0_ := Aside0.mk (blk_below (g := gb258) (o := .cells #[.slice A0_0 l0_0.length c0_0, .slice A0_1 l0_1.length c0_1] 25 (0, 0)) (by (with_reducible repeat (first | refine blk_drewN ?_ _ | refine blk_drew ?_ | refine blk_alloc ?_ _)); exact BK258.out) hb); have n1_ := Aside0.mk (below_step (by repeat (first | (with_reducible first | exact HB.out | apply below_alloc | apply pw_below_drewN | apply below_drew1 | refine below_set ?_ GE258.out) | exact HB.out)) hb); clear BK258; clear HB; have BK258 := n0_; have HB := n1_; clear n0_ n1_; (try clear hb); (try clear hb2); (try clear hk); (try clear hi)))
                  go_roundg k1
                  case measure => have := HK1.out; omega
                  case rel => exact ⟨(wrap64 (x8_1 + 1)), (by first | rfl | (simp; done) | (simp [*]; done)), H', ⟨by have := HK1.out; omega⟩, ⟨by (with_reducible repeat (first | refine blk_drewN ?_ _ | refine blk_drew ?_ | refine blk_alloc ?_ _)); exact BK258.out⟩, ⟨by repeat (first | (with_reducible first | exact HB.out | apply below_alloc | apply pw_below_drewN | apply below_drew1 | refine below_set ?_ GE258.out) | exact HB.out)⟩⟩
              · rw [if_neg c20] at H
                exact absurd H (by simp)
          · replace c15 := Bool.eq_false_iff.mpr c15
            subst c15
            have H1 : (selfstablaw15_DaemonGreedyIsMaximal.l0 k1 (Go.bits .and .u32 a1 t261) a2 t262 (wrap64 (x8_1 + 1)) l0_0 l0_1) = some r := by rw [if_neg (show ¬ (false = true) by decide)] at H; exact H
            clear H
            have H := H1
            clear H1
            have H' := Aside0.mk H
            clear H
            have hcz26_0 : wr.cell? ⟨gb258, 0, none⟩ = some (.slice A0_0 l0_0.length c0_0) := (blk_cell BK258.out 0).trans rfl
            have hcz26_1 : wr.cell? ⟨gb258, 1, none⟩ = some (.slice A0_1 l0_1.length c0_1) := (blk_cell BK258.out 1).trans rfl
            have hfz26_0 := blk_frozen BK258.out 0
            have hfz26_1 := blk_frozen BK258.out 1
            go_wp2_with (first | ((with_reducible refine gate_callee (f := 19) rfl ?_); refine goesL_ (some 34) rfl rfl Try.func19 (by kernel_rfl) rfl #[.int .u32 (Go.bits .and .u32 a2 (Go.bits .and .u32 a1 t261)), .int .i64 x8_1] rfl (by (try simp only [List.map_toArray, List.map_cons, List.map_nil]); first | done | rfl | (simp only [List.length_drop, List.length_take]; rfl)) ?_; (with_reducible refine (selfstabref01_Has.calls (Go.bits .and .u32 a2 (Go.bits .and .u32 a1 t261)) x8_1 false _ A14.out).mono ?_); rintro e w' ⟨rfl, ⟨nd, rfl⟩⟩; refine ⟨_, rfl, ?_⟩))
            go_roundg k1
            case measure => have := HK1.out; omega
            case rel => exact ⟨(wrap64 (x8_1 + 1)), (by first | rfl | (simp; done) | (simp [*]; done)), H', ⟨by have := HK1.out; omega⟩, ⟨by (with_reducible repeat (first | refine blk_drewN ?_ _ | refine blk_drew ?_ | refine blk_alloc ?_ _)); exact BK258.out⟩, ⟨by repeat (first | (with_reducible first | exact HB.out | apply below_alloc | apply pw_below_drewN | apply below_drew1 | refine below_set ?_ GE258.out) | exact HB.out)⟩⟩
        · rw [if_neg c13] at H
          have c13b0 : decide (x8_1 < (l0_1.length : Int)) = false := decide_eq_false c13
          clear c13
          replace H := Option.bind_eq_some_iff.mp H
          obtain ⟨t263, A270, H⟩ := H
          replace H : (if t263 = true then (if (Go.bits .and .u32 a1 t261) = 0 then (some true) else (some (t262 != 0))) else (none)) = some r := H
          have A27 := Aside0.mk A270
          clear A270
          by_cases c28 : t263 = true
          · subst c28
            have H1 : (if (Go.bits .and .u32 a1 t261) = 0 then (some true) else (some (t262 != 0))) = some r := by rw [if_pos rfl] at H; exact H
            clear H
            have H := H1
            clear H1
            by_cases c29 : (Go.bits .and .u32 a1 t261) = 0
            · rw [if_pos c29] at H
              have c29b0 : ((Go.bits .and .u32 a1 t261) == 0) = true := beq_iff_eq.mpr c29
              have c29b1 : ((Go.bits .and .u32 a1 t261) != 0) = false := bne_eq_false_iff_eq.mpr c29
              clear c29
              obtain rfl := Option.some.inj H
              have hcz30_0 : wr.cell? ⟨gb258, 0, none⟩ = some (.slice A0_0 l0_0.length c0_0) := (blk_cell BK258.out 0).trans rfl
              have hcz30_1 : wr.cell? ⟨gb258, 1, none⟩ = some (.slice A0_1 l0_1.length c0_1) := (blk_cell BK258.out 1).trans rfl
              have hfz30_0 := blk_frozen BK258.out 0
              have hfz30_1 := blk_frozen BK258.out 1
              go_wp2_with (first | ((with_reducible refine gate_callee (f := 11) rfl ?_); refine goesL_ (some 50) rfl rfl Try.func11 (by kernel_rfl) rfl #[] rfl (by (try simp only [List.map_toArray, List.map_cons, List.map_nil]); first | done | rfl | (simp only [List.length_drop, List.length_take]; rfl)) ?_; (with_reducible refine (selfstablaw15_awake.calls k1  true _ A27.out).mono ?_); rintro e w31 ⟨rfl, hb⟩; refine ⟨_, rfl, ?_⟩; have n0_ := Aside0.mk (blk_below (g := gb258) (o := .cells #[.slice A0_0 l0_0.length c0_0, .slice A0_1 l0_1.length c0_1] 25 (0, 0)) (by (with_reducible repeat (first | refine blk_drewN ?_ _ | refine blk_drew ?_ | refine blk_alloc ?_ _)); exact BK258.out) hb); have n1_ := Aside0.mk (below_step (by repeat (first | (with_reducible first | exact HB.out | apply below_alloc | apply pw_below_drewN | apply below_drew1 | refine below_set ?_ GE258.out) | exact HB.out)) hb); clear BK258; clear HB; have BK258 := n0_; have HB := n1_; clear n0_ n1_; (try clear hb); (try clear hb2); (try clear hk); (try clear hi)))
              go_ret
              exact ⟨by first | rfl | (simp [errW_none, errW_some] <;> rfl) | (simp [*, errW_none, errW_some] <;> rfl), by repeat (first | (with_reducible first | exact HB.out | apply below_alloc | apply pw_below_drewN | apply below_drew1 | refine below_set ?_ GE258.out) | exact HB.out)⟩
            · rw [if_neg c29] at H
              have c29b0 : ((Go.bits .and .u32 a1 t261) == 0) = false := beq_eq_false_iff_ne.mpr c29
              have c29b1 : ((Go.bits .and .u32 a1 t261) != 0) = true := bne_iff_ne.mpr c29
              obtain rfl := Option.some.inj H
              have hcz32_0 : wr.cell? ⟨gb258, 0, none⟩ = some (.slice A0_0 l0_0.length c0_0) := (blk_cell BK258.out 0).trans rfl
              have hcz32_1 : wr.cell? ⟨gb258, 1, none⟩ = some (.slice A0_1 l0_1.length c0_1) := (blk_cell BK258.out 1).trans rfl
              have hfz32_0 := blk_frozen BK258.out 0
              have hfz32_1 := blk_frozen BK258.out 1
              go_wp2_with (first | ((with_reducible refine gate_callee (f := 11) rfl ?_); refine goesL_ (some 50) rfl rfl Try.func11 (by kernel_rfl) rfl #[] rfl (by (try simp only [List.map_toArray, List.map_cons, List.map_nil]); first | done | rfl | (simp only [List.length_drop, List.length_take]; rfl)) ?_; (with_reducible refine (selfstablaw15_awake.calls k1  true _ A27.out).mono ?_); rintro e w33 ⟨rfl, hb⟩; refine ⟨_, rfl, ?_⟩; have n0_ := Aside0.mk (blk_below (g := gb258) (o := .cells #[.slice A0_0 l0_0.length c0_0, .slice A0_1 l0_1.length c0_1] 25 (0, 0)) (by (with_reducible repeat (first | refine blk_drewN ?_ _ | refine blk_drew ?_ | refine blk_alloc ?_ _)); exact BK258.out) hb); have n1_ := Aside0.mk (below_step (by repeat (first | (with_reducible first | exact HB.out | apply below_alloc | apply pw_below_drewN | apply below_drew1 | refine below_set ?_ GE258.out) | exact HB.out)) hb); clear BK258; clear HB; have BK258 := n0_; have HB := n1_; clear n0_ n1_; (try clear hb); (try clear hb2); (try clear hk); (try clear hi)))
              go_ret
              exact ⟨by first | rfl | (simp [errW_none, errW_some] <;> rfl) | (simp [*, errW_none, errW_some] <;> rfl), by repeat (first | (with_reducible first | exact HB.out | apply below_alloc | apply pw_below_drewN | apply below_drew1 | refine below_set ?_ GE258.out) | exact HB.out)⟩
          · replace c28 := Bool.eq_false_iff.mpr c28
            subst c28
            have H1 : (none) = some r := by rw [if_neg (show ¬ (false = true) by decide)] at H; exact H
            clear H
            have H := H1
            clear H1
            exact absurd H (by simp)
  · replace c5 := Bool.eq_false_iff.mpr c5
    subst c5
    have H1 : ((selfstablaw15_awake.f k).bind fun t260 => (some t260)) = some r := by rw [if_neg (show ¬ (false = true) by decide)] at H; exact H
    clear H
    have H := H1
    clear H1
    replace H := Option.bind_eq_some_iff.mp H
    obtain ⟨t260, A340, H⟩ := H
    replace H : (some t260) = some r := H
    have A34 := Aside0.mk A340
    clear A340
    obtain rfl := Option.some.inj H
    go_enter Try.func4, Try.ntmps4
    go_wp2_with (first | ((with_reducible refine gate_dst (N := 3) rfl ?_); refine box_event ?hg (N := 3) ?hd (cs := #[.slice A0_0 l0_0.length c0_0, .slice A0_1 l0_1.length c0_1]) (t := 25) ?hr ?_; (case hd => rfl); (case hg => rfl); (case hr => first | (go_simp; done) | (go_simp; rfl)); intro gb258 hg w35 hbox hb; have n0_ := Aside0.mk (below_step (by repeat (first | (with_reducible first | exact HB.out | apply below_alloc | apply pw_below_drewN | apply below_drew1) | exact HB.out)) hb); have n1_ := Aside0.mk (hbox); have n2_ := Aside0.mk ((by rw [hg]; exact (below_size (by repeat (first | (with_reducible first | exact HB.out | apply below_alloc | apply pw_below_drewN | apply below_drew1) | exact HB.out))) : w.heap.size ≤ gb258)); have n3_ := Aside0.mk ((by rw [hg]; exact (below_size (by repeat (first | (with_reducible first | exact HB.out | apply below_alloc | apply pw_below_drewN | apply below_drew1) | exact HB.out))) : w.heap.size ≤ gb258)); clear HB; have HB := n0_; have BK258 := n1_; have GW258 := n2_; have GE258 := n3_; clear n0_ n1_ n2_ n3_; clear hb hbox hg; have hcz36_0 : w35.cell? ⟨gb258, 0, none⟩ = some (.slice A0_0 l0_0.length c0_0) := (blk_cell BK258.out 0).trans rfl; have hcz36_1 : w35.cell? ⟨gb258, 1, none⟩ = some (.slice A0_1 l0_1.length c0_1) := (blk_cell BK258.out 1).trans rfl; have hfz36_0 := blk_frozen BK258.out 0; have hfz36_1 := blk_frozen BK258.out 1) | ((with_reducible refine gate_callee (f := 17) rfl ?_); refine goesL_ (some 10) rfl rfl Try.func17 (by kernel_rfl) rfl #[.agg #[.slice A0_0 l0_0.length c0_0, .slice A0_1 l0_1.length c0_1]] rfl (by (try simp only [List.map_toArray, List.map_cons, List.map_nil]); first | done | rfl | (simp only [List.length_drop, List.length_take]; rfl)) ?_; (with_reducible refine (selfstablaw15_fair.calls k _ _ l0_0 _ _ l0_1 false _ ?side1 ?side2 ?side3 ?side4 A4.out).mono ?_); (case side1 => repeat (first | exact (Kd.C_below HR0_0.out HB.out) | (with_reducible refine Kd.C_alloc ?_ _) | (with_reducible refine Kd.C_drewN ?_ _) | (with_reducible refine Kd.C_drew ?_))); (case side2 => exact HC0_0.out); (case side3 => repeat (first | exact (Kd.C_below HR0_1.out HB.out) | (with_reducible refine Kd.C_alloc ?_ _) | (with_reducible refine Kd.C_drewN ?_ _) | (with_reducible refine Kd.C_drew ?_))); (case side4 => exact HC0_1.out); rintro e w37 ⟨rfl, hb⟩; refine ⟨_, rfl, ?_⟩; have n0_ := Aside0.mk (blk_below (g := gb258) (o := .cells #[.slice A0_0 l0_0.length c0_0, .slice A0_1 l0_1.length c0_1] 25 (0, 0)) (by (with_reducible repeat (first | refine blk_drewN ?_ _ | refine blk_drew ?_ | refine blk_alloc ?_ _)); exact BK258.out) hb); have n1_ := Aside0.mk (below_step (by repeat (first | (with_reducible first | exact HB.out | apply below_alloc | apply pw_below_drewN | apply below_drew1 | refine below_set ?_ GE258.out) | exact HB.out)) hb); clear BK258; clear HB; have BK258 := n0_; have HB := n1_; clear n0_ n1_; (try clear hb); (try clear hb2); (try clear hk); (try clear hi)) | ((with_reducible refine gate_callee (f := 11) rfl ?_); refine goesL_ (some 12) rfl rfl Try.func11 (by kernel_rfl) rfl #[] rfl (by (try simp only [List.map_toArray, List.map_cons, List.map_nil]); first | done | rfl | (simp only [List.length_drop, List.length_take]; rfl)) ?_; (with_reducible refine (selfstablaw15_awake.calls k  t260 _ A34.out).mono ?_); rintro e w38 ⟨rfl, hb⟩; refine ⟨_, rfl, ?_⟩; have n0_ := Aside0.mk (blk_below (g := gb258) (o := .cells #[.slice A0_0 l0_0.length c0_0, .slice A0_1 l0_1.length c0_1] 25 (0, 0)) (by (with_reducible repeat (first | refine blk_drewN ?_ _ | refine blk_drew ?_ | refine blk_alloc ?_ _)); exact BK258.out) hb); have n1_ := Aside0.mk (below_step (by repeat (first | (with_reducible first | exact HB.out | apply below_alloc | apply pw_below_drewN | apply below_drew1 | refine below_set ?_ GE258.out) | exact HB.out)) hb); clear BK258; clear HB; have BK258 := n0_; have HB := n1_; clear n0_ n1_; (try clear hb); (try clear hb2); (try clear hk); (try clear hi)))
    go_ret
    exact ⟨by first | rfl | (simp [errW_none, errW_some] <;> rfl) | (simp [*, errW_none, errW_some] <;> rfl), by repeat (first | (with_reducible first | exact HB.out | apply below_alloc | apply pw_below_drewN | apply below_drew1 | refine below_set ?_ GE258.out) | exact HB.out)⟩

end Go.Proofs.Ytmkpddhnnejfhaa.P
