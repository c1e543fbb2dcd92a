-- By a program of this session (wip/tools/myprint.py over the kit's printer). Not trusted: Lean checks it.
import Derived.Test.YtbpolpagcaacoaaP0
import Derived.Test.YtbpolpagcaacoaaGValid
namespace Go.Proofs.Ytbpolpagcaacoaa.P
open Go.RowKit Go.Proofs.YtbpolpagcaacoaaW.PrintWords Go.Proofs.YtbpolpagcaacoaaW.PrintLast Go.Proofs.YtbpolpagcaacoaaW.PrintMore
attribute [local go_sem] max2_int min2_int max_two min_two max_three min_three max_four min_four   -- for this text's walks alone
set_option linter.unusedVariables false
set_option linter.unusedSimpArgs false

/-! ### graph_node: function 40 -/
def graph_node.f (l0_0 : List Int) (l0_1 : List (List (S32))) (a1 : Int) : Option (Bool) := if a1 ≥ 0 then (if a1 < (l0_1.length : Int) then ((graph_Valid.f l0_0 l0_1).bind fun t134 => (some t134)) else (some false)) else (some false)
set_option maxHeartbeats 8000000 in
set_option maxRecDepth 100000 in
theorem graph_node.calls (A0_0 : Option Addr) (c0_0 : Nat) (l0_0 : List Int) (A0_1 : Option Addr) (c0_1 : Nat) (l0_1 : List (List (S32))) (a1 : Int) (r : Bool) (w : World) (hr0_0 : Kd.C (Kd.int .i64) w A0_0 l0_0.length l0_0) (hc0_0 : l0_0.length ≤ c0_0) (hr0_1 : Kd.C (Kd.slice 32 k32) w A0_1 l0_1.length l0_1) (hc0_1 : l0_1.length ≤ c0_1) (h : graph_node.f l0_0 l0_1 a1 = some r) :
    Calls Try.prog 40 #[.agg #[.slice A0_0 l0_0.length c0_0, .slice A0_1 l0_1.length c0_1], .int .i64 a1] w fun e w' => e = .returned (.bool r) ∧ Below w.heap.size w w' := by
  have hu25 := Try.underlying25
  have HR0_0 := Aside0.mk hr0_0
  have HC0_0 := Aside0.mk hc0_0
  clear hr0_0 hc0_0
  have HR0_1 := Aside0.mk hr0_1
  have HC0_1 := Aside0.mk hc0_1
  clear hr0_1 hc0_1
  have HB := Aside0.mk (Below.refl w.heap.size w)
  have H : (if a1 ≥ 0 then (if a1 < (l0_1.length : Int) then ((graph_Valid.f l0_0 l0_1).bind fun t134 => (some t134)) else (some false)) else (some false)) = some r := h
  clear h
  by_cases c3 : a1 ≥ 0
  · rw [if_pos c3] at H
    have c3b0 : decide (0 ≤ a1) = true := decide_eq_true c3
    clear c3
    by_cases c4 : a1 < (l0_1.length : Int)
    · rw [if_pos c4] at H
      have c4b0 : decide (a1 < (l0_1.length : Int)) = true := decide_eq_true c4
      clear c4
      replace H := Option.bind_eq_some_iff.mp H
      obtain ⟨t134, A50, H⟩ := H
      replace H : (some t134) = some r := H
      have A5 := Aside0.mk A50
      clear A50
      obtain rfl := Option.some.inj H
      go_enter Try.func40, Try.ntmps40
      go_wp2_with (first | ((with_reducible refine gate_dst (N := 2) rfl ?_); (try (refine gate_guard (by rfl) ?_; dsimp only)); refine box_event ?hg (N := 2) ?hd (cs := #[.slice A0_0 l0_0.length c0_0, .slice A0_1 l0_1.length c0_1]) (t := 25) ?hr ?_; (case hd => rfl); (case hg => rfl); (case hr => first | (go_simp; done) | (go_simp; rfl)); intro gb133 hg w6 hbox hb; have n0_ := Aside0.mk (below_step (by repeat (first | (with_reducible first | exact HB.out | apply below_alloc | apply pw_below_drewN | apply below_drew1) | exact HB.out)) hb); have n1_ := Aside0.mk (hbox); have n2_ := Aside0.mk ((by rw [hg]; exact (below_size (by repeat (first | (with_reducible first | exact HB.out | apply below_alloc | apply pw_below_drewN | apply below_drew1) | exact HB.out))) : w.heap.size ≤ gb133)); have n3_ := Aside0.mk ((by rw [hg]; exact (below_size (by repeat (first | (with_reducible first | exact HB.out | apply below_alloc | apply pw_below_drewN | apply below_drew1) | exact HB.out))) : w.heap.size ≤ gb133)); clear HB; have HB := n0_; have BK133 := n1_; have GW133 := n2_; have GE133 := n3_; clear n0_ n1_ n2_ n3_; clear hb hbox hg; have hcz7_0 : w6.cell? ⟨gb133, 0, none⟩ = some (.slice A0_0 l0_0.length c0_0) := (blk_cell BK133.out 0).trans rfl; have hcz7_1 : w6.cell? ⟨gb133, 1, none⟩ = some (.slice A0_1 l0_1.length c0_1) := (blk_cell BK133.out 1).trans rfl; have hfz7_0 := blk_frozen BK133.out 0; have hfz7_1 := blk_frozen BK133.out 1) | (go_at_call 33; (with_reducible refine (graph_Valid.calls _ _ l0_0 _ _ l0_1 t134 _ ?side1 ?side2 ?side3 ?side4 A5.out).mono ?_); (case side1 => repeat (first | exact (Kd.C_below HR0_0.out HB.out) | (with_reducible refine Kd.C_alloc ?_ _) | (with_reducible refine Kd.C_drewN ?_ _) | (with_reducible refine Kd.C_drew ?_))); (case side2 => exact HC0_0.out); (case side3 => repeat (first | exact (Kd.C_below HR0_1.out HB.out) | (with_reducible refine Kd.C_alloc ?_ _) | (with_reducible refine Kd.C_drewN ?_ _) | (with_reducible refine Kd.C_drew ?_))); (case side4 => exact HC0_1.out); rintro e w8 ⟨rfl, hb⟩; have n0_ := Aside0.mk (blk_below (g := gb133) (o := .cells #[.slice A0_0 l0_0.length c0_0, .slice A0_1 l0_1.length c0_1] 25 (0, 0)) (by (with_reducible repeat (first | refine blk_drewN ?_ _ | refine blk_drew ?_ | refine blk_alloc ?_ _)); exact BK133.out) hb); have n1_ := Aside0.mk (below_step (by repeat (first | (with_reducible first | exact HB.out | apply below_alloc | apply pw_below_drewN | apply below_drew1 | refine below_set ?_ GE133.out) | exact HB.out)) hb); clear BK133; clear HB; have BK133 := n0_; have HB := n1_; clear n0_ n1_; (try clear hb); (try clear hb2); (try clear hk); (try clear hi)))
      go_ret
      exact ⟨by first | rfl | (simp [errW_none, errW_some] <;> rfl) | (simp [*, errW_none, errW_some] <;> rfl), by repeat (first | (with_reducible first | exact HB.out | apply below_alloc | apply pw_below_drewN | apply below_drew1 | refine below_set ?_ GE133.out) | exact HB.out)⟩
    · rw [if_neg c4] at H
      have c4b0 : decide (a1 < (l0_1.length : Int)) = false := decide_eq_false c4
      clear c4
      obtain rfl := Option.some.inj H
      go_enter Try.func40, Try.ntmps40
      go_wp2_with (first | ((with_reducible refine gate_dst (N := 2) rfl ?_); (try (refine gate_guard (by rfl) ?_; dsimp only)); refine box_event ?hg (N := 2) ?hd (cs := #[.slice A0_0 l0_0.length c0_0, .slice A0_1 l0_1.length c0_1]) (t := 25) ?hr ?_; (case hd => rfl); (case hg => rfl); (case hr => first | (go_simp; done) | (go_simp; rfl)); intro gb133 hg w9 hbox hb; have n0_ := Aside0.mk (below_step (by repeat (first | (with_reducible first | exact HB.out | apply below_alloc | apply pw_below_drewN | apply below_drew1) | exact HB.out)) hb); have n1_ := Aside0.mk (hbox); have n2_ := Aside0.mk ((by rw [hg]; exact (below_size (by repeat (first | (with_reducible first | exact HB.out | apply below_alloc | apply pw_below_drewN | apply below_drew1) | exact HB.out))) : w.heap.size ≤ gb133)); have n3_ := Aside0.mk ((by rw [hg]; exact (below_size (by repeat (first | (with_reducible first | exact HB.out | apply below_alloc | apply pw_below_drewN | apply below_drew1) | exact HB.out))) : w.heap.size ≤ gb133)); clear HB; have HB := n0_; have BK133 := n1_; have GW133 := n2_; have GE133 := n3_; clear n0_ n1_ n2_ n3_; clear hb hbox hg; have hcz10_0 : w9.cell? ⟨gb133, 0, none⟩ = some (.slice A0_0 l0_0.length c0_0) := (blk_cell BK133.out 0).trans rfl; have hcz10_1 : w9.cell? ⟨gb133, 1, none⟩ = some (.slice A0_1 l0_1.length c0_1) := (blk_cell BK133.out 1).trans rfl; have hfz10_0 := blk_frozen BK133.out 0; have hfz10_1 := blk_frozen BK133.out 1))
      go_ret
      exact ⟨by first | rfl | (simp [errW_none, errW_some] <;> rfl) | (simp [*, errW_none, errW_some] <;> rfl), by repeat (first | (with_reducible first | exact HB.out | apply below_alloc | apply pw_below_drewN | apply below_drew1 | refine below_set ?_ GE133.out) | exact HB.out)⟩
  · rw [if_neg c3] at H
    have c3b0 : decide (0 ≤ a1) = false := decide_eq_false c3
    clear c3
    obtain rfl := Option.some.inj H
    go_enter Try.func40, Try.ntmps40
    go_wp2_with (first | ((with_reducible refine gate_dst (N := 2) rfl ?_); (try (refine gate_guard (by rfl) ?_; dsimp only)); refine box_event ?hg (N := 2) ?hd (cs := #[.slice A0_0 l0_0.length c0_0, .slice A0_1 l0_1.length c0_1]) (t := 25) ?hr ?_; (case hd => rfl); (case hg => rfl); (case hr => first | (go_simp; done) | (go_simp; rfl)); intro gb133 hg w11 hbox hb; have n0_ := Aside0.mk (below_step (by repeat (first | (with_reducible first | exact HB.out | apply below_alloc | apply pw_below_drewN | apply below_drew1) | exact HB.out)) hb); have n1_ := Aside0.mk (hbox); have n2_ := Aside0.mk ((by rw [hg]; exact (below_size (by repeat (first | (with_reducible first | exact HB.out | apply below_alloc | apply pw_below_drewN | apply below_drew1) | exact HB.out))) : w.heap.size ≤ gb133)); have n3_ := Aside0.mk ((by rw [hg]; exact (below_size (by repeat (first | (with_reducible first | exact HB.out | apply below_alloc | apply pw_below_drewN | apply below_drew1) | exact HB.out))) : w.heap.size ≤ gb133)); clear HB; have HB := n0_; have BK133 := n1_; have GW133 := n2_; have GE133 := n3_; clear n0_ n1_ n2_ n3_; clear hb hbox hg))
    go_ret
    exact ⟨by first | rfl | (simp [errW_none, errW_some] <;> rfl) | (simp [*, errW_none, errW_some] <;> rfl), by repeat (first | (with_reducible first | exact HB.out | apply below_alloc | apply pw_below_drewN | apply below_drew1 | refine below_set ?_ GE133.out) | exact HB.out)⟩

/-! ### graph_around: function 41 -/
def graph_around.l0 : Nat → Int → List (S32) → Int → Int → Option (Int)
  | 0, _, _, _, _ => none
  | k + 1, x5, x12, x13, x14 => if x14 < x13 then (if 0 ≤ x14 then (if x14 < (x12.length : Int) then (if 0 ≤ ((rd_T32 x12 x14).f0) then (graph_around.l0 k (Go.bits .or .u32 x5 (shl .u32 1 ((rd_T32 x12 x14).f0))) x12 x13 (wrap64 (x14 + 1))) else (none)) else (none)) else (none)) else (some x5)
def graph_around.f (k : Nat) (l0_0 : List Int) (l0_1 : List (List (S32))) (a1 : Int) : Option (Int) := if 0 ≤ a1 then (if a1 < (l0_1.length : Int) then (graph_around.l0 k 0 (rd_L2 l0_1 a1) ((rd_L2 l0_1 a1).length : Int) 0) else (none)) else (none)
theorem graph_around.mono_l : ∀ k, (∀ y0 y1 y2 y3, LeO (graph_around.l0 k y0 y1 y2 y3) (graph_around.l0 (k + 1) y0 y1 y2 y3))
  | 0 => fun _ _ _ _ r h => by simp [graph_around.l0] at h
  | k + 1 => by
    have ih0 := graph_around.mono_l k
    · intro y0 y1 y2 y3
      unfold graph_around.l0
      repeat' first
      | (with_reducible exact ih0 _ _ _ _)
      | (with_reducible exact LeO.refl _)
      | (with_reducible exact LeO.none _)
      | (with_reducible refine LeO.ite ?_ ?_)
      | (with_reducible refine LeO.bind ?_ (fun _ => ?_))
      | exact ih0 _ _ _ _
      | exact LeO.none _
      | refine LeO.ite ?_ ?_
      | refine LeO.bind ?_ (fun _ => ?_)
theorem graph_around.mono : ∀ a0 a1 a2 k, LeO (graph_around.f k a0 a1 a2) (graph_around.f (k + 1) a0 a1 a2) := by
  intro a0 a1 a2 k
  have ih0 := graph_around.mono_l k
  unfold graph_around.f
  repeat' first
      | (with_reducible exact ih0 _ _ _ _)
      | (with_reducible exact LeO.refl _)
      | (with_reducible exact LeO.none _)
      | (with_reducible refine LeO.ite ?_ ?_)
      | (with_reducible refine LeO.bind ?_ (fun _ => ?_))
      | exact ih0 _ _ _ _
      | exact LeO.none _
      | refine LeO.ite ?_ ?_
      | refine LeO.bind ?_ (fun _ => ?_)
set_option maxHeartbeats 8000000 in
set_option maxRecDepth 100000 in
theorem graph_around.calls (k : Nat) (A0_0 : Option Addr) (c0_0 : Nat) (l0_0 : List Int) (A0_1 : Option Addr) (c0_1 : Nat) (l0_1 : List (List (S32))) (a1 : Int) (r : Int) (w : World) (hr0_0 : Kd.C (Kd.int .i64) w A0_0 l0_0.length l0_0) (hc0_0 : l0_0.length ≤ c0_0) (hr0_1 : Kd.C (Kd.slice 32 k32) w A0_1 l0_1.length l0_1) (hc0_1 : l0_1.length ≤ c0_1) (h : graph_around.f k l0_0 l0_1 a1 = some r) :
    Calls Try.prog 41 #[.agg #[.slice A0_0 l0_0.length c0_0, .slice A0_1 l0_1.length c0_1], .int .i64 a1] w fun e w' => e = .returned (.int .u32 r) ∧ Below w.heap.size w w' := by
  have hu25 := Try.underlying25
  have hu32 := Try.underlying32
  have HR0_0 := Aside0.mk hr0_0
  have HC0_0 := Aside0.mk hc0_0
  clear hr0_0 hc0_0
  have HR0_1 := Aside0.mk hr0_1
  have HC0_1 := Aside0.mk hc0_1
  clear hr0_1 hc0_1
  have HB := Aside0.mk (Below.refl w.heap.size w)
  have H : (if 0 ≤ a1 then (if a1 < (l0_1.length : Int) then (graph_around.l0 k 0 (rd_L2 l0_1 a1) ((rd_L2 l0_1 a1).length : Int) 0) else (none)) else (none)) = some r := h
  clear h
  by_cases c3 : 0 ≤ a1
  · rw [if_pos c3] at H
    have c3b0 : decide (0 ≤ a1) = true := decide_eq_true c3
    clear c3
    by_cases c4 : a1 < (l0_1.length : Int)
    · rw [if_pos c4] at H
      have c4b0 : decide (a1 < (l0_1.length : Int)) = true := decide_eq_true c4
      clear c4
      have H' := Aside0.mk H
      clear H
      go_enter Try.func41, Try.ntmps41
      go_wp2_with (first | ((with_reducible refine gate_dst (N := 2) rfl ?_); refine box_event ?hg (N := 2) ?hd (cs := #[.slice A0_0 l0_0.length c0_0, .slice A0_1 l0_1.length c0_1]) (t := 25) ?hr ?_; (case hd => rfl); (case hg => rfl); (case hr => first | (go_simp; done) | (go_simp; rfl)); intro gb135 hg w5 hbox hb; have n0_ := Aside0.mk (below_step (by repeat (first | (with_reducible first | exact HB.out | apply below_alloc | apply pw_below_drewN | apply below_drew1) | exact HB.out)) hb); have n1_ := Aside0.mk (hbox); have n2_ := Aside0.mk ((by rw [hg]; exact (below_size (by repeat (first | (with_reducible first | exact HB.out | apply below_alloc | apply pw_below_drewN | apply below_drew1) | exact HB.out))) : w.heap.size ≤ gb135)); have n3_ := Aside0.mk ((by rw [hg]; exact (below_size (by repeat (first | (with_reducible first | exact HB.out | apply below_alloc | apply pw_below_drewN | apply below_drew1) | exact HB.out))) : w.heap.size ≤ gb135)); clear HB; have HB := n0_; have BK135 := n1_; have GW135 := n2_; have GE135 := n3_; clear n0_ n1_ n2_ n3_; clear hb hbox hg; have hcz6_0 : w5.cell? ⟨gb135, 0, none⟩ = some (.slice A0_0 l0_0.length c0_0) := (blk_cell BK135.out 0).trans rfl; have hcz6_1 : w5.cell? ⟨gb135, 1, none⟩ = some (.slice A0_1 l0_1.length c0_1) := (blk_cell BK135.out 1).trans rfl; have hfz6_0 := blk_frozen BK135.out 0; have hfz6_1 := blk_frozen BK135.out 1; have p136 : 0 ≤ (a1 : Int) := of_decide_eq_true (by first | (with_reducible assumption) | assumption); have q136 : a1 < (l0_1.length : Int) := of_decide_eq_true (by first | (with_reducible assumption) | assumption); obtain ⟨ad136, A136_0, c136_0, e136, hx136_0, hl136_0, hi136_0⟩ := at_L2 HR0_1.out a1 p136 q136; cases e136; replace hx136_0 := (HB.out.cell (World.block_lt_of_cell? w _ hx136_0)).trans hx136_0; have HR136_0 := Aside0.mk hi136_0; have HC136_0 := Aside0.mk hl136_0; clear hi136_0 hl136_0; replace p136 := eq_true p136; replace q136 := eq_true q136))
      go_loopg [5, 14] k (fun kq v5 v14 w' => ∃ (x5_1 : Int) (x14_1 : Int), v5 = .int .u32 x5_1 ∧ v14 = .int .i64 x14_1 ∧ Aside0 (graph_around.l0 kq x5_1 (rd_L2 l0_1 a1) ((rd_L2 l0_1 a1).length : Int) x14_1 = some r) ∧ Aside0 (kq ≤ k) ∧ Aside0 (w'.heap[gb135]? = some (.cells #[(.slice A0_0 l0_0.length c0_0), (.slice (some ad136) l0_1.length c0_1)] 25 (0, 0))) ∧ Aside0 (Below w.heap.size w w'))
      case atStart => exact ⟨(0), (0), (by first | rfl | (simp; done) | (simp [*]; done)), (by first | rfl | (simp; done) | (simp [*]; done)), H', ⟨Nat.le_refl _⟩, ⟨by (with_reducible repeat (first | refine blk_drewN ?_ _ | refine blk_drew ?_ | refine blk_alloc ?_ _)); exact BK135.out⟩, ⟨by repeat (first | (with_reducible first | exact HB.out | apply below_alloc | apply pw_below_drewN | apply below_drew1 | refine below_set ?_ GE135.out) | exact HB.out)⟩⟩
      case round =>
        clear H'
        try clear c1
        try clear p1
        try clear q1
        try clear hx1
        try clear p2
        try clear c3
        try clear c3b0
        try clear c4
        try clear c4b0
        try clear hcz6_0
        try clear hcz6_1
        try clear hfz6_0
        try clear hfz6_1
        try clear hx136_0
        try clear p136
        try clear q136
        obtain ⟨x5_1, x14_1, rfl, rfl, HA, HK1, BK135, HB⟩ := hrel
        cases gk with
        | zero => exact absurd HA.out (by simp [graph_around.l0])
        | succ k1 =>
          have H := HA.out
          clear HA
          simp only [graph_around.l0] at H
          by_cases c7 : x14_1 < ((rd_L2 l0_1 a1).length : Int)
          · rw [if_pos c7] at H
            have c7b0 : decide (x14_1 < ((rd_L2 l0_1 a1).length : Int)) = true := decide_eq_true c7
            clear c7
            by_cases c8 : 0 ≤ x14_1
            · rw [if_pos c8] at H
              have c8b0 : decide (0 ≤ x14_1) = true := decide_eq_true c8
              clear c8
              by_cases c9 : x14_1 < ((rd_L2 l0_1 a1).length : Int)
              · rw [if_pos c9] at H
                have c9b0 : decide (x14_1 < ((rd_L2 l0_1 a1).length : Int)) = true := decide_eq_true c9
                clear c9
                by_cases c10 : 0 ≤ ((rd_T32 (rd_L2 l0_1 a1) x14_1).f0)
                · rw [if_pos c10] at H
                  have c10b0 := eq_true c10
                  have c10b1 : decide (0 ≤ ((rd_T32 (rd_L2 l0_1 a1) x14_1).f0)) = true := decide_eq_true c10
                  clear c10
                  obtain ⟨ji11, hji11⟩ : ∃ j_ : Int, (shl .u32 1 ((rd_T32 (rd_L2 l0_1 a1) x14_1).f0)) = j_ := ⟨_, rfl⟩
                  replace H : (graph_around.l0 k1 (Go.bits .or .u32 x5_1 (ji11)) (rd_L2 l0_1 a1) ((rd_L2 l0_1 a1).length : Int) (wrap64 (x14_1 + 1))) = some r := by first | (rw [hji11] at H; exact H) | (simp only [hji11] at H ⊢; exact H)
                  have hji11_ : (IntKind.u32.wrap (1 * 2 ^ min ((rd_T32 (rd_L2 l0_1 a1) x14_1).f0).toNat 32)) = ji11 := hji11
                  have hji11z : ((rd_T32 (rd_L2 l0_1 a1) x14_1).f0) ≤ 32 → (IntKind.u32.wrap (1 * 2 ^ ((rd_T32 (rd_L2 l0_1 a1) x14_1).f0).toNat)) = ji11 := shl_small hji11
                  have hji11u : (IntKind.u32.wrap (2 ^ min ((rd_T32 (rd_L2 l0_1 a1) x14_1).f0).toNat 32)) = ji11 := by have h_ := hji11_; rw [Int.one_mul] at h_; exact h_
                  have hji11v : ((rd_T32 (rd_L2 l0_1 a1) x14_1).f0) ≤ 32 → (IntKind.u32.wrap (2 ^ ((rd_T32 (rd_L2 l0_1 a1) x14_1).f0).toNat)) = ji11 := fun hle_ => by have h_ := hji11z hle_; rw [Int.one_mul] at h_; exact h_
                  have H' := Aside0.mk H
                  clear H
                  have p137 : 0 ≤ (x14_1 : Int) := of_decide_eq_true (by first | (with_reducible assumption) | assumption)
                  have q137 : x14_1 < ((rd_L2 l0_1 a1).length : Int) := of_decide_eq_true (by first | (with_reducible assumption) | assumption)
                  obtain ⟨ad137, e137, hx137_0, hx137_1⟩ := at_T32 HR136_0.out x14_1 p137 q137
                  cases e137
                  replace hx137_0 := (HB.out.cell (World.block_lt_of_cell? w _ hx137_0)).trans hx137_0
                  replace hx137_1 := (HB.out.cell (World.block_lt_of_cell? w _ hx137_1)).trans hx137_1
                  replace p137 := eq_true p137
                  replace q137 := eq_true q137
                  go_wp2_with (first | ((with_reducible refine gate_dst (N := 7) rfl ?_); refine box_event ?hg (N := 7) ?hd (cs := #[.int .i64 0, .int .i64 0]) (t := 32) ?hr ?_; (case hd => rfl); (case hg => rfl); (case hr => first | (go_simp; done) | (go_simp; rfl)); intro gb138 hg w12 hbox hb; have n0_ := Aside0.mk (blk_below (g := gb135) (o := .cells #[.slice A0_0 l0_0.length c0_0, .slice (some ad136) l0_1.length c0_1] 25 (0, 0)) (by (with_reducible repeat (first | refine blk_drewN ?_ _ | refine blk_drew ?_ | refine blk_alloc ?_ _)); exact BK135.out) hb); have n1_ := Aside0.mk (below_step (by repeat (first | (with_reducible first | exact HB.out | apply below_alloc | apply pw_below_drewN | apply below_drew1 | refine below_set ?_ GE135.out) | exact HB.out)) hb); have n2_ := Aside0.mk (hbox); have n3_ := Aside0.mk ((by rw [hg]; exact (below_size (by repeat (first | (with_reducible first | exact HB.out | apply below_alloc | apply pw_below_drewN | apply below_drew1 | refine below_set ?_ GE135.out) | exact HB.out))) : w.heap.size ≤ gb138)); have n4_ := Aside0.mk ((by rw [hg]; exact (below_size (by repeat (first | (with_reducible first | exact HB.out | apply below_alloc | apply pw_below_drewN | apply below_drew1 | refine below_set ?_ GE135.out) | exact HB.out))) : w.heap.size ≤ gb138)); have n5_ := Aside0.mk ((by rw [hg]; exact Nat.ne_of_lt (blk_lt (g := gb135) (o := .cells #[.slice A0_0 l0_0.length c0_0, .slice (some ad136) l0_1.length c0_1] 25 (0, 0)) (by (with_reducible repeat (first | refine blk_drewN ?_ _ | refine blk_drew ?_ | refine blk_alloc ?_ _)); exact BK135.out)) : gb135 ≠ gb138)); have n6_ := Aside0.mk ((by rw [hg]; exact Nat.ne_of_gt (blk_lt (g := gb135) (o := .cells #[.slice A0_0 l0_0.length c0_0, .slice (some ad136) l0_1.length c0_1] 25 (0, 0)) (by (with_reducible repeat (first | refine blk_drewN ?_ _ | refine blk_drew ?_ | refine blk_alloc ?_ _)); exact BK135.out)) : gb138 ≠ gb135)); clear BK135; clear HB; have BK135 := n0_; have HB := n1_; have BK138 := n2_; have GW138 := n3_; have GE138 := n4_; have NB135_138 := n5_; have NB138_135 := n6_; clear n0_ n1_ n2_ n3_ n4_ n5_ n6_; clear hb hbox hg; have hnb13 := NB138_135.out; have hnc13 := NB135_138.out; have hcz14_0 : w12.cell? ⟨gb138, 0, none⟩ = some (.int .i64 0) := (blk_cell BK138.out 0).trans rfl; have hcz14_1 : w12.cell? ⟨gb138, 1, none⟩ = some (.int .i64 0) := (blk_cell BK138.out 1).trans rfl; have hfz14_0 := blk_frozen BK138.out 0; have hfz14_1 := blk_frozen BK138.out 1))
                  go_roundg k1
                  case measure => have := HK1.out; omega
                  case rel => exact ⟨(Go.bits .or .u32 x5_1 (ji11)), (wrap64 (x14_1 + 1)), (by first | rfl | (simp; done) | (simp only [← hji11] <;> (first | rfl | simp)) | (simp [*]; done)), (by first | rfl | (simp; done) | (simp [*]; done)), H', ⟨by have := HK1.out; omega⟩, ⟨by (with_reducible repeat (first | refine blk_drewN ?_ _ | refine blk_drew ?_ | refine blk_alloc ?_ _)); refine blk_far ?_ NB135_138.out _; (with_reducible repeat (first | refine blk_drewN ?_ _ | refine blk_drew ?_ | refine blk_alloc ?_ _)); refine blk_far ?_ NB135_138.out _; (with_reducible repeat (first | refine blk_drewN ?_ _ | refine blk_drew ?_ | refine blk_alloc ?_ _)); exact BK135.out⟩, ⟨by repeat (first | (with_reducible first | exact HB.out | apply below_alloc | apply pw_below_drewN | apply below_drew1 | refine below_set ?_ GE135.out | refine below_set ?_ GE138.out) | exact HB.out)⟩⟩
                · rw [if_neg c10] at H
                  exact absurd H (by simp)
              · rw [if_neg c9] at H
                exact absurd H (by simp)
            · rw [if_neg c8] at H
              exact absurd H (by simp)
          · rw [if_neg c7] at H
            have c7b0 : decide (x14_1 < ((rd_L2 l0_1 a1).length : Int)) = false := decide_eq_false c7
            clear c7
            obtain rfl := Option.some.inj H
            go_wp2
            go_ret
            exact ⟨by first | rfl | (simp [errW_none, errW_some] <;> rfl) | (simp [*, errW_none, errW_some] <;> rfl), by repeat (first | (with_reducible first | exact HB.out | apply below_alloc | apply pw_below_drewN | apply below_drew1 | refine below_set ?_ GE135.out) | exact HB.out)⟩
    · rw [if_neg c4] at H
      exact absurd H (by simp)
  · rw [if_neg c3] at H
    exact absurd H (by simp)

/-! ### graph_Distances: function 14 -/
mutual
def graph_Distances.l0 : Nat → Int → List Int → Int → Int → List Int → List (List (S32)) → Option (List Int)
  | 0, _, _, _, _, _, _ => none
  | k + 1, x1, x5, x21, x22, x140000, x140001 => if x22 < x21 then (if 0 ≤ x22 then (if x22 < (x5.length : Int) then (graph_Distances.l0 k x1 (x5.set (x22 : Int).toNat (-1)) x21 (wrap64 (x22 + 1)) x140000 x140001) else (none)) else (none)) else (if 0 ≤ x1 then (graph_Distances.l1 k x5 0 0 (shl .u32 1 x1) x140000 x140001) else (none))
def graph_Distances.l1 : Nat → List Int → Int → Int → Int → List Int → List (List (S32)) → Option (List Int)
  | 0, _, _, _, _, _, _ => none
  | k + 1, x5, x7, x8, x9, x140000, x140001 => if x9 = 0 then (some x5) else (graph_Distances.l2 k x5 (Go.bits .or .u32 x7 x9) x8 x9 0 (x5.length : Int) 0 x140000 x140001)
def graph_Distances.l2 : Nat → List Int → Int → Int → Int → Int → Int → Int → List Int → List (List (S32)) → Option (List Int)
  | 0, _, _, _, _, _, _, _, _, _ => none
  | k + 1, x5, x7, x8, x9, x10, x39, x40, x140000, x140001 => if x40 < x39 then (if 0 ≤ x40 then (if (Go.bits .and .u32 (shr .u32 x9 x40) 1) = 1 then (if x40 < (x5.length : Int) then ((graph_around.f k x140000 x140001 x40).bind fun t146 => (graph_Distances.l2 k (x5.set (x40 : Int).toNat x8) x7 x8 x9 (Go.bits .or .u32 x10 t146) x39 (wrap64 (x40 + 1)) x140000 x140001)) else (none)) else (graph_Distances.l2 k x5 x7 x8 x9 x10 x39 (wrap64 (x40 + 1)) x140000 x140001)) else (none)) else (graph_Distances.l1 k x5 x7 (wrap64 (x8 + 1)) (Go.bits .andNot .u32 x10 x7) x140000 x140001)
end
def graph_Distances.f (k : Nat) (l0_0 : List Int) (l0_1 : List (List (S32))) (a1 : Int) : Option (List Int) := (graph_node.f l0_0 l0_1 a1).bind fun t140 => (if t140 = true then (if 0 ≤ (l0_1.length : Int) then (if ((l0_1.length : Int) : Int).toNat ≤ 35184372088832 then ((some (List.replicate ((l0_1.length : Int) : Int).toNat 0 : List Int)).bind fun y141 => (graph_Distances.l0 k a1 y141 (y141.length : Int) 0 l0_0 l0_1)) else (none)) else (none)) else (some ([] : List Int)))
theorem graph_Distances.mono_l : ∀ k, (∀ y0 y1 y2 y3 y4 y5, LeO (graph_Distances.l0 k y0 y1 y2 y3 y4 y5) (graph_Distances.l0 (k + 1) y0 y1 y2 y3 y4 y5)) ∧ (∀ y0 y1 y2 y3 y4 y5, LeO (graph_Distances.l1 k y0 y1 y2 y3 y4 y5) (graph_Distances.l1 (k + 1) y0 y1 y2 y3 y4 y5)) ∧ (∀ y0 y1 y2 y3 y4 y5 y6 y7 y8, LeO (graph_Distances.l2 k y0 y1 y2 y3 y4 y5 y6 y7 y8) (graph_Distances.l2 (k + 1) y0 y1 y2 y3 y4 y5 y6 y7 y8))
  | 0 => ⟨fun _ _ _ _ _ _ r h => by simp [graph_Distances.l0] at h, fun _ _ _ _ _ _ r h => by simp [graph_Distances.l1] at h, fun _ _ _ _ _ _ _ _ _ r h => by simp [graph_Distances.l2] at h⟩
  | k + 1 => by
    obtain ⟨ih0, ih1, ih2⟩ := graph_Distances.mono_l k
    refine ⟨?_, ?_, ?_⟩
    · intro y0 y1 y2 y3 y4 y5
      unfold graph_Distances.l0
      repeat' first
      | (with_reducible exact ih0 _ _ _ _ _ _)
      | (with_reducible exact ih1 _ _ _ _ _ _)
      | (with_reducible exact ih2 _ _ _ _ _ _ _ _ _)
      | (with_reducible exact graph_around.mono _ _ _ _)
      | (with_reducible exact LeO.refl _)
      | (with_reducible exact LeO.none _)
      | (with_reducible refine LeO.ite ?_ ?_)
      | (with_reducible refine LeO.bind ?_ (fun _ => ?_))
      | exact ih0 _ _ _ _ _ _
      | exact ih1 _ _ _ _ _ _
      | exact ih2 _ _ _ _ _ _ _ _ _
      | exact graph_around.mono _ _ _ _
      | exact LeO.none _
      | refine LeO.ite ?_ ?_
      | refine LeO.bind ?_ (fun _ => ?_)
    · intro y0 y1 y2 y3 y4 y5
      unfold graph_Distances.l1
      repeat' first
      | (with_reducible exact ih0 _ _ _ _ _ _)
      | (with_reducible exact ih1 _ _ _ _ _ _)
      | (with_reducible exact ih2 _ _ _ _ _ _ _ _ _)
      | (with_reducible exact graph_around.mono _ _ _ _)
      | (with_reducible exact LeO.refl _)
      | (with_reducible exact LeO.none _)
      | (with_reducible refine LeO.ite ?_ ?_)
      | (with_reducible refine LeO.bind ?_ (fun _ => ?_))
      | exact ih0 _ _ _ _ _ _
      | exact ih1 _ _ _ _ _ _
      | exact ih2 _ _ _ _ _ _ _ _ _
      | exact graph_around.mono _ _ _ _
      | exact LeO.none _
      | refine LeO.ite ?_ ?_
      | refine LeO.bind ?_ (fun _ => ?_)
    · intro y0 y1 y2 y3 y4 y5 y6 y7 y8
      unfold graph_Distances.l2
      repeat' first
      | (with_reducible exact ih0 _ _ _ _ _ _)
      | (with_reducible exact ih1 _ _ _ _ _ _)
      | (with_reducible exact ih2 _ _ _ _ _ _ _ _ _)
      | (with_reducible exact graph_around.mono _ _ _ _)
      | (with_reducible exact LeO.refl _)
      | (with_reducible exact LeO.none _)
      | (with_reducible refine LeO.ite ?_ ?_)
      | (with_reducible refine LeO.bind ?_ (fun _ => ?_))
      | exact ih0 _ _ _ _ _ _
      | exact ih1 _ _ _ _ _ _
      | exact ih2 _ _ _ _ _ _ _ _ _
      | exact graph_around.mono _ _ _ _
      | exact LeO.none _
      | refine LeO.ite ?_ ?_
      | refine LeO.bind ?_ (fun _ => ?_)
theorem graph_Distances.mono : ∀ a0 a1 a2 k, LeO (graph_Distances.f k a0 a1 a2) (graph_Distances.f (k + 1) a0 a1 a2) := by
  intro a0 a1 a2 k
  obtain ⟨ih0, ih1, ih2⟩ := graph_Distances.mono_l k
  unfold graph_Distances.f
  repeat' first
      | (with_reducible exact ih0 _ _ _ _ _ _)
      | (with_reducible exact ih1 _ _ _ _ _ _)
      | (with_reducible exact ih2 _ _ _ _ _ _ _ _ _)
      | (with_reducible exact graph_around.mono _ _ _ _)
      | (with_reducible exact LeO.refl _)
      | (with_reducible exact LeO.none _)
      | (with_reducible refine LeO.ite ?_ ?_)
      | (with_reducible refine LeO.bind ?_ (fun _ => ?_))
      | exact ih0 _ _ _ _ _ _
      | exact ih1 _ _ _ _ _ _
      | exact ih2 _ _ _ _ _ _ _ _ _
      | exact graph_around.mono _ _ _ _
      | exact LeO.none _
      | refine LeO.ite ?_ ?_
      | refine LeO.bind ?_ (fun _ => ?_)
set_option maxHeartbeats 8000000 in
set_option maxRecDepth 100000 in
theorem graph_Distances.calls (k : Nat) (A0_0 : Option Addr) (c0_0 : Nat) (l0_0 : List Int) (A0_1 : Option Addr) (c0_1 : Nat) (l0_1 : List (List (S32))) (a1 : Int) (r : List Int) (w : World) (hr0_0 : Kd.C (Kd.int .i64) w A0_0 l0_0.length l0_0) (hc0_0 : l0_0.length ≤ c0_0) (hr0_1 : Kd.C (Kd.slice 32 k32) w A0_1 l0_1.length l0_1) (hc0_1 : l0_1.length ≤ c0_1) (h : graph_Distances.f k l0_0 l0_1 a1 = some r) :
    Calls Try.prog 14 #[.agg #[.slice A0_0 l0_0.length c0_0, .slice A0_1 l0_1.length c0_1], .int .i64 a1] w fun e w' => ∃ v0_ : Value, e = .returned (v0_) ∧ Kd.R (Kd.int .i64) 3 w' w.heap.size (fun _ => True) v0_ r ∧ Below w.heap.size w w' := by
  have hu25 := Try.underlying25
  have HR0_0 := Aside0.mk hr0_0
  have HC0_0 := Aside0.mk hc0_0
  clear hr0_0 hc0_0
  have HR0_1 := Aside0.mk hr0_1
  have HC0_1 := Aside0.mk hc0_1
  clear hr0_1 hc0_1
  have HB := Aside0.mk (Below.refl w.heap.size w)
  have H : ((graph_node.f l0_0 l0_1 a1).bind fun t140 => (if t140 = true then (if 0 ≤ (l0_1.length : Int) then (if ((l0_1.length : Int) : Int).toNat ≤ 35184372088832 then ((some (List.replicate ((l0_1.length : Int) : Int).toNat 0 : List Int)).bind fun y141 => (graph_Distances.l0 k a1 y141 (y141.length : Int) 0 l0_0 l0_1)) else (none)) else (none)) else (some ([] : List Int)))) = some r := h
  clear h
  replace H := Option.bind_eq_some_iff.mp H
  obtain ⟨t140, A30, H⟩ := H
  replace H : (if t140 = true then (if 0 ≤ (l0_1.length : Int) then (if ((l0_1.length : Int) : Int).toNat ≤ 35184372088832 then ((some (List.replicate ((l0_1.length : Int) : Int).toNat 0 : List Int)).bind fun y141 => (graph_Distances.l0 k a1 y141 (y141.length : Int) 0 l0_0 l0_1)) else (none)) else (none)) else (some ([] : List Int))) = some r := H
  have A3 := Aside0.mk A30
  clear A30
  by_cases c4 : t140 = true
  · subst c4
    have H1 : (if 0 ≤ (l0_1.length : Int) then (if ((l0_1.length : Int) : Int).toNat ≤ 35184372088832 then ((some (List.replicate ((l0_1.length : Int) : Int).toNat 0 : List Int)).bind fun y141 => (graph_Distances.l0 k a1 y141 (y141.length : Int) 0 l0_0 l0_1)) else (none)) else (none)) = some r := by rw [if_pos rfl] at H; exact H
    clear H
    have H := H1
    clear H1
    by_cases c5 : 0 ≤ (l0_1.length : Int)
    · rw [if_pos c5] at H
      have c5b0 := eq_true c5
      have c5b1 : decide (0 ≤ (l0_1.length : Int)) = true := decide_eq_true c5
      clear c5
      by_cases c6 : ((l0_1.length : Int) : Int).toNat ≤ 35184372088832
      · rw [if_pos c6] at H
        have c6b0 := eq_true c6
        have c6b1 : decide (((l0_1.length : Int) : Int).toNat ≤ 35184372088832) = true := decide_eq_true c6
        clear c6
        obtain ⟨y141, hy141⟩ : ∃ y_ : List Int, y_ = (List.replicate ((l0_1.length : Int) : Int).toNat 0) := ⟨_, rfl⟩
        replace H : (graph_Distances.l0 k a1 y141 (y141.length : Int) 0 l0_0 l0_1) = some r := by first | (rw [hy141]; with_reducible exact H) | (have H2_ := (Option.bind_some _ _).symm.trans H; rw [hy141]; with_reducible exact H2_) | (have H2_ := (Option.bind_some _ _).symm.trans H; with_reducible exact H2_) | with_reducible exact H | (rw [hy141]; exact H) | exact H
        have Ny141 := Aside0.mk hy141
        clear hy141
        have H' := Aside0.mk H
        clear H
        go_enter Try.func14, Try.ntmps14
        go_wp2_with (first | ((with_reducible refine gate_dst (N := 2) rfl ?_); refine box_event ?hg (N := 2) ?hd (cs := #[.slice A0_0 l0_0.length c0_0, .slice A0_1 l0_1.length c0_1]) (t := 25) ?hr ?_; (case hd => rfl); (case hg => rfl); (case hr => first | (go_simp; done) | (go_simp; rfl)); intro gb139 hg w7 hbox hb; have n0_ := Aside0.mk (below_step (by repeat (first | (with_reducible first | exact HB.out | apply below_alloc | apply pw_below_drewN | apply below_drew1) | exact HB.out)) hb); have n1_ := Aside0.mk (hbox); have n2_ := Aside0.mk ((by rw [hg]; exact (below_size (by repeat (first | (with_reducible first | exact HB.out | apply below_alloc | apply pw_below_drewN | apply below_drew1) | exact HB.out))) : w.heap.size ≤ gb139)); have n3_ := Aside0.mk ((by rw [hg]; exact (below_size (by repeat (first | (with_reducible first | exact HB.out | apply below_alloc | apply pw_below_drewN | apply below_drew1) | exact HB.out))) : w.heap.size ≤ gb139)); clear HB; have HB := n0_; have BK139 := n1_; have GW139 := n2_; have GE139 := n3_; clear n0_ n1_ n2_ n3_; clear hb hbox hg; have hcz8_0 : w7.cell? ⟨gb139, 0, none⟩ = some (.slice A0_0 l0_0.length c0_0) := (blk_cell BK139.out 0).trans rfl; have hcz8_1 : w7.cell? ⟨gb139, 1, none⟩ = some (.slice A0_1 l0_1.length c0_1) := (blk_cell BK139.out 1).trans rfl; have hfz8_0 := blk_frozen BK139.out 0; have hfz8_1 := blk_frozen BK139.out 1) | (go_at_call 40; (with_reducible refine (graph_node.calls _ _ l0_0 _ _ l0_1 a1 true _ ?side1 ?side2 ?side3 ?side4 A3.out).mono ?_); (case side1 => repeat (first | exact (Kd.C_below HR0_0.out HB.out) | (with_reducible refine Kd.C_alloc ?_ _) | (with_reducible refine Kd.C_drewN ?_ _) | (with_reducible refine Kd.C_drew ?_))); (case side2 => exact HC0_0.out); (case side3 => repeat (first | exact (Kd.C_below HR0_1.out HB.out) | (with_reducible refine Kd.C_alloc ?_ _) | (with_reducible refine Kd.C_drewN ?_ _) | (with_reducible refine Kd.C_drew ?_))); (case side4 => exact HC0_1.out); rintro e w9 ⟨rfl, hb⟩; have n0_ := Aside0.mk (blk_below (g := gb139) (o := .cells #[.slice A0_0 l0_0.length c0_0, .slice A0_1 l0_1.length c0_1] 25 (0, 0)) (by (with_reducible repeat (first | refine blk_drewN ?_ _ | refine blk_drew ?_ | refine blk_alloc ?_ _)); exact BK139.out) hb); have n1_ := Aside0.mk (below_step (by repeat (first | (with_reducible first | exact HB.out | apply below_alloc | apply pw_below_drewN | apply below_drew1 | refine below_set ?_ GE139.out) | exact HB.out)) hb); clear BK139; clear HB; have BK139 := n0_; have HB := n1_; clear n0_ n1_; (try clear hb); (try clear hb2); (try clear hk); (try clear hi); have hcz10_0 : w9.cell? ⟨gb139, 0, none⟩ = some (.slice A0_0 l0_0.length c0_0) := (blk_cell BK139.out 0).trans rfl; have hcz10_1 : w9.cell? ⟨gb139, 1, none⟩ = some (.slice A0_1 l0_1.length c0_1) := (blk_cell BK139.out 1).trans rfl; have hfz10_0 := blk_frozen BK139.out 0; have hfz10_1 := blk_frozen BK139.out 1) | ((with_reducible refine gate_dst (N := 19) rfl ?_); refine Kd.R_make (Kd.int .i64) _ 3 rfl (N := 19) rfl 22 _ _ rfl (l0_1.length : Int) rfl rfl Try.underlying22 (.int .i64 0) 8 info3 rfl (by decide) (by omega) 0 (ok := fun _ => True) (okp := fun _ => True) rfl (fun _ hk => hk) trivial (of_decide_eq_true (by first | (with_reducible assumption) | assumption)) (Nat.le_trans (Nat.mul_le_mul_right _ (of_decide_eq_true (by first | (with_reducible assumption) | assumption) : (l0_1.length : Int).toNat ≤ 35184372088832)) (by omega)) (Below.refl _ _) (Nat.le_refl _) ?_; intro v142 w11 ho12 hb hg_ hnew_; clear hg_ hnew_; (first | rw [← Ny141.out] at ho12 | (simp only [Int.reduceToNat] at ho12; rw [← Ny141.out] at ho12)); have n0_ := Aside0.mk (Kd.R_lower ho12 (below_size (by repeat (first | (with_reducible first | exact HB.out | apply below_alloc | apply pw_below_drewN | apply below_drew1 | refine below_set ?_ GE139.out) | exact HB.out)))); have n1_ := Aside0.mk (blk_below (g := gb139) (o := .cells #[.slice A0_0 l0_0.length c0_0, .slice A0_1 l0_1.length c0_1] 25 (0, 0)) (by (with_reducible repeat (first | refine blk_drewN ?_ _ | refine blk_drew ?_ | refine blk_alloc ?_ _)); exact BK139.out) hb); have n2_ := Aside0.mk (below_step (by repeat (first | (with_reducible first | exact HB.out | apply below_alloc | apply pw_below_drewN | apply below_drew1 | refine below_set ?_ GE139.out) | exact HB.out)) hb); clear BK139; clear HB; have HO143 := n0_; have BK139 := n1_; have HB := n2_; clear n0_ n1_ n2_; clear hb ho12; obtain ⟨Ao13, co13, eo13⟩ := Kd.R_slice HO143.out; subst eo13))
        repeat (go_quiet (first | ((with_reducible refine gate_dst (N := 2) rfl ?_); refine box_event ?hg (N := 2) ?hd (cs := #[.slice A0_0 l0_0.length c0_0, .slice A0_1 l0_1.length c0_1]) (t := 25) ?hr ?_; (case hd => rfl); (case hg => rfl); (case hr => first | (go_simp; done) | (go_simp; rfl)); intro gb139 hg w7 hbox hb; have n0_ := Aside0.mk (below_step (by repeat (first | (with_reducible first | exact HB.out | apply below_alloc | apply pw_below_drewN | apply below_drew1) | exact HB.out)) hb); have n1_ := Aside0.mk (hbox); have n2_ := Aside0.mk ((by rw [hg]; exact (below_size (by repeat (first | (with_reducible first | exact HB.out | apply below_alloc | apply pw_below_drewN | apply below_drew1) | exact HB.out))) : w.heap.size ≤ gb139)); have n3_ := Aside0.mk ((by rw [hg]; exact (below_size (by repeat (first | (with_reducible first | exact HB.out | apply below_alloc | apply pw_below_drewN | apply below_drew1) | exact HB.out))) : w.heap.size ≤ gb139)); clear HB; have HB := n0_; have BK139 := n1_; have GW139 := n2_; have GE139 := n3_; clear n0_ n1_ n2_ n3_; clear hb hbox hg; have hcz8_0 : w7.cell? ⟨gb139, 0, none⟩ = some (.slice A0_0 l0_0.length c0_0) := (blk_cell BK139.out 0).trans rfl; have hcz8_1 : w7.cell? ⟨gb139, 1, none⟩ = some (.slice A0_1 l0_1.length c0_1) := (blk_cell BK139.out 1).trans rfl; have hfz8_0 := blk_frozen BK139.out 0; have hfz8_1 := blk_frozen BK139.out 1) | (go_at_call 40; (with_reducible refine (graph_node.calls _ _ l0_0 _ _ l0_1 a1 true _ ?side1 ?side2 ?side3 ?side4 A3.out).mono ?_); (case side1 => repeat (first | exact (Kd.C_below HR0_0.out HB.out) | (with_reducible refine Kd.C_alloc ?_ _) | (with_reducible refine Kd.C_drewN ?_ _) | (with_reducible refine Kd.C_drew ?_))); (case side2 => exact HC0_0.out); (case side3 => repeat (first | exact (Kd.C_below HR0_1.out HB.out) | (with_reducible refine Kd.C_alloc ?_ _) | (with_reducible refine Kd.C_drewN ?_ _) | (with_reducible refine Kd.C_drew ?_))); (case side4 => exact HC0_1.out); rintro e w9 ⟨rfl, hb⟩; have n0_ := Aside0.mk (blk_below (g := gb139) (o := .cells #[.slice A0_0 l0_0.length c0_0, .slice A0_1 l0_1.length c0_1] 25 (0, 0)) (by (with_reducible repeat (first | refine blk_drewN ?_ _ | refine blk_drew ?_ | refine blk_alloc ?_ _)); exact BK139.out) hb); have n1_ := Aside0.mk (below_step (by repeat (first | (with_reducible first | exact HB.out | apply below_alloc | apply pw_below_drewN | apply below_drew1 | refine below_set ?_ GE139.out) | exact HB.out)) hb); clear BK139; clear HB; have BK139 := n0_; have HB := n1_; clear n0_ n1_; (try clear hb); (try clear hb2); (try clear hk); (try clear hi); have hcz10_0 : w9.cell? ⟨gb139, 0, none⟩ = some (.slice A0_0 l0_0.length c0_0) := (blk_cell BK139.out 0).trans rfl; have hcz10_1 : w9.cell? ⟨gb139, 1, none⟩ = some (.slice A0_1 l0_1.length c0_1) := (blk_cell BK139.out 1).trans rfl; have hfz10_0 := blk_frozen BK139.out 0; have hfz10_1 := blk_frozen BK139.out 1) | ((with_reducible refine gate_dst (N := 19) rfl ?_); refine Kd.R_make (Kd.int .i64) _ 3 rfl (N := 19) rfl 22 _ _ rfl (l0_1.length : Int) rfl rfl Try.underlying22 (.int .i64 0) 8 info3 rfl (by decide) (by omega) 0 (ok := fun _ => True) (okp := fun _ => True) rfl (fun _ hk => hk) trivial (of_decide_eq_true (by first | (with_reducible assumption) | assumption)) (Nat.le_trans (Nat.mul_le_mul_right _ (of_decide_eq_true (by first | (with_reducible assumption) | assumption) : (l0_1.length : Int).toNat ≤ 35184372088832)) (by omega)) (Below.refl _ _) (Nat.le_refl _) ?_; intro v142 w11 ho12 hb hg_ hnew_; clear hg_ hnew_; (first | rw [← Ny141.out] at ho12 | (simp only [Int.reduceToNat] at ho12; rw [← Ny141.out] at ho12)); have n0_ := Aside0.mk (Kd.R_lower ho12 (below_size (by repeat (first | (with_reducible first | exact HB.out | apply below_alloc | apply pw_below_drewN | apply below_drew1 | refine below_set ?_ GE139.out) | exact HB.out)))); have n1_ := Aside0.mk (blk_below (g := gb139) (o := .cells #[.slice A0_0 l0_0.length c0_0, .slice A0_1 l0_1.length c0_1] 25 (0, 0)) (by (with_reducible repeat (first | refine blk_drewN ?_ _ | refine blk_drew ?_ | refine blk_alloc ?_ _)); exact BK139.out) hb); have n2_ := Aside0.mk (below_step (by repeat (first | (with_reducible first | exact HB.out | apply below_alloc | apply pw_below_drewN | apply below_drew1 | refine below_set ?_ GE139.out) | exact HB.out)) hb); clear BK139; clear HB; have HO143 := n0_; have BK139 := n1_; have HB := n2_; clear n0_ n1_ n2_; clear hb ho12; obtain ⟨Ao13, co13, eo13⟩ := Kd.R_slice HO143.out; subst eo13)); try go_wp2_with (first | ((with_reducible refine gate_dst (N := 2) rfl ?_); refine box_event ?hg (N := 2) ?hd (cs := #[.slice A0_0 l0_0.length c0_0, .slice A0_1 l0_1.length c0_1]) (t := 25) ?hr ?_; (case hd => rfl); (case hg => rfl); (case hr => first | (go_simp; done) | (go_simp; rfl)); intro gb139 hg w7 hbox hb; have n0_ := Aside0.mk (below_step (by repeat (first | (with_reducible first | exact HB.out | apply below_alloc | apply pw_below_drewN | apply below_drew1) | exact HB.out)) hb); have n1_ := Aside0.mk (hbox); have n2_ := Aside0.mk ((by rw [hg]; exact (below_size (by repeat (first | (with_reducible first | exact HB.out | apply below_alloc | apply pw_below_drewN | apply below_drew1) | exact HB.out))) : w.heap.size ≤ gb139)); have n3_ := Aside0.mk ((by rw [hg]; exact (below_size (by repeat (first | (with_reducible first | exact HB.out | apply below_alloc | apply pw_below_drewN | apply below_drew1) | exact HB.out))) : w.heap.size ≤ gb139)); clear HB; have HB := n0_; have BK139 := n1_; have GW139 := n2_; have GE139 := n3_; clear n0_ n1_ n2_ n3_; clear hb hbox hg; have hcz8_0 : w7.cell? ⟨gb139, 0, none⟩ = some (.slice A0_0 l0_0.length c0_0) := (blk_cell BK139.out 0).trans rfl; have hcz8_1 : w7.cell? ⟨gb139, 1, none⟩ = some (.slice A0_1 l0_1.length c0_1) := (blk_cell BK139.out 1).trans rfl; have hfz8_0 := blk_frozen BK139.out 0; have hfz8_1 := blk_frozen BK139.out 1) | (go_at_call 40; (with_reducible refine (graph_node.calls _ _ l0_0 _ _ l0_1 a1 true _ ?side1 ?side2 ?side3 ?side4 A3.out).mono ?_); (case side1 => repeat (first | exact (Kd.C_below HR0_0.out HB.out) | (with_reducible refine Kd.C_alloc ?_ _) | (with_reducible refine Kd.C_drewN ?_ _) | (with_reducible refine Kd.C_drew ?_))); (case side2 => exact HC0_0.out); (case side3 => repeat (first | exact (Kd.C_below HR0_1.out HB.out) | (with_reducible refine Kd.C_alloc ?_ _) | (with_reducible refine Kd.C_drewN ?_ _) | (with_reducible refine Kd.C_drew ?_))); (case side4 => exact HC0_1.out); rintro e w9 ⟨rfl, hb⟩; have n0_ := Aside0.mk (blk_below (g := gb139) (o := .cells #[.slice A0_0 l0_0.length c0_0, .slice A0_1 l0_1.length c0_1] 25 (0, 0)) (by (with_reducible repeat (first | refine blk_drewN ?_ _ | refine blk_drew ?_ | refine blk_alloc ?_ _)); exact BK139.out) hb); have n1_ := Aside0.mk (below_step (by repeat (first | (with_reducible first | exact HB.out | apply below_alloc | apply pw_below_drewN | apply below_drew1 | refine below_set ?_ GE139.out) | exact HB.out)) hb); clear BK139; clear HB; have BK139 := n0_; have HB := n1_; clear n0_ n1_; (try clear hb); (try clear hb2); (try clear hk); (try clear hi); have hcz10_0 : w9.cell? ⟨gb139, 0, none⟩ = some (.slice A0_0 l0_0.length c0_0) := (blk_cell BK139.out 0).trans rfl; have hcz10_1 : w9.cell? ⟨gb139, 1, none⟩ = some (.slice A0_1 l0_1.length c0_1) := (blk_cell BK139.out 1).trans rfl; have hfz10_0 := blk_frozen BK139.out 0; have hfz10_1 := blk_frozen BK139.out 1) | ((with_reducible refine gate_dst (N := 19) rfl ?_); refine Kd.R_make (Kd.int .i64) _ 3 rfl (N := 19) rfl 22 _ _ rfl (l0_1.length : Int) rfl rfl Try.underlying22 (.int .i64 0) 8 info3 rfl (by decide) (by omega) 0 (ok := fun _ => True) (okp := fun _ => True) rfl (fun _ hk => hk) trivial (of_decide_eq_true (by first | (with_reducible assumption) | assumption)) (Nat.le_trans (Nat.mul_le_mul_right _ (of_decide_eq_true (by first | (with_reducible assumption) | assumption) : (l0_1.length : Int).toNat ≤ 35184372088832)) (by omega)) (Below.refl _ _) (Nat.le_refl _) ?_; intro v142 w11 ho12 hb hg_ hnew_; clear hg_ hnew_; (first | rw [← Ny141.out] at ho12 | (simp only [Int.reduceToNat] at ho12; rw [← Ny141.out] at ho12)); have n0_ := Aside0.mk (Kd.R_lower ho12 (below_size (by repeat (first | (with_reducible first | exact HB.out | apply below_alloc | apply pw_below_drewN | apply below_drew1 | refine below_set ?_ GE139.out) | exact HB.out)))); have n1_ := Aside0.mk (blk_below (g := gb139) (o := .cells #[.slice A0_0 l0_0.length c0_0, .slice A0_1 l0_1.length c0_1] 25 (0, 0)) (by (with_reducible repeat (first | refine blk_drewN ?_ _ | refine blk_drew ?_ | refine blk_alloc ?_ _)); exact BK139.out) hb); have n2_ := Aside0.mk (below_step (by repeat (first | (with_reducible first | exact HB.out | apply below_alloc | apply pw_below_drewN | apply below_drew1 | refine below_set ?_ GE139.out) | exact HB.out)) hb); clear BK139; clear HB; have HO143 := n0_; have BK139 := n1_; have HB := n2_; clear n0_ n1_ n2_; clear hb ho12; obtain ⟨Ao13, co13, eo13⟩ := Kd.R_slice HO143.out; subst eo13)))
        go_loopg [22] k (fun kq v22 w' => ∃ (x5_1 : List Int) (x22_1 : Int), v22 = .int .i64 x22_1 ∧ Aside0 (graph_Distances.l0 kq a1 x5_1 (y141.length : Int) x22_1 l0_0 l0_1 = some r) ∧ Aside0 (kq ≤ k) ∧ Aside0 (Kd.R (Kd.int .i64) 3 w' w.heap.size (fun _ => True) (.slice Ao13 y141.length co13) x5_1) ∧ Aside0 (w'.heap[gb139]? = some (.cells #[(.slice A0_0 l0_0.length c0_0), (.slice A0_1 l0_1.length c0_1)] 25 (0, 0))) ∧ Aside0 (Below w.heap.size w w'))
        case atStart => exact ⟨(y141), (0), (by first | rfl | (simp; done) | (simp [*]; done)), H', ⟨Nat.le_refl _⟩, ⟨by (with_reducible repeat (first | apply Kd.R_alloc | apply Kd.R_drewN | apply Kd.R_drew)); exact HO143.out⟩, ⟨by (with_reducible repeat (first | refine blk_drewN ?_ _ | refine blk_drew ?_ | refine blk_alloc ?_ _)); exact BK139.out⟩, ⟨by repeat (first | (with_reducible first | exact HB.out | apply below_alloc | apply pw_below_drewN | apply below_drew1 | refine below_set ?_ GE139.out) | exact HB.out)⟩⟩
        case round =>
          clear H'
          try clear c1
          try clear p2
          try clear c4
          try clear c5
          try clear c5b0
          try clear c5b1
          try clear c6
          try clear c6b0
          try clear c6b1
          try clear hcz10_0
          try clear hcz10_1
          try clear hcz8_0
          try clear hcz8_1
          try clear hfz10_0
          try clear hfz10_1
          try clear hfz8_0
          try clear hfz8_1
          obtain ⟨x5_1, x22_1, rfl, HA, HK1, HO_5, BK139, HB⟩ := hrel
          have hl5_1 := (Kd.R_reads' HO_5.out).1
          rw [hl5_1] at HO_5
          (try simp only [hl5_1])
          (try simp only [hl5_1] at BK139)
          cases gk with
          | zero => exact absurd HA.out (by simp [graph_Distances.l0])
          | succ k1 =>
            have H := HA.out
            clear HA
            simp only [graph_Distances.l0] at H
            by_cases c14 : x22_1 < (y141.length : Int)
            · rw [if_pos c14] at H
              have c14b0 : decide (x22_1 < (y141.length : Int)) = true := decide_eq_true c14
              (try (have c14h0 := c14b0; simp only [hl5_1] at c14h0))
              clear c14
              by_cases c15 : 0 ≤ x22_1
              · rw [if_pos c15] at H
                have c15b0 : decide (0 ≤ x22_1) = true := decide_eq_true c15
                clear c15
                by_cases c16 : x22_1 < (x5_1.length : Int)
                · rw [if_pos c16] at H
                  have c16b0 : decide (x22_1 < (x5_1.length : Int)) = true := decide_eq_true c16
                  (try (have c16h0 := c16b0; simp only [hl5_1] at c16h0))
                  clear c16
                  obtain ⟨y144, hy144⟩ : ∃ y_ : List Int, y_ = (x5_1.set (x22_1 : Int).toNat (-1)) := ⟨_, rfl⟩
                  replace H : (graph_Distances.l0 k1 a1 y144 (y141.length : Int) (wrap64 (x22_1 + 1)) l0_0 l0_1) = some r := by first | (rw [hy144]; with_reducible exact H) | (have H2_ := (Option.bind_some _ _).symm.trans H; rw [hy144]; with_reducible exact H2_) | (have H2_ := (Option.bind_some _ _).symm.trans H; with_reducible exact H2_) | with_reducible exact H | (rw [hy144]; exact H) | exact H
                  have Ny144 := Aside0.mk hy144
                  clear hy144
                  have H' := Aside0.mk H
                  clear H
                  have p17 : 0 ≤ (x22_1 : Int) := of_decide_eq_true (by first | (with_reducible assumption) | assumption)
                  have q17 : (x22_1 : Int) < ((x5_1.length : Int) : Int) := of_decide_eq_true (by first | (with_reducible assumption) | assumption)
                  obtain ⟨go17, co17, eo17, gb17, gl17, cl17, HG17⟩ := Kd.R_form HO_5.out (by omega)
                  (first | cases eo17 | (injection eo17 with ea_ en_ ec_; (first | subst ea_ | (injection ea_ with ea_; subst ea_)); subst ec_; clear en_))
                  have GB17 := Aside0.mk gb17
                  have GG17 := Aside0.mk HG17
                  clear gb17 gl17 HG17
                  obtain ⟨hx17_0, hf17_0⟩ := Kd.R_celln 0 HO_5.out (x22_1 : Int) p17 q17
                  replace p17 := eq_true p17
                  replace q17 := eq_true q17
                  have HP18 := Kd.R_putg HO_5.out (x22_1 : Int) (-1)
                  go_wp2_with (first | ((with_reducible refine gate_store (t := 3) (p := 27) rfl ?_); (try (rw [drewN_self wr]; generalize hq_ : World.drewN wr _ = wr; have n0_ := Aside0.mk (Kd.R_at hq_ HO_5.out); have n1_ := Aside0.mk (blk_at hq_ BK139.out); have n2_ := Aside0.mk (below_at hq_ HB.out); clear hq_ HO_5 BK139 HB; have HO_5 := n0_; have BK139 := n1_; have HB := n2_; clear n0_ n1_ n2_; (try (have HP18 := Kd.R_putg HO_5.out (x22_1 : Int) (-1))))); refine store_event (t := 3) (p := 27) (v := ?vo_w19) (w1 := (wr.setCell ⟨go17, (x22_1 : Int).toNat, none⟩ (.int .i64 (-1)))) ?hg ?ho ?hn ?hr ?_; (case ho => rfl); (case hg => rfl); (case hn => rfl); (case hr => first | (go_simp; done) | (go_simp; rfl)); intro w19 hw; have hg : wr.grownBy w19 (some go17) := (by rw [hw]; exact HP18.2); have hp_ : Kd.R (Kd.int .i64) 3 w19 w.heap.size (fun _ => True) (.slice (some ⟨go17, 0, none⟩) x5_1.length co13) y144 := (by rw [hw, Ny144.out]; exact HP18.1); clear HP18; have n0_ := Aside0.mk (hp_); have n1_ := Aside0.mk (blk_grown (g := gb139) (o := .cells #[.slice A0_0 l0_0.length c0_0, .slice A0_1 l0_1.length c0_1] 25 (0, 0)) (by (with_reducible repeat (first | refine blk_drewN ?_ _ | refine blk_drew ?_ | refine blk_alloc ?_ _)); exact BK139.out) hg (Kd.R_ne HO_5.out BK139.out (by decide))); have n2_ := Aside0.mk ((by rw [hw]; exact below_set (HB.out) GB17.out : Below w.heap.size w w19)); clear HO_5; clear BK139; clear HB; have HO_5 := n0_; have BK139 := n1_; have HB := n2_; clear n0_ n1_ n2_; clear hg hw hp_))
                  repeat (go_quiet (first | ((with_reducible refine gate_store (t := 3) (p := 27) rfl ?_); (try (rw [drewN_self wr]; generalize hq_ : World.drewN wr _ = wr; have n0_ := Aside0.mk (Kd.R_at hq_ HO_5.out); have n1_ := Aside0.mk (blk_at hq_ BK139.out); have n2_ := Aside0.mk (below_at hq_ HB.out); clear hq_ HO_5 BK139 HB; have HO_5 := n0_; have BK139 := n1_; have HB := n2_; clear n0_ n1_ n2_; (try (have HP18 := Kd.R_putg HO_5.out (x22_1 : Int) (-1))))); refine store_event (t := 3) (p := 27) (v := ?vo_w19) (w1 := (wr.setCell ⟨go17, (x22_1 : Int).toNat, none⟩ (.int .i64 (-1)))) ?hg ?ho ?hn ?hr ?_; (case ho => rfl); (case hg => rfl); (case hn => rfl); (case hr => first | (go_simp; done) | (go_simp; rfl)); intro w19 hw; have hg : wr.grownBy w19 (some go17) := (by rw [hw]; exact HP18.2); have hp_ : Kd.R (Kd.int .i64) 3 w19 w.heap.size (fun _ => True) (.slice (some ⟨go17, 0, none⟩) x5_1.length co13) y144 := (by rw [hw, Ny144.out]; exact HP18.1); clear HP18; have n0_ := Aside0.mk (hp_); have n1_ := Aside0.mk (blk_grown (g := gb139) (o := .cells #[.slice A0_0 l0_0.length c0_0, .slice A0_1 l0_1.length c0_1] 25 (0, 0)) (by (with_reducible repeat (first | refine blk_drewN ?_ _ | refine blk_drew ?_ | refine blk_alloc ?_ _)); exact BK139.out) hg (Kd.R_ne HO_5.out BK139.out (by decide))); have n2_ := Aside0.mk ((by rw [hw]; exact below_set (HB.out) GB17.out : Below w.heap.size w w19)); clear HO_5; clear BK139; clear HB; have HO_5 := n0_; have BK139 := n1_; have HB := n2_; clear n0_ n1_ n2_; clear hg hw hp_)); try go_wp2_with (first | ((with_reducible refine gate_store (t := 3) (p := 27) rfl ?_); (try (rw [drewN_self wr]; generalize hq_ : World.drewN wr _ = wr; have n0_ := Aside0.mk (Kd.R_at hq_ HO_5.out); have n1_ := Aside0.mk (blk_at hq_ BK139.out); have n2_ := Aside0.mk (below_at hq_ HB.out); clear hq_ HO_5 BK139 HB; have HO_5 := n0_; have BK139 := n1_; have HB := n2_; clear n0_ n1_ n2_; (try (have HP18 := Kd.R_putg HO_5.out (x22_1 : Int) (-1))))); refine store_event (t := 3) (p := 27) (v := ?vo_w19) (w1 := (wr.setCell ⟨go17, (x22_1 : Int).toNat, none⟩ (.int .i64 (-1)))) ?hg ?ho ?hn ?hr ?_; (case ho => rfl); (case hg => rfl); (case hn => rfl); (case hr => first | (go_simp; done) | (go_simp; rfl)); intro w19 hw; have hg : wr.grownBy w19 (some go17) := (by rw [hw]; exact HP18.2); have hp_ : Kd.R (Kd.int .i64) 3 w19 w.heap.size (fun _ => True) (.slice (some ⟨go17, 0, none⟩) x5_1.length co13) y144 := (by rw [hw, Ny144.out]; exact HP18.1); clear HP18; have n0_ := Aside0.mk (hp_); have n1_ := Aside0.mk (blk_grown (g := gb139) (o := .cells #[.slice A0_0 l0_0.length c0_0, .slice A0_1 l0_1.length c0_1] 25 (0, 0)) (by (with_reducible repeat (first | refine blk_drewN ?_ _ | refine blk_drew ?_ | refine blk_alloc ?_ _)); exact BK139.out) hg (Kd.R_ne HO_5.out BK139.out (by decide))); have n2_ := Aside0.mk ((by rw [hw]; exact below_set (HB.out) GB17.out : Below w.heap.size w w19)); clear HO_5; clear BK139; clear HB; have HO_5 := n0_; have BK139 := n1_; have HB := n2_; clear n0_ n1_ n2_; clear hg hw hp_)))
                  (try simp only [← hl5_1])
                  go_roundg k1
                  case measure => have := HK1.out; omega
                  case rel => exact ⟨(y144), (wrap64 (x22_1 + 1)), (by first | rfl | (simp; done) | (simp [*]; done)), H', ⟨by have := HK1.out; omega⟩, ⟨by (try simp only [hl5_1]); (with_reducible repeat (first | apply Kd.R_alloc | apply Kd.R_drewN | apply Kd.R_drew)); exact HO_5.out⟩, ⟨by (try simp only [hl5_1]); (with_reducible repeat (first | refine blk_drewN ?_ _ | refine blk_drew ?_ | refine blk_alloc ?_ _)); exact BK139.out⟩, ⟨by repeat (first | (with_reducible first | exact HB.out | apply below_alloc | apply pw_below_drewN | apply below_drew1 | refine below_set ?_ GE139.out) | exact HB.out)⟩⟩
                · rw [if_neg c16] at H
                  exact absurd H (by simp)
              · rw [if_neg c15] at H
                exact absurd H (by simp)
            · rw [if_neg c14] at H
              have c14b0 : decide (x22_1 < (y141.length : Int)) = false := decide_eq_false c14
              (try (have c14h0 := c14b0; simp only [hl5_1] at c14h0))
              clear c14
              by_cases c20 : 0 ≤ a1
              · rw [if_pos c20] at H
                have c20b0 := eq_true c20
                have c20b1 : decide (0 ≤ a1) = true := decide_eq_true c20
                clear c20
                obtain ⟨ji21, hji21⟩ : ∃ j_ : Int, (shl .u32 1 a1) = j_ := ⟨_, rfl⟩
                replace H : (graph_Distances.l1 k1 x5_1 0 0 ji21 l0_0 l0_1) = some r := by first | (rw [hji21] at H; exact H) | (simp only [hji21] at H ⊢; exact H)
                have hji21_ : (IntKind.u32.wrap (1 * 2 ^ min a1.toNat 32)) = ji21 := hji21
                have hji21z : a1 ≤ 32 → (IntKind.u32.wrap (1 * 2 ^ a1.toNat)) = ji21 := shl_small hji21
                have hji21u : (IntKind.u32.wrap (2 ^ min a1.toNat 32)) = ji21 := by have h_ := hji21_; rw [Int.one_mul] at h_; exact h_
                have hji21v : a1 ≤ 32 → (IntKind.u32.wrap (2 ^ a1.toNat)) = ji21 := fun hle_ => by have h_ := hji21z hle_; rw [Int.one_mul] at h_; exact h_
                have H' := Aside0.mk H
                clear H
                go_wp2
                repeat (go_quiet (fail); try go_wp2)
                go_loopg [7, 8, 9] k1 (fun kq v7 v8 v9 w' => ∃ (x5_2 : List Int) (x7_2 : Int) (x8_2 : Int) (x9_2 : Int), v7 = .int .u32 x7_2 ∧ v8 = .int .i64 x8_2 ∧ v9 = .int .u32 x9_2 ∧ Aside0 (graph_Distances.l1 kq x5_2 x7_2 x8_2 x9_2 l0_0 l0_1 = some r) ∧ Aside0 (kq ≤ k1) ∧ Aside0 (Kd.R (Kd.int .i64) 3 w' w.heap.size (fun _ => True) (.slice Ao13 x5_1.length co13) x5_2) ∧ Aside0 (w'.heap[gb139]? = some (.cells #[(.slice A0_0 l0_0.length c0_0), (.slice A0_1 l0_1.length c0_1)] 25 (0, 0))) ∧ Aside0 (Below w.heap.size w w'))
                case atStart => exact ⟨(x5_1), (0), (0), (ji21), (by first | rfl | (simp; done) | (simp [*]; done)), (by first | rfl | (simp; done) | (simp [*]; done)), (by first | rfl | (simp; done) | (simp only [← hji21] <;> (first | rfl | simp)) | (simp [*]; done)), H', ⟨Nat.le_refl _⟩, ⟨by (try simp only [hl5_1]); (with_reducible repeat (first | apply Kd.R_alloc | apply Kd.R_drewN | apply Kd.R_drew)); exact HO_5.out⟩, ⟨by (try simp only [hl5_1]); (with_reducible repeat (first | refine blk_drewN ?_ _ | refine blk_drew ?_ | refine blk_alloc ?_ _)); exact BK139.out⟩, ⟨by repeat (first | (with_reducible first | exact HB.out | apply below_alloc | apply pw_below_drewN | apply below_drew1 | refine below_set ?_ GE139.out) | exact HB.out)⟩⟩
                case round =>
                  clear H'
                  try clear c1
                  try clear p1
                  try clear q1
                  try clear hx1
                  try clear c2
                  try clear p2
                  try clear c4
                  try clear c5
                  try clear c5b0
                  try clear c5b1
                  try clear c6
                  try clear c6b0
                  try clear c6b1
                  try clear p6
                  try clear c14
                  try clear c14b0
                  try clear c15
                  try clear c15b0
                  try clear c16
                  try clear c16b0
                  try clear p17
                  try clear q17
                  try clear hx17
                  try clear hf17
                  try clear c20
                  try clear c20b0
                  try clear c20b1
                  try clear hcz10_0
                  try clear hcz10_1
                  try clear hcz8_0
                  try clear hcz8_1
                  try clear hfz10_0
                  try clear hfz10_1
                  try clear hfz8_0
                  try clear hfz8_1
                  try clear hx17_0
                  try clear p17
                  try clear p2
                  try clear q17
                  obtain ⟨x5_2, x7_2, x8_2, x9_2, rfl, rfl, rfl, HA, HK2, HO_5, BK139, HB⟩ := hrel
                  have hl5_2 := (Kd.R_reads' HO_5.out).1
                  rw [hl5_2] at HO_5
                  (try simp only [hl5_2])
                  (try simp only [hl5_2] at BK139)
                  cases gk with
                  | zero => exact absurd HA.out (by simp [graph_Distances.l1])
                  | succ k2 =>
                    have H := HA.out
                    clear HA
                    simp only [graph_Distances.l1] at H
                    by_cases c22 : x9_2 = 0
                    · rw [if_pos c22] at H
                      have c22b0 : (x9_2 == 0) = true := beq_iff_eq.mpr c22
                      have c22b1 : (x9_2 != 0) = false := bne_eq_false_iff_eq.mpr c22
                      clear c22
                      obtain rfl := Option.some.inj H
                      go_wp2
                      repeat (go_quiet (fail); try go_wp2)
                      go_ret
                      exact ⟨_, by first | rfl | (simp [errW_none, errW_some] <;> rfl) | (simp only [← hji21]; first | rfl | (simp [errW_none, errW_some] <;> rfl)) | (simp [*, errW_none, errW_some] <;> rfl), by (with_reducible repeat (first | apply Kd.R_alloc | apply Kd.R_drewN | apply Kd.R_drew)); exact HO_5.out, by repeat (first | (with_reducible first | exact HB.out | apply below_alloc | apply pw_below_drewN | apply below_drew1 | refine below_set ?_ GE139.out) | exact HB.out)⟩
                    · rw [if_neg c22] at H
                      have c22b0 : (x9_2 == 0) = false := beq_eq_false_iff_ne.mpr c22
                      have c22b1 : (x9_2 != 0) = true := bne_iff_ne.mpr c22
                      have H' := Aside0.mk H
                      clear H
                      go_wp2
                      repeat (go_quiet (fail); try go_wp2)
                      go_loopg [10, 40] k2 (fun kq v10 v40 w' => ∃ (x5_3 : List Int) (x10_3 : Int) (x40_3 : Int), v10 = .int .u32 x10_3 ∧ v40 = .int .i64 x40_3 ∧ Aside0 (graph_Distances.l2 kq x5_3 (Go.bits .or .u32 x7_2 x9_2) x8_2 x9_2 x10_3 (x5_2.length : Int) x40_3 l0_0 l0_1 = some r) ∧ Aside0 (kq ≤ k2) ∧ Aside0 (Kd.R (Kd.int .i64) 3 w' w.heap.size (fun _ => True) (.slice Ao13 x5_2.length co13) x5_3) ∧ Aside0 (w'.heap[gb139]? = some (.cells #[(.slice A0_0 l0_0.length c0_0), (.slice A0_1 l0_1.length c0_1)] 25 (0, 0))) ∧ Aside0 (Below w.heap.size w w'))
                      case atStart => exact ⟨(x5_2), (0), (0), (by first | rfl | (simp; done) | (simp [*]; done)), (by first | rfl | (simp; done) | (simp [*]; done)), H', ⟨Nat.le_refl _⟩, ⟨by (try simp only [hl5_1]); (try simp only [hl5_2]); (with_reducible repeat (first | apply Kd.R_alloc | apply Kd.R_drewN | apply Kd.R_drew)); exact HO_5.out⟩, ⟨by (try simp only [hl5_1]); (try simp only [hl5_2]); (with_reducible repeat (first | refine blk_drewN ?_ _ | refine blk_drew ?_ | refine blk_alloc ?_ _)); exact BK139.out⟩, ⟨by repeat (first | (with_reducible first | exact HB.out | apply below_alloc | apply pw_below_drewN | apply below_drew1 | refine below_set ?_ GE139.out) | exact HB.out)⟩⟩
                      case round =>
                        clear H'
                        try clear c1
                        try clear p1
                        try clear q1
                        try clear hx1
                        try clear c2
                        try clear p2
                        try clear c4
                        try clear c5
                        try clear c5b0
                        try clear c5b1
                        try clear c6
                        try clear c6b0
                        try clear c6b1
                        try clear p6
                        try clear c14
                        try clear c14b0
                        try clear c15
                        try clear c15b0
                        try clear c16
                        try clear c16b0
                        try clear p17
                        try clear q17
                        try clear hx17
                        try clear hf17
                        try clear c20
                        try clear c20b0
                        try clear c20b1
                        try clear c22
                        try clear c22b0
                        try clear c22b1
                        try clear hcz10_0
                        try clear hcz10_1
                        try clear hcz8_0
                        try clear hcz8_1
                        try clear hfz10_0
                        try clear hfz10_1
                        try clear hfz8_0
                        try clear hfz8_1
                        try clear hx17_0
                        try clear p1
                        try clear p17
                        try clear p2
                        try clear p6
                        try clear q1
                        try clear q17
                        obtain ⟨x5_3, x10_3, x40_3, rfl, rfl, HA, HK3, HO_5, BK139, HB⟩ := hrel
                        have hl5_3 := (Kd.R_reads' HO_5.out).1
                        rw [hl5_3] at HO_5
                        (try simp only [hl5_3])
                        (try simp only [hl5_3] at BK139)
                        cases gk with
                        | zero => exact absurd HA.out (by simp [graph_Distances.l2])
                        | succ k3 =>
                          have H := HA.out
                          clear HA
                          simp only [graph_Distances.l2] at H
                          by_cases c23 : x40_3 < (x5_2.length : Int)
                          · rw [if_pos c23] at H
                            have c23b0 : decide (x40_3 < (x5_2.length : Int)) = true := decide_eq_true c23
                            (try (have c23h0 := c23b0; simp only [hl5_1, hl5_2, hl5_3] at c23h0))
                            clear c23
                            by_cases c24 : 0 ≤ x40_3
                            · rw [if_pos c24] at H
                              have c24b0 := eq_true c24
                              have c24b1 : decide (0 ≤ x40_3) = true := decide_eq_true c24
                              clear c24
                              obtain ⟨ji25, hji25⟩ : ∃ j_ : Int, (shr .u32 x9_2 x40_3) = j_ := ⟨_, rfl⟩
                              replace H : (if (Go.bits .and .u32 (ji25) 1) = 1 then (if x40_3 < (x5_3.length : Int) then ((graph_around.f k3 l0_0 l0_1 x40_3).bind fun t146 => (graph_Distances.l2 k3 (x5_3.set (x40_3 : Int).toNat x8_2) (Go.bits .or .u32 x7_2 x9_2) x8_2 x9_2 (Go.bits .or .u32 x10_3 t146) (x5_2.length : Int) (wrap64 (x40_3 + 1)) l0_0 l0_1)) else (none)) else (graph_Distances.l2 k3 x5_3 (Go.bits .or .u32 x7_2 x9_2) x8_2 x9_2 x10_3 (x5_2.length : Int) (wrap64 (x40_3 + 1)) l0_0 l0_1)) = some r := by first | (rw [hji25] at H; exact H) | (simp only [hji25] at H ⊢; exact H)
                              have hji25_ : (x9_2 / 2 ^ min x40_3.toNat 32) = ji25 := hji25
                              have hji25z : x40_3 ≤ 32 → (x9_2 / 2 ^ x40_3.toNat) = ji25 := shr_small hji25
                              by_cases c26 : (Go.bits .and .u32 (ji25) 1) = 1
                              · rw [if_pos c26] at H
                                have c26b0 : ((Go.bits .and .u32 (ji25) 1) == 1) = true := beq_iff_eq.mpr c26
                                have c26b1 : ((Go.bits .and .u32 (ji25) 1) != 1) = false := bne_eq_false_iff_eq.mpr c26
                                clear c26
                                by_cases c27 : x40_3 < (x5_3.length : Int)
                                · rw [if_pos c27] at H
                                  have c27b0 : decide (x40_3 < (x5_3.length : Int)) = true := decide_eq_true c27
                                  (try (have c27h0 := c27b0; simp only [hl5_1, hl5_2, hl5_3] at c27h0))
                                  clear c27
                                  obtain ⟨y145, hy145⟩ : ∃ y_ : List Int, y_ = (x5_3.set (x40_3 : Int).toNat x8_2) := ⟨_, rfl⟩
                                  replace H : ((graph_around.f k3 l0_0 l0_1 x40_3).bind fun t146 => (graph_Distances.l2 k3 y145 (Go.bits .or .u32 x7_2 x9_2) x8_2 x9_2 (Go.bits .or .u32 x10_3 t146) (x5_2.length : Int) (wrap64 (x40_3 + 1)) l0_0 l0_1)) = some r := by first | (rw [hy145]; with_reducible exact H) | (have H2_ := (Option.bind_some _ _).symm.trans H; rw [hy145]; with_reducible exact H2_) | (have H2_ := (Option.bind_some _ _).symm.trans H; with_reducible exact H2_) | with_reducible exact H | (rw [hy145]; exact H) | exact H
                                  have Ny145 := Aside0.mk hy145
                                  clear hy145
                                  replace H := Option.bind_eq_some_iff.mp H
                                  obtain ⟨t146, A290, H⟩ := H
                                  replace H : (graph_Distances.l2 k3 y145 (Go.bits .or .u32 x7_2 x9_2) x8_2 x9_2 (Go.bits .or .u32 x10_3 t146) (x5_2.length : Int) (wrap64 (x40_3 + 1)) l0_0 l0_1) = some r := H
                                  have A29 := Aside0.mk A290
                                  clear A290
                                  have H' := Aside0.mk H
                                  clear H
                                  have p28 : 0 ≤ (x40_3 : Int) := of_decide_eq_true (by first | (with_reducible assumption) | assumption)
                                  have q28 : (x40_3 : Int) < ((x5_3.length : Int) : Int) := of_decide_eq_true (by first | (with_reducible assumption) | assumption)
                                  obtain ⟨go28, co28, eo28, gb28, gl28, cl28, HG28⟩ := Kd.R_form HO_5.out (by omega)
                                  (first | cases eo28 | (injection eo28 with ea_ en_ ec_; (first | subst ea_ | (injection ea_ with ea_; subst ea_)); subst ec_; clear en_))
                                  have GB28 := Aside0.mk gb28
                                  have GG28 := Aside0.mk HG28
                                  clear gb28 gl28 HG28
                                  obtain ⟨hx28_0, hf28_0⟩ := Kd.R_celln 0 HO_5.out (x40_3 : Int) p28 q28
                                  replace p28 := eq_true p28
                                  replace q28 := eq_true q28
                                  have HP30 := Kd.R_putg HO_5.out (x40_3 : Int) x8_2
                                  go_wp2_with (first | ((with_reducible refine gate_store (t := 3) (p := 51) rfl ?_); (try (rw [drewN_self wr]; generalize hq_ : World.drewN wr _ = wr; have n0_ := Aside0.mk (Kd.R_at hq_ HO_5.out); have n1_ := Aside0.mk (blk_at hq_ BK139.out); have n2_ := Aside0.mk (below_at hq_ HB.out); clear hq_ HO_5 BK139 HB; have HO_5 := n0_; have BK139 := n1_; have HB := n2_; clear n0_ n1_ n2_; (try (have HP30 := Kd.R_putg HO_5.out (x40_3 : Int) x8_2)))); refine store_event (t := 3) (p := 51) (v := ?vo_w31) (w1 := (wr.setCell ⟨go28, (x40_3 : Int).toNat, none⟩ (.int .i64 x8_2))) ?hg ?ho ?hn ?hr ?_; (case ho => rfl); (case hg => rfl); (case hn => rfl); (case hr => first | (go_simp; done) | (go_simp; rfl)); intro w31 hw; have hg : wr.grownBy w31 (some go28) := (by rw [hw]; exact HP30.2); have hp_ : Kd.R (Kd.int .i64) 3 w31 w.heap.size (fun _ => True) (.slice (some ⟨go28, 0, none⟩) x5_3.length co13) y145 := (by rw [hw, Ny145.out]; exact HP30.1); clear HP30; have n0_ := Aside0.mk (hp_); have n1_ := Aside0.mk (blk_grown (g := gb139) (o := .cells #[.slice A0_0 l0_0.length c0_0, .slice A0_1 l0_1.length c0_1] 25 (0, 0)) (by (with_reducible repeat (first | refine blk_drewN ?_ _ | refine blk_drew ?_ | refine blk_alloc ?_ _)); exact BK139.out) hg (Kd.R_ne HO_5.out BK139.out (by decide))); have n2_ := Aside0.mk ((by rw [hw]; exact below_set (HB.out) GB28.out : Below w.heap.size w w31)); clear HO_5; clear BK139; clear HB; have HO_5 := n0_; have BK139 := n1_; have HB := n2_; clear n0_ n1_ n2_; clear hg hw hp_; have hcz32_0 : w31.cell? ⟨gb139, 0, none⟩ = some (.slice A0_0 l0_0.length c0_0) := (blk_cell BK139.out 0).trans rfl; have hcz32_1 : w31.cell? ⟨gb139, 1, none⟩ = some (.slice A0_1 l0_1.length c0_1) := (blk_cell BK139.out 1).trans rfl; have hfz32_0 := blk_frozen BK139.out 0; have hfz32_1 := blk_frozen BK139.out 1) | (go_at_call 41; (with_reducible refine (graph_around.calls k3 _ _ l0_0 _ _ l0_1 x40_3 t146 _ ?side1 ?side2 ?side3 ?side4 A29.out).mono ?_); (case side1 => repeat (first | exact (Kd.C_below HR0_0.out HB.out) | (with_reducible refine Kd.C_alloc ?_ _) | (with_reducible refine Kd.C_drewN ?_ _) | (with_reducible refine Kd.C_drew ?_))); (case side2 => exact HC0_0.out); (case side3 => repeat (first | exact (Kd.C_below HR0_1.out HB.out) | (with_reducible refine Kd.C_alloc ?_ _) | (with_reducible refine Kd.C_drewN ?_ _) | (with_reducible refine Kd.C_drew ?_))); (case side4 => exact HC0_1.out); rintro e w33 ⟨rfl, hb⟩; have n0_ := Aside0.mk (Kd.R_below (by (with_reducible repeat (first | apply Kd.R_alloc | apply Kd.R_drewN | apply Kd.R_drew)); exact HO_5.out) hb); have n1_ := Aside0.mk (blk_below (g := gb139) (o := .cells #[.slice A0_0 l0_0.length c0_0, .slice A0_1 l0_1.length c0_1] 25 (0, 0)) (by (with_reducible repeat (first | refine blk_drewN ?_ _ | refine blk_drew ?_ | refine blk_alloc ?_ _)); exact BK139.out) hb); have n2_ := Aside0.mk (below_step (by repeat (first | (with_reducible first | exact HB.out | apply below_alloc | apply pw_below_drewN | apply below_drew1 | refine below_set ?_ GE139.out) | exact HB.out)) hb); clear HO_5; clear BK139; clear HB; have HO_5 := n0_; have BK139 := n1_; have HB := n2_; clear n0_ n1_ n2_; (try clear hb); (try clear hb2); (try clear hk); (try clear hi)))
                                  repeat (go_quiet (first | ((with_reducible refine gate_store (t := 3) (p := 51) rfl ?_); (try (rw [drewN_self wr]; generalize hq_ : World.drewN wr _ = wr; have n0_ := Aside0.mk (Kd.R_at hq_ HO_5.out); have n1_ := Aside0.mk (blk_at hq_ BK139.out); have n2_ := Aside0.mk (below_at hq_ HB.out); clear hq_ HO_5 BK139 HB; have HO_5 := n0_; have BK139 := n1_; have HB := n2_; clear n0_ n1_ n2_; (try (have HP30 := Kd.R_putg HO_5.out (x40_3 : Int) x8_2)))); refine store_event (t := 3) (p := 51) (v := ?vo_w31) (w1 := (wr.setCell ⟨go28, (x40_3 : Int).toNat, none⟩ (.int .i64 x8_2))) ?hg ?ho ?hn ?hr ?_; (case ho => rfl); (case hg => rfl); (case hn => rfl); (case hr => first | (go_simp; done) | (go_simp; rfl)); intro w31 hw; have hg : wr.grownBy w31 (some go28) := (by rw [hw]; exact HP30.2); have hp_ : Kd.R (Kd.int .i64) 3 w31 w.heap.size (fun _ => True) (.slice (some ⟨go28, 0, none⟩) x5_3.length co13) y145 := (by rw [hw, Ny145.out]; exact HP30.1); clear HP30; have n0_ := Aside0.mk (hp_); have n1_ := Aside0.mk (blk_grown (g := gb139) (o := .cells #[.slice A0_0 l0_0.length c0_0, .slice A0_1 l0_1.length c0_1] 25 (0, 0)) (by (with_reducible repeat (first | refine blk_drewN ?_ _ | refine blk_drew ?_ | refine blk_alloc ?_ _)); exact BK139.out) hg (Kd.R_ne HO_5.out BK139.out (by decide))); have n2_ := Aside0.mk ((by rw [hw]; exact below_set (HB.out) GB28.out : Below w.heap.size w w31)); clear HO_5; clear BK139; clear HB; have HO_5 := n0_; have BK139 := n1_; have HB := n2_; clear n0_ n1_ n2_; clear hg hw hp_; have hcz32_0 : w31.cell? ⟨gb139, 0, none⟩ = some (.slice A0_0 l0_0.length c0_0) := (blk_cell BK139.out 0).trans rfl; have hcz32_1 : w31.cell? ⟨gb139, 1, none⟩ = some (.slice A0_1 l0_1.length c0_1) := (blk_cell BK139.out 1).trans rfl; have hfz32_0 := blk_frozen BK139.out 0; have hfz32_1 := blk_frozen BK139.out 1) | (go_at_call 41; (with_reducible refine (graph_around.calls k3 _ _ l0_0 _ _ l0_1 x40_3 t146 _ ?side1 ?side2 ?side3 ?side4 A29.out).mono ?_); (case side1 => repeat (first | exact (Kd.C_below HR0_0.out HB.out) | (with_reducible refine Kd.C_alloc ?_ _) | (with_reducible refine Kd.C_drewN ?_ _) | (with_reducible refine Kd.C_drew ?_))); (case side2 => exact HC0_0.out); (case side3 => repeat (first | exact (Kd.C_below HR0_1.out HB.out) | (with_reducible refine Kd.C_alloc ?_ _) | (with_reducible refine Kd.C_drewN ?_ _) | (with_reducible refine Kd.C_drew ?_))); (case side4 => exact HC0_1.out); rintro e w33 ⟨rfl, hb⟩; have n0_ := Aside0.mk (Kd.R_below (by (with_reducible repeat (first | apply Kd.R_alloc | apply Kd.R_drewN | apply Kd.R_drew)); exact HO_5.out) hb); have n1_ := Aside0.mk (blk_below (g := gb139) (o := .cells #[.slice A0_0 l0_0.length c0_0, .slice A0_1 l0_1.length c0_1] 25 (0, 0)) (by (with_reducible repeat (first | refine blk_drewN ?_ _ | refine blk_drew ?_ | refine blk_alloc ?_ _)); exact BK139.out) hb); have n2_ := Aside0.mk (below_step (by repeat (first | (with_reducible first | exact HB.out | apply below_alloc | apply pw_below_drewN | apply below_drew1 | refine below_set ?_ GE139.out) | exact HB.out)) hb); clear HO_5; clear BK139; clear HB; have HO_5 := n0_; have BK139 := n1_; have HB := n2_; clear n0_ n1_ n2_; (try clear hb); (try clear hb2); (try clear hk); (try clear hi))); try go_wp2_with (first | ((with_reducible refine gate_store (t := 3) (p := 51) rfl ?_); (try (rw [drewN_self wr]; generalize hq_ : World.drewN wr _ = wr; have n0_ := Aside0.mk (Kd.R_at hq_ HO_5.out); have n1_ := Aside0.mk (blk_at hq_ BK139.out); have n2_ := Aside0.mk (below_at hq_ HB.out); clear hq_ HO_5 BK139 HB; have HO_5 := n0_; have BK139 := n1_; have HB := n2_; clear n0_ n1_ n2_; (try (have HP30 := Kd.R_putg HO_5.out (x40_3 : Int) x8_2)))); refine store_event (t := 3) (p := 51) (v := ?vo_w31) (w1 := (wr.setCell ⟨go28, (x40_3 : Int).toNat, none⟩ (.int .i64 x8_2))) ?hg ?ho ?hn ?hr ?_; (case ho => rfl); (case hg => rfl); (case hn => rfl); (case hr => first | (go_simp; done) | (go_simp; rfl)); intro w31 hw; have hg : wr.grownBy w31 (some go28) := (by rw [hw]; exact HP30.2); have hp_ : Kd.R (Kd.int .i64) 3 w31 w.heap.size (fun _ => True) (.slice (some ⟨go28, 0, none⟩) x5_3.length co13) y145 := (by rw [hw, Ny145.out]; exact HP30.1); clear HP30; have n0_ := Aside0.mk (hp_); have n1_ := Aside0.mk (blk_grown (g := gb139) (o := .cells #[.slice A0_0 l0_0.length c0_0, .slice A0_1 l0_1.length c0_1] 25 (0, 0)) (by (with_reducible repeat (first | refine blk_drewN ?_ _ | refine blk_drew ?_ | refine blk_alloc ?_ _)); exact BK139.out) hg (Kd.R_ne HO_5.out BK139.out (by decide))); have n2_ := Aside0.mk ((by rw [hw]; exact below_set (HB.out) GB28.out : Below w.heap.size w w31)); clear HO_5; clear BK139; clear HB; have HO_5 := n0_; have BK139 := n1_; have HB := n2_; clear n0_ n1_ n2_; clear hg hw hp_; have hcz32_0 : w31.cell? ⟨gb139, 0, none⟩ = some (.slice A0_0 l0_0.length c0_0) := (blk_cell BK139.out 0).trans rfl; have hcz32_1 : w31.cell? ⟨gb139, 1, none⟩ = some (.slice A0_1 l0_1.length c0_1) := (blk_cell BK139.out 1).trans rfl; have hfz32_0 := blk_frozen BK139.out 0; have hfz32_1 := blk_frozen BK139.out 1) | (go_at_call 41; (with_reducible refine (graph_around.calls k3 _ _ l0_0 _ _ l0_1 x40_3 t146 _ ?side1 ?side2 ?side3 ?side4 A29.out).mono ?_); (case side1 => repeat (first | exact (Kd.C_below HR0_0.out HB.out) | (with_reducible refine Kd.C_alloc ?_ _) | (with_reducible refine Kd.C_drewN ?_ _) | (with_reducible refine Kd.C_drew ?_))); (case side2 => exact HC0_0.out); (case side3 => repeat (first | exact (Kd.C_below HR0_1.out HB.out) | (with_reducible refine Kd.C_alloc ?_ _) | (with_reducible refine Kd.C_drewN ?_ _) | (with_reducible refine Kd.C_drew ?_))); (case side4 => exact HC0_1.out); rintro e w33 ⟨rfl, hb⟩; have n0_ := Aside0.mk (Kd.R_below (by (with_reducible repeat (first | apply Kd.R_alloc | apply Kd.R_drewN | apply Kd.R_drew)); exact HO_5.out) hb); have n1_ := Aside0.mk (blk_below (g := gb139) (o := .cells #[.slice A0_0 l0_0.length c0_0, .slice A0_1 l0_1.length c0_1] 25 (0, 0)) (by (with_reducible repeat (first | refine blk_drewN ?_ _ | refine blk_drew ?_ | refine blk_alloc ?_ _)); exact BK139.out) hb); have n2_ := Aside0.mk (below_step (by repeat (first | (with_reducible first | exact HB.out | apply below_alloc | apply pw_below_drewN | apply below_drew1 | refine below_set ?_ GE139.out) | exact HB.out)) hb); clear HO_5; clear BK139; clear HB; have HO_5 := n0_; have BK139 := n1_; have HB := n2_; clear n0_ n1_ n2_; (try clear hb); (try clear hb2); (try clear hk); (try clear hi))))
                                  (try simp only [← hl5_3])
                                  go_roundg k3
                                  case measure => have := HK1.out; have := HK2.out; have := HK3.out; omega
                                  case rel => exact ⟨(y145), (Go.bits .or .u32 x10_3 t146), (wrap64 (x40_3 + 1)), (by first | rfl | (simp; done) | (simp [*]; done)), (by first | rfl | (simp; done) | (simp [*]; done)), H', ⟨by have := HK1.out; have := HK2.out; have := HK3.out; omega⟩, ⟨by (try simp only [hl5_1]); (try simp only [hl5_2]); (try simp only [hl5_3]); (with_reducible repeat (first | apply Kd.R_alloc | apply Kd.R_drewN | apply Kd.R_drew)); exact HO_5.out⟩, ⟨by (try simp only [hl5_1]); (try simp only [hl5_2]); (try simp only [hl5_3]); (with_reducible repeat (first | refine blk_drewN ?_ _ | refine blk_drew ?_ | refine blk_alloc ?_ _)); exact BK139.out⟩, ⟨by repeat (first | (with_reducible first | exact HB.out | apply below_alloc | apply pw_below_drewN | apply below_drew1 | refine below_set ?_ GE139.out) | exact HB.out)⟩⟩
                                · rw [if_neg c27] at H
                                  exact absurd H (by simp)
                              · rw [if_neg c26] at H
                                have c26b0 : ((Go.bits .and .u32 (ji25) 1) == 1) = false := beq_eq_false_iff_ne.mpr c26
                                have c26b1 : ((Go.bits .and .u32 (ji25) 1) != 1) = true := bne_iff_ne.mpr c26
                                have H' := Aside0.mk H
                                clear H
                                go_wp2
                                repeat (go_quiet (fail); try go_wp2)
                                (try simp only [← hl5_3])
                                go_roundg k3
                                case measure => have := HK1.out; have := HK2.out; have := HK3.out; omega
                                case rel => exact ⟨(x5_3), (x10_3), (wrap64 (x40_3 + 1)), (by first | rfl | (simp; done) | (simp [*]; done)), (by first | rfl | (simp; done) | (simp [*]; done)), H', ⟨by have := HK1.out; have := HK2.out; have := HK3.out; omega⟩, ⟨by (try simp only [hl5_1]); (try simp only [hl5_2]); (try simp only [hl5_3]); (with_reducible repeat (first | apply Kd.R_alloc | apply Kd.R_drewN | apply Kd.R_drew)); exact HO_5.out⟩, ⟨by (try simp only [hl5_1]); (try simp only [hl5_2]); (try simp only [hl5_3]); (with_reducible repeat (first | refine blk_drewN ?_ _ | refine blk_drew ?_ | refine blk_alloc ?_ _)); exact BK139.out⟩, ⟨by repeat (first | (with_reducible first | exact HB.out | apply below_alloc | apply pw_below_drewN | apply below_drew1 | refine below_set ?_ GE139.out) | exact HB.out)⟩⟩
                            · rw [if_neg c24] at H
                              exact absurd H (by simp)
                          · rw [if_neg c23] at H
                            have c23b0 : decide (x40_3 < (x5_2.length : Int)) = false := decide_eq_false c23
                            (try (have c23h0 := c23b0; simp only [hl5_1, hl5_2, hl5_3] at c23h0))
                            clear c23
                            have H' := Aside0.mk H
                            clear H
                            go_wp2
                            repeat (go_quiet (fail); try go_wp2)
                            (try simp only [← hl5_2, ← hl5_3])
                            go_roundg k3
                            case measure => have := HK1.out; have := HK2.out; have := HK3.out; omega
                            case rel => exact ⟨(x5_3), ((Go.bits .or .u32 x7_2 x9_2)), (wrap64 (x8_2 + 1)), (Go.bits .andNot .u32 x10_3 (Go.bits .or .u32 x7_2 x9_2)), (by first | rfl | (simp; done) | (simp [*]; done)), (by first | rfl | (simp; done) | (simp [*]; done)), (by first | rfl | (simp; done) | (simp [*]; done)), H', ⟨by have := HK1.out; have := HK2.out; have := HK3.out; omega⟩, ⟨by (try simp only [hl5_1]); (try simp only [hl5_2]); (try simp only [hl5_3]); (with_reducible repeat (first | apply Kd.R_alloc | apply Kd.R_drewN | apply Kd.R_drew)); exact HO_5.out⟩, ⟨by (try simp only [hl5_1]); (try simp only [hl5_2]); (try simp only [hl5_3]); (with_reducible repeat (first | refine blk_drewN ?_ _ | refine blk_drew ?_ | refine blk_alloc ?_ _)); exact BK139.out⟩, ⟨by repeat (first | (with_reducible first | exact HB.out | apply below_alloc | apply pw_below_drewN | apply below_drew1 | refine below_set ?_ GE139.out) | exact HB.out)⟩⟩
              · rw [if_neg c20] at H
                exact absurd H (by simp)
      · rw [if_neg c6] at H
        exact absurd H (by simp)
    · rw [if_neg c5] at H
      exact absurd H (by simp)
  · replace c4 := Bool.eq_false_iff.mpr c4
    subst c4
    have H1 : (some ([] : List Int)) = some r := by rw [if_neg (show ¬ (false = true) by decide)] at H; exact H
    clear H
    have H := H1
    clear H1
    obtain rfl := Option.some.inj H
    go_enter Try.func14, Try.ntmps14
    go_wp2_with (first | ((with_reducible refine gate_dst (N := 2) rfl ?_); refine box_event ?hg (N := 2) ?hd (cs := #[.slice A0_0 l0_0.length c0_0, .slice A0_1 l0_1.length c0_1]) (t := 25) ?hr ?_; (case hd => rfl); (case hg => rfl); (case hr => first | (go_simp; done) | (go_simp; rfl)); intro gb139 hg w34 hbox hb; have n0_ := Aside0.mk (below_step (by repeat (first | (with_reducible first | exact HB.out | apply below_alloc | apply pw_below_drewN | apply below_drew1) | exact HB.out)) hb); have n1_ := Aside0.mk (hbox); have n2_ := Aside0.mk ((by rw [hg]; exact (below_size (by repeat (first | (with_reducible first | exact HB.out | apply below_alloc | apply pw_below_drewN | apply below_drew1) | exact HB.out))) : w.heap.size ≤ gb139)); have n3_ := Aside0.mk ((by rw [hg]; exact (below_size (by repeat (first | (with_reducible first | exact HB.out | apply below_alloc | apply pw_below_drewN | apply below_drew1) | exact HB.out))) : w.heap.size ≤ gb139)); clear HB; have HB := n0_; have BK139 := n1_; have GW139 := n2_; have GE139 := n3_; clear n0_ n1_ n2_ n3_; clear hb hbox hg; have hcz35_0 : w34.cell? ⟨gb139, 0, none⟩ = some (.slice A0_0 l0_0.length c0_0) := (blk_cell BK139.out 0).trans rfl; have hcz35_1 : w34.cell? ⟨gb139, 1, none⟩ = some (.slice A0_1 l0_1.length c0_1) := (blk_cell BK139.out 1).trans rfl; have hfz35_0 := blk_frozen BK139.out 0; have hfz35_1 := blk_frozen BK139.out 1) | (go_at_call 40; (with_reducible refine (graph_node.calls _ _ l0_0 _ _ l0_1 a1 false _ ?side1 ?side2 ?side3 ?side4 A3.out).mono ?_); (case side1 => repeat (first | exact (Kd.C_below HR0_0.out HB.out) | (with_reducible refine Kd.C_alloc ?_ _) | (with_reducible refine Kd.C_drewN ?_ _) | (with_reducible refine Kd.C_drew ?_))); (case side2 => exact HC0_0.out); (case side3 => repeat (first | exact (Kd.C_below HR0_1.out HB.out) | (with_reducible refine Kd.C_alloc ?_ _) | (with_reducible refine Kd.C_drewN ?_ _) | (with_reducible refine Kd.C_drew ?_))); (case side4 => exact HC0_1.out); rintro e w36 ⟨rfl, hb⟩; have n0_ := Aside0.mk (blk_below (g := gb139) (o := .cells #[.slice A0_0 l0_0.length c0_0, .slice A0_1 l0_1.length c0_1] 25 (0, 0)) (by (with_reducible repeat (first | refine blk_drewN ?_ _ | refine blk_drew ?_ | refine blk_alloc ?_ _)); exact BK139.out) hb); have n1_ := Aside0.mk (below_step (by repeat (first | (with_reducible first | exact HB.out | apply below_alloc | apply pw_below_drewN | apply below_drew1 | refine below_set ?_ GE139.out) | exact HB.out)) hb); clear BK139; clear HB; have BK139 := n0_; have HB := n1_; clear n0_ n1_; (try clear hb); (try clear hb2); (try clear hk); (try clear hi)))
    repeat (go_quiet (first | ((with_reducible refine gate_dst (N := 2) rfl ?_); refine box_event ?hg (N := 2) ?hd (cs := #[.slice A0_0 l0_0.length c0_0, .slice A0_1 l0_1.length c0_1]) (t := 25) ?hr ?_; (case hd => rfl); (case hg => rfl); (case hr => first | (go_simp; done) | (go_simp; rfl)); intro gb139 hg w34 hbox hb; have n0_ := Aside0.mk (below_step (by repeat (first | (with_reducible first | exact HB.out | apply below_alloc | apply pw_below_drewN | apply below_drew1) | exact HB.out)) hb); have n1_ := Aside0.mk (hbox); have n2_ := Aside0.mk ((by rw [hg]; exact (below_size (by repeat (first | (with_reducible first | exact HB.out | apply below_alloc | apply pw_below_drewN | apply below_drew1) | exact HB.out))) : w.heap.size ≤ gb139)); have n3_ := Aside0.mk ((by rw [hg]; exact (below_size (by repeat (first | (with_reducible first | exact HB.out | apply below_alloc | apply pw_below_drewN | apply below_drew1) | exact HB.out))) : w.heap.size ≤ gb139)); clear HB; have HB := n0_; have BK139 := n1_; have GW139 := n2_; have GE139 := n3_; clear n0_ n1_ n2_ n3_; clear hb hbox hg; have hcz35_0 : w34.cell? ⟨gb139, 0, none⟩ = some (.slice A0_0 l0_0.length c0_0) := (blk_cell BK139.out 0).trans rfl; have hcz35_1 : w34.cell? ⟨gb139, 1, none⟩ = some (.slice A0_1 l0_1.length c0_1) := (blk_cell BK139.out 1).trans rfl; have hfz35_0 := blk_frozen BK139.out 0; have hfz35_1 := blk_frozen BK139.out 1) | (go_at_call 40; (with_reducible refine (graph_node.calls _ _ l0_0 _ _ l0_1 a1 false _ ?side1 ?side2 ?side3 ?side4 A3.out).mono ?_); (case side1 => repeat (first | exact (Kd.C_below HR0_0.out HB.out) | (with_reducible refine Kd.C_alloc ?_ _) | (with_reducible refine Kd.C_drewN ?_ _) | (with_reducible refine Kd.C_drew ?_))); (case side2 => exact HC0_0.out); (case side3 => repeat (first | exact (Kd.C_below HR0_1.out HB.out) | (with_reducible refine Kd.C_alloc ?_ _) | (with_reducible refine Kd.C_drewN ?_ _) | (with_reducible refine Kd.C_drew ?_))); (case side4 => exact HC0_1.out); rintro e w36 ⟨rfl, hb⟩; have n0_ := Aside0.mk (blk_below (g := gb139) (o := .cells #[.slice A0_0 l0_0.length c0_0, .slice A0_1 l0_1.length c0_1] 25 (0, 0)) (by (with_reducible repeat (first | refine blk_drewN ?_ _ | refine blk_drew ?_ | refine blk_alloc ?_ _)); exact BK139.out) hb); have n1_ := Aside0.mk (below_step (by repeat (first | (with_reducible first | exact HB.out | apply below_alloc | apply pw_below_drewN | apply below_drew1 | refine below_set ?_ GE139.out) | exact HB.out)) hb); clear BK139; clear HB; have BK139 := n0_; have HB := n1_; clear n0_ n1_; (try clear hb); (try clear hb2); (try clear hk); (try clear hi))); try go_wp2_with (first | ((with_reducible refine gate_dst (N := 2) rfl ?_); refine box_event ?hg (N := 2) ?hd (cs := #[.slice A0_0 l0_0.length c0_0, .slice A0_1 l0_1.length c0_1]) (t := 25) ?hr ?_; (case hd => rfl); (case hg => rfl); (case hr => first | (go_simp; done) | (go_simp; rfl)); intro gb139 hg w34 hbox hb; have n0_ := Aside0.mk (below_step (by repeat (first | (with_reducible first | exact HB.out | apply below_alloc | apply pw_below_drewN | apply below_drew1) | exact HB.out)) hb); have n1_ := Aside0.mk (hbox); have n2_ := Aside0.mk ((by rw [hg]; exact (below_size (by repeat (first | (with_reducible first | exact HB.out | apply below_alloc | apply pw_below_drewN | apply below_drew1) | exact HB.out))) : w.heap.size ≤ gb139)); have n3_ := Aside0.mk ((by rw [hg]; exact (below_size (by repeat (first | (with_reducible first | exact HB.out | apply below_alloc | apply pw_below_drewN | apply below_drew1) | exact HB.out))) : w.heap.size ≤ gb139)); clear HB; have HB := n0_; have BK139 := n1_; have GW139 := n2_; have GE139 := n3_; clear n0_ n1_ n2_ n3_; clear hb hbox hg; have hcz35_0 : w34.cell? ⟨gb139, 0, none⟩ = some (.slice A0_0 l0_0.length c0_0) := (blk_cell BK139.out 0).trans rfl; have hcz35_1 : w34.cell? ⟨gb139, 1, none⟩ = some (.slice A0_1 l0_1.length c0_1) := (blk_cell BK139.out 1).trans rfl; have hfz35_0 := blk_frozen BK139.out 0; have hfz35_1 := blk_frozen BK139.out 1) | (go_at_call 40; (with_reducible refine (graph_node.calls _ _ l0_0 _ _ l0_1 a1 false _ ?side1 ?side2 ?side3 ?side4 A3.out).mono ?_); (case side1 => repeat (first | exact (Kd.C_below HR0_0.out HB.out) | (with_reducible refine Kd.C_alloc ?_ _) | (with_reducible refine Kd.C_drewN ?_ _) | (with_reducible refine Kd.C_drew ?_))); (case side2 => exact HC0_0.out); (case side3 => repeat (first | exact (Kd.C_below HR0_1.out HB.out) | (with_reducible refine Kd.C_alloc ?_ _) | (with_reducible refine Kd.C_drewN ?_ _) | (with_reducible refine Kd.C_drew ?_))); (case side4 => exact HC0_1.out); rintro e w36 ⟨rfl, hb⟩; have n0_ := Aside0.mk (blk_below (g := gb139) (o := .cells #[.slice A0_0 l0_0.length c0_0, .slice A0_1 l0_1.length c0_1] 25 (0, 0)) (by (with_reducible repeat (first | refine blk_drewN ?_ _ | refine blk_drew ?_ | refine blk_alloc ?_ _)); exact BK139.out) hb); have n1_ := Aside0.mk (below_step (by repeat (first | (with_reducible first | exact HB.out | apply below_alloc | apply pw_below_drewN | apply below_drew1 | refine below_set ?_ GE139.out) | exact HB.out)) hb); clear BK139; clear HB; have BK139 := n0_; have HB := n1_; clear n0_ n1_; (try clear hb); (try clear hb2); (try clear hk); (try clear hi))))
    go_ret
    exact ⟨_, by first | rfl | (simp [errW_none, errW_some] <;> rfl) | (simp [*, errW_none, errW_some] <;> rfl), by first | exact Kd.R_nil _ _ _ _ _ | exact Kd.N_nil _ _ _ _ _ | exact Kd.V_nil _ _ _ _ _ | exact Kd.Q_nil _ _ _ _ _ | exact Kd.S_nil _ _ _ _ _, by repeat (first | (with_reducible first | exact HB.out | apply below_alloc | apply pw_below_drewN | apply below_drew1 | refine below_set ?_ GE139.out) | exact HB.out)⟩

/-! ### graph_Connected: function 16 -/
def graph_Connected.l0 : Nat → List Int → List Int → Int → Int → Option (Bool)
  | 0, _, _, _, _ => none
  | k + 1, x3, x8, x9, x10 => if x10 < x9 then (if 0 ≤ x10 then (if x10 < (x8.length : Int) then (if (rd x8 x10) < 0 then (some false) else (graph_Connected.l0 k x3 x8 x9 (wrap64 (x10 + 1)))) else (none)) else (none)) else (some (decide ((x3.length : Int) > 0)))
def graph_Connected.f (k : Nat) (l0_0 : List Int) (l0_1 : List (List (S32))) : Option (Bool) := (graph_Distances.f k l0_0 l0_1 0).bind fun t148 => (graph_Connected.l0 k t148 t148 (t148.length : Int) 0)
theorem graph_Connected.mono_l : ∀ k, (∀ y0 y1 y2 y3, LeO (graph_Connected.l0 k y0 y1 y2 y3) (graph_Connected.l0 (k + 1) y0 y1 y2 y3))
  | 0 => fun _ _ _ _ r h => by simp [graph_Connected.l0] at h
  | k + 1 => by
    have ih0 := graph_Connected.mono_l k
    · intro y0 y1 y2 y3
      unfold graph_Connected.l0
      repeat' first
      | (with_reducible exact ih0 _ _ _ _)
      | (with_reducible exact graph_Distances.mono _ _ _ _)
      | (with_reducible exact LeO.refl _)
      | (with_reducible exact LeO.none _)
      | (with_reducible refine LeO.ite ?_ ?_)
      | (with_reducible refine LeO.bind ?_ (fun _ => ?_))
      | exact ih0 _ _ _ _
      | exact graph_Distances.mono _ _ _ _
      | exact LeO.none _
      | refine LeO.ite ?_ ?_
      | refine LeO.bind ?_ (fun _ => ?_)
theorem graph_Connected.mono : ∀ a0 a1 k, LeO (graph_Connected.f k a0 a1) (graph_Connected.f (k + 1) a0 a1) := by
  intro a0 a1 k
  have ih0 := graph_Connected.mono_l k
  unfold graph_Connected.f
  repeat' first
      | (with_reducible exact ih0 _ _ _ _)
      | (with_reducible exact graph_Distances.mono _ _ _ _)
      | (with_reducible exact LeO.refl _)
      | (with_reducible exact LeO.none _)
      | (with_reducible refine LeO.ite ?_ ?_)
      | (with_reducible refine LeO.bind ?_ (fun _ => ?_))
      | exact ih0 _ _ _ _
      | exact graph_Distances.mono _ _ _ _
      | exact LeO.none _
      | refine LeO.ite ?_ ?_
      | refine LeO.bind ?_ (fun _ => ?_)
set_option maxHeartbeats 8000000 in
set_option maxRecDepth 100000 in
theorem graph_Connected.calls (k : Nat) (A0_0 : Option Addr) (c0_0 : Nat) (l0_0 : List Int) (A0_1 : Option Addr) (c0_1 : Nat) (l0_1 : List (List (S32))) (r : Bool) (w : World) (hr0_0 : Kd.C (Kd.int .i64) w A0_0 l0_0.length l0_0) (hc0_0 : l0_0.length ≤ c0_0) (hr0_1 : Kd.C (Kd.slice 32 k32) w A0_1 l0_1.length l0_1) (hc0_1 : l0_1.length ≤ c0_1) (h : graph_Connected.f k l0_0 l0_1 = some r) :
    Calls Try.prog 16 #[.agg #[.slice A0_0 l0_0.length c0_0, .slice A0_1 l0_1.length c0_1]] w fun e w' => e = .returned (.bool r) ∧ Below w.heap.size w w' := by
  have hu25 := Try.underlying25
  have HR0_0 := Aside0.mk hr0_0
  have HC0_0 := Aside0.mk hc0_0
  clear hr0_0 hc0_0
  have HR0_1 := Aside0.mk hr0_1
  have HC0_1 := Aside0.mk hc0_1
  clear hr0_1 hc0_1
  have HB := Aside0.mk (Below.refl w.heap.size w)
  have H : ((graph_Distances.f k l0_0 l0_1 0).bind fun t148 => (graph_Connected.l0 k t148 t148 (t148.length : Int) 0)) = some r := h
  clear h
  replace H := Option.bind_eq_some_iff.mp H
  obtain ⟨t148, A20, H⟩ := H
  replace H : (graph_Connected.l0 k t148 t148 (t148.length : Int) 0) = some r := H
  have A2 := Aside0.mk A20
  clear A20
  have H' := Aside0.mk H
  clear H
  go_enter Try.func16, Try.ntmps16
  go_wp2_with (first | ((with_reducible refine gate_dst (N := 1) rfl ?_); refine box_event ?hg (N := 1) ?hd (cs := #[.slice A0_0 l0_0.length c0_0, .slice A0_1 l0_1.length c0_1]) (t := 25) ?hr ?_; (case hd => rfl); (case hg => rfl); (case hr => first | (go_simp; done) | (go_simp; rfl)); intro gb147 hg w3 hbox hb; have n0_ := Aside0.mk (below_step (by repeat (first | (with_reducible first | exact HB.out | apply below_alloc | apply pw_below_drewN | apply below_drew1) | exact HB.out)) hb); have n1_ := Aside0.mk (hbox); have n2_ := Aside0.mk ((by rw [hg]; exact (below_size (by repeat (first | (with_reducible first | exact HB.out | apply below_alloc | apply pw_below_drewN | apply below_drew1) | exact HB.out))) : w.heap.size ≤ gb147)); have n3_ := Aside0.mk ((by rw [hg]; exact (below_size (by repeat (first | (with_reducible first | exact HB.out | apply below_alloc | apply pw_below_drewN | apply below_drew1) | exact HB.out))) : w.heap.size ≤ gb147)); clear HB; have HB := n0_; have BK147 := n1_; have GW147 := n2_; have GE147 := n3_; clear n0_ n1_ n2_ n3_; clear hb hbox hg; have hcz4_0 : w3.cell? ⟨gb147, 0, none⟩ = some (.slice A0_0 l0_0.length c0_0) := (blk_cell BK147.out 0).trans rfl; have hcz4_1 : w3.cell? ⟨gb147, 1, none⟩ = some (.slice A0_1 l0_1.length c0_1) := (blk_cell BK147.out 1).trans rfl; have hfz4_0 := blk_frozen BK147.out 0; have hfz4_1 := blk_frozen BK147.out 1) | ((with_reducible refine gate_callee (f := 14) rfl ?_); refine goesL_ (some 7) rfl rfl Try.func14 (by kernel_rfl) rfl #[.agg #[.slice A0_0 l0_0.length c0_0, .slice A0_1 l0_1.length c0_1], .int .i64 0] rfl (by (try simp only [List.map_toArray, List.map_cons, List.map_nil]); first | done | rfl | (simp only [List.length_drop, List.length_take]; rfl)) ?_; (with_reducible refine (graph_Distances.calls k _ _ l0_0 _ _ l0_1 0 t148 _ ?side1 ?side2 ?side3 ?side4 A2.out).mono ?_); (case side1 => repeat (first | exact (Kd.C_below HR0_0.out HB.out) | (with_reducible refine Kd.C_alloc ?_ _) | (with_reducible refine Kd.C_drewN ?_ _) | (with_reducible refine Kd.C_drew ?_))); (case side2 => exact HC0_0.out); (case side3 => repeat (first | exact (Kd.C_below HR0_1.out HB.out) | (with_reducible refine Kd.C_alloc ?_ _) | (with_reducible refine Kd.C_drewN ?_ _) | (with_reducible refine Kd.C_drew ?_))); (case side4 => exact HC0_1.out); rintro e w5 ⟨v149, rfl, ho0, hb⟩; refine ⟨_, rfl, ?_⟩; have n0_ := Aside0.mk (Kd.R_lower ho0 (below_size (by repeat (first | (with_reducible first | exact HB.out | apply below_alloc | apply pw_below_drewN | apply below_drew1 | refine below_set ?_ GE147.out) | exact HB.out)))); have n1_ := Aside0.mk (blk_below (g := gb147) (o := .cells #[.slice A0_0 l0_0.length c0_0, .slice A0_1 l0_1.length c0_1] 25 (0, 0)) (by (with_reducible repeat (first | refine blk_drewN ?_ _ | refine blk_drew ?_ | refine blk_alloc ?_ _)); exact BK147.out) hb); have n2_ := Aside0.mk (below_step (by repeat (first | (with_reducible first | exact HB.out | apply below_alloc | apply pw_below_drewN | apply below_drew1 | refine below_set ?_ GE147.out) | exact HB.out)) hb); clear BK147; clear HB; have HO150 := n0_; have BK147 := n1_; have HB := n2_; clear n0_ n1_ n2_; (try clear hb); (try clear hb2); (try clear hk); (try clear hi); (try clear ho0); obtain ⟨Ao6, co6, eo6⟩ := Kd.R_slice HO150.out; subst eo6))
  go_loopg [10] k (fun kq v10 w' => ∃ (x10_1 : Int), v10 = .int .i64 x10_1 ∧ Aside0 (graph_Connected.l0 kq t148 t148 (t148.length : Int) x10_1 = some r) ∧ Aside0 (kq ≤ k) ∧ Aside0 (Kd.R (Kd.int .i64) 3 w' w.heap.size (fun _ => True) (.slice Ao6 t148.length co6) t148) ∧ Aside0 (Kd.R (Kd.int .i64) 3 w' w.heap.size (fun _ => True) (.slice Ao6 t148.length co6) t148) ∧ Aside0 (w'.heap[gb147]? = some (.cells #[(.slice A0_0 l0_0.length c0_0), (.slice A0_1 l0_1.length c0_1)] 25 (0, 0))) ∧ Aside0 (Below w.heap.size w w'))
  case atStart => exact ⟨(0), (by first | rfl | (simp; done) | (simp [*]; done)), H', ⟨Nat.le_refl _⟩, ⟨by (with_reducible repeat (first | apply Kd.R_alloc | apply Kd.R_drewN | apply Kd.R_drew)); exact HO150.out⟩, ⟨by (with_reducible repeat (first | apply Kd.R_alloc | apply Kd.R_drewN | apply Kd.R_drew)); exact HO150.out⟩, ⟨by (with_reducible repeat (first | refine blk_drewN ?_ _ | refine blk_drew ?_ | refine blk_alloc ?_ _)); exact BK147.out⟩, ⟨by repeat (first | (with_reducible first | exact HB.out | apply below_alloc | apply pw_below_drewN | apply below_drew1 | refine below_set ?_ GE147.out) | exact HB.out)⟩⟩
  case round =>
    clear H'
    try clear c1
    try clear p2
    try clear hcz4_0
    try clear hcz4_1
    try clear hfz4_0
    try clear hfz4_1
    obtain ⟨x10_1, rfl, HA, HK1, HO_3, HO_8, BK147, HB⟩ := hrel
    cases gk with
    | zero => exact absurd HA.out (by simp [graph_Connected.l0])
    | succ k1 =>
      have H := HA.out
      clear HA
      simp only [graph_Connected.l0] at H
      by_cases c7 : x10_1 < (t148.length : Int)
      · rw [if_pos c7] at H
        have c7b0 : decide (x10_1 < (t148.length : Int)) = true := decide_eq_true c7
        clear c7
        by_cases c8 : 0 ≤ x10_1
        · rw [if_pos c8] at H
          have c8b0 : decide (0 ≤ x10_1) = true := decide_eq_true c8
          clear c8
          by_cases c9 : x10_1 < (t148.length : Int)
          · rw [if_pos c9] at H
            have c9b0 : decide (x10_1 < (t148.length : Int)) = true := decide_eq_true c9
            clear c9
            by_cases c10 : (rd t148 x10_1) < 0
            · rw [if_pos c10] at H
              have c10b0 : decide ((rd t148 x10_1) < 0) = true := decide_eq_true c10
              clear c10
              obtain rfl := Option.some.inj H
              have p151 : 0 ≤ (x10_1 : Int) := of_decide_eq_true (by first | (with_reducible assumption) | assumption)
              have q151 : x10_1 < (t148.length : Int) := of_decide_eq_true (by first | (with_reducible assumption) | assumption)
              (try (obtain ⟨Az151, cz151, ez151⟩ := Kd.R_slice HO_8.out; subst ez151))
              obtain ⟨ad151, e151, hx151_0⟩ := Kd.at_int (Kd.R_reads' HO_8.out).2.2 x10_1 p151 q151
              cases e151
              replace p151 := eq_true p151
              replace q151 := eq_true q151
              go_wp2
              go_ret
              exact ⟨by first | rfl | (simp [errW_none, errW_some] <;> rfl) | (simp [*, errW_none, errW_some] <;> rfl), by repeat (first | (with_reducible first | exact HB.out | apply below_alloc | apply pw_below_drewN | apply below_drew1 | refine below_set ?_ GE147.out) | exact HB.out)⟩
            · rw [if_neg c10] at H
              have c10b0 : decide ((rd t148 x10_1) < 0) = false := decide_eq_false c10
              clear c10
              have H' := Aside0.mk H
              clear H
              have p151 : 0 ≤ (x10_1 : Int) := of_decide_eq_true (by first | (with_reducible assumption) | assumption)
              have q151 : x10_1 < (t148.length : Int) := of_decide_eq_true (by first | (with_reducible assumption) | assumption)
              (try (obtain ⟨Az151, cz151, ez151⟩ := Kd.R_slice HO_8.out; subst ez151))
              obtain ⟨ad151, e151, hx151_0⟩ := Kd.at_int (Kd.R_reads' HO_8.out).2.2 x10_1 p151 q151
              cases e151
              replace p151 := eq_true p151
              replace q151 := eq_true q151
              go_wp2
              go_roundg k1
              case measure => have := HK1.out; omega
              case rel => exact ⟨(wrap64 (x10_1 + 1)), (by first | rfl | (simp; done) | (simp [*]; done)), H', ⟨by have := HK1.out; omega⟩, ⟨by (with_reducible repeat (first | apply Kd.R_alloc | apply Kd.R_drewN | apply Kd.R_drew)); exact HO_3.out⟩, ⟨by (with_reducible repeat (first | apply Kd.R_alloc | apply Kd.R_drewN | apply Kd.R_drew)); exact HO_8.out⟩, ⟨by (with_reducible repeat (first | refine blk_drewN ?_ _ | refine blk_drew ?_ | refine blk_alloc ?_ _)); exact BK147.out⟩, ⟨by repeat (first | (with_reducible first | exact HB.out | apply below_alloc | apply pw_below_drewN | apply below_drew1 | refine below_set ?_ GE147.out) | exact HB.out)⟩⟩
          · rw [if_neg c9] at H
            exact absurd H (by simp)
        · rw [if_neg c8] at H
          exact absurd H (by simp)
      · rw [if_neg c7] at H
        have c7b0 : decide (x10_1 < (t148.length : Int)) = false := decide_eq_false c7
        clear c7
        obtain rfl := Option.some.inj H
        go_wp2
        go_ret
        exact ⟨by first | rfl | (simp [errW_none, errW_some] <;> rfl) | (simp [*, errW_none, errW_some] <;> rfl), by repeat (first | (with_reducible first | exact HB.out | apply below_alloc | apply pw_below_drewN | apply below_drew1 | refine below_set ?_ GE147.out) | exact HB.out)⟩

/-! ### graph_Eccentricity: function 17 -/
def graph_Eccentricity.l0 : Nat → Int → List Int → Int → Int → Option (Int)
  | 0, _, _, _, _ => none
  | k + 1, x5, x13, x14, x15 => if x15 < x14 then (if 0 ≤ x15 then (if x15 < (x13.length : Int) then (graph_Eccentricity.l0 k (mx x5 (rd x13 x15)) x13 x14 (wrap64 (x15 + 1))) else (none)) else (none)) else (some x5)
def graph_Eccentricity.f (k : Nat) (l0_0 : List Int) (l0_1 : List (List (S32))) (a1 : Int) : Option (Int) := (graph_Connected.f k l0_0 l0_1).bind fun t153 => (if t153 = true then ((graph_Distances.f k l0_0 l0_1 a1).bind fun t154 => (graph_Eccentricity.l0 k (-1) t154 (t154.length : Int) 0)) else (some (-1)))
theorem graph_Eccentricity.mono_l : ∀ k, (∀ y0 y1 y2 y3, LeO (graph_Eccentricity.l0 k y0 y1 y2 y3) (graph_Eccentricity.l0 (k + 1) y0 y1 y2 y3))
  | 0 => fun _ _ _ _ r h => by simp [graph_Eccentricity.l0] at h
  | k + 1 => by
    have ih0 := graph_Eccentricity.mono_l k
    · intro y0 y1 y2 y3
      unfold graph_Eccentricity.l0
      repeat' first
      | (with_reducible exact ih0 _ _ _ _)
      | (with_reducible exact graph_Connected.mono _ _ _)
      | (with_reducible exact graph_Distances.mono _ _ _ _)
      | (with_reducible exact LeO.refl _)
      | (with_reducible exact LeO.none _)
      | (with_reducible refine LeO.ite ?_ ?_)
      | (with_reducible refine LeO.bind ?_ (fun _ => ?_))
      | exact ih0 _ _ _ _
      | exact graph_Connected.mono _ _ _
      | exact graph_Distances.mono _ _ _ _
      | exact LeO.none _
      | refine LeO.ite ?_ ?_
      | refine LeO.bind ?_ (fun _ => ?_)
theorem graph_Eccentricity.mono : ∀ a0 a1 a2 k, LeO (graph_Eccentricity.f k a0 a1 a2) (graph_Eccentricity.f (k + 1) a0 a1 a2) := by
  intro a0 a1 a2 k
  have ih0 := graph_Eccentricity.mono_l k
  unfold graph_Eccentricity.f
  repeat' first
      | (with_reducible exact ih0 _ _ _ _)
      | (with_reducible exact graph_Connected.mono _ _ _)
      | (with_reducible exact graph_Distances.mono _ _ _ _)
      | (with_reducible exact LeO.refl _)
      | (with_reducible exact LeO.none _)
      | (with_reducible refine LeO.ite ?_ ?_)
      | (with_reducible refine LeO.bind ?_ (fun _ => ?_))
      | exact ih0 _ _ _ _
      | exact graph_Connected.mono _ _ _
      | exact graph_Distances.mono _ _ _ _
      | exact LeO.none _
      | refine LeO.ite ?_ ?_
      | refine LeO.bind ?_ (fun _ => ?_)
set_option maxHeartbeats 8000000 in
set_option maxRecDepth 100000 in
theorem graph_Eccentricity.calls (k : Nat) (A0_0 : Option Addr) (c0_0 : Nat) (l0_0 : List Int) (A0_1 : Option Addr) (c0_1 : Nat) (l0_1 : List (List (S32))) (a1 : Int) (r : Int) (w : World) (hr0_0 : Kd.C (Kd.int .i64) w A0_0 l0_0.length l0_0) (hc0_0 : l0_0.length ≤ c0_0) (hr0_1 : Kd.C (Kd.slice 32 k32) w A0_1 l0_1.length l0_1) (hc0_1 : l0_1.length ≤ c0_1) (h : graph_Eccentricity.f k l0_0 l0_1 a1 = some r) :
    Calls Try.prog 17 #[.agg #[.slice A0_0 l0_0.length c0_0, .slice A0_1 l0_1.length c0_1], .int .i64 a1] w fun e w' => e = .returned (.int .i64 r) ∧ Below w.heap.size w w' := by
  have hu25 := Try.underlying25
  have HR0_0 := Aside0.mk hr0_0
  have HC0_0 := Aside0.mk hc0_0
  clear hr0_0 hc0_0
  have HR0_1 := Aside0.mk hr0_1
  have HC0_1 := Aside0.mk hc0_1
  clear hr0_1 hc0_1
  have HB := Aside0.mk (Below.refl w.heap.size w)
  have H : ((graph_Connected.f k l0_0 l0_1).bind fun t153 => (if t153 = true then ((graph_Distances.f k l0_0 l0_1 a1).bind fun t154 => (graph_Eccentricity.l0 k (-1) t154 (t154.length : Int) 0)) else (some (-1)))) = some r := h
  clear h
  replace H := Option.bind_eq_some_iff.mp H
  obtain ⟨t153, A30, H⟩ := H
  replace H : (if t153 = true then ((graph_Distances.f k l0_0 l0_1 a1).bind fun t154 => (graph_Eccentricity.l0 k (-1) t154 (t154.length : Int) 0)) else (some (-1))) = some r := H
  have A3 := Aside0.mk A30
  clear A30
  by_cases c4 : t153 = true
  · subst c4
    have H1 : ((graph_Distances.f k l0_0 l0_1 a1).bind fun t154 => (graph_Eccentricity.l0 k (-1) t154 (t154.length : Int) 0)) = some r := by rw [if_pos rfl] at H; exact H
    clear H
    have H := H1
    clear H1
    replace H := Option.bind_eq_some_iff.mp H
    obtain ⟨t154, A50, H⟩ := H
    replace H : (graph_Eccentricity.l0 k (-1) t154 (t154.length : Int) 0) = some r := H
    have A5 := Aside0.mk A50
    clear A50
    have H' := Aside0.mk H
    clear H
    go_enter Try.func17, Try.ntmps17
    go_wp2_with (first | ((with_reducible refine gate_dst (N := 2) rfl ?_); refine box_event ?hg (N := 2) ?hd (cs := #[.slice A0_0 l0_0.length c0_0, .slice A0_1 l0_1.length c0_1]) (t := 25) ?hr ?_; (case hd => rfl); (case hg => rfl); (case hr => first | (go_simp; done) | (go_simp; rfl)); intro gb152 hg w6 hbox hb; have n0_ := Aside0.mk (below_step (by repeat (first | (with_reducible first | exact HB.out | apply below_alloc | apply pw_below_drewN | apply below_drew1) | exact HB.out)) hb); have n1_ := Aside0.mk (hbox); have n2_ := Aside0.mk ((by rw [hg]; exact (below_size (by repeat (first | (with_reducible first | exact HB.out | apply below_alloc | apply pw_below_drewN | apply below_drew1) | exact HB.out))) : w.heap.size ≤ gb152)); have n3_ := Aside0.mk ((by rw [hg]; exact (below_size (by repeat (first | (with_reducible first | exact HB.out | apply below_alloc | apply pw_below_drewN | apply below_drew1) | exact HB.out))) : w.heap.size ≤ gb152)); clear HB; have HB := n0_; have BK152 := n1_; have GW152 := n2_; have GE152 := n3_; clear n0_ n1_ n2_ n3_; clear hb hbox hg; have hcz7_0 : w6.cell? ⟨gb152, 0, none⟩ = some (.slice A0_0 l0_0.length c0_0) := (blk_cell BK152.out 0).trans rfl; have hcz7_1 : w6.cell? ⟨gb152, 1, none⟩ = some (.slice A0_1 l0_1.length c0_1) := (blk_cell BK152.out 1).trans rfl; have hfz7_0 := blk_frozen BK152.out 0; have hfz7_1 := blk_frozen BK152.out 1) | ((with_reducible refine gate_callee (f := 16) rfl ?_); refine goesL_ (some 9) rfl rfl Try.func16 (by kernel_rfl) rfl #[.agg #[.slice A0_0 l0_0.length c0_0, .slice A0_1 l0_1.length c0_1]] rfl (by (try simp only [List.map_toArray, List.map_cons, List.map_nil]); first | done | rfl | (simp only [List.length_drop, List.length_take]; rfl)) ?_; (with_reducible refine (graph_Connected.calls k _ _ l0_0 _ _ l0_1 true _ ?side1 ?side2 ?side3 ?side4 A3.out).mono ?_); (case side1 => repeat (first | exact (Kd.C_below HR0_0.out HB.out) | (with_reducible refine Kd.C_alloc ?_ _) | (with_reducible refine Kd.C_drewN ?_ _) | (with_reducible refine Kd.C_drew ?_))); (case side2 => exact HC0_0.out); (case side3 => repeat (first | exact (Kd.C_below HR0_1.out HB.out) | (with_reducible refine Kd.C_alloc ?_ _) | (with_reducible refine Kd.C_drewN ?_ _) | (with_reducible refine Kd.C_drew ?_))); (case side4 => exact HC0_1.out); rintro e w8 ⟨rfl, hb⟩; refine ⟨_, rfl, ?_⟩; have n0_ := Aside0.mk (blk_below (g := gb152) (o := .cells #[.slice A0_0 l0_0.length c0_0, .slice A0_1 l0_1.length c0_1] 25 (0, 0)) (by (with_reducible repeat (first | refine blk_drewN ?_ _ | refine blk_drew ?_ | refine blk_alloc ?_ _)); exact BK152.out) hb); have n1_ := Aside0.mk (below_step (by repeat (first | (with_reducible first | exact HB.out | apply below_alloc | apply pw_below_drewN | apply below_drew1 | refine below_set ?_ GE152.out) | exact HB.out)) hb); clear BK152; clear HB; have BK152 := n0_; have HB := n1_; clear n0_ n1_; (try clear hb); (try clear hb2); (try clear hk); (try clear hi); have hcz9_0 : w8.cell? ⟨gb152, 0, none⟩ = some (.slice A0_0 l0_0.length c0_0) := (blk_cell BK152.out 0).trans rfl; have hcz9_1 : w8.cell? ⟨gb152, 1, none⟩ = some (.slice A0_1 l0_1.length c0_1) := (blk_cell BK152.out 1).trans rfl; have hfz9_0 := blk_frozen BK152.out 0; have hfz9_1 := blk_frozen BK152.out 1) | ((with_reducible refine gate_callee (f := 14) rfl ?_); refine goesL_ (some 13) rfl rfl Try.func14 (by kernel_rfl) rfl #[.agg #[.slice A0_0 l0_0.length c0_0, .slice A0_1 l0_1.length c0_1], .int .i64 a1] rfl (by (try simp only [List.map_toArray, List.map_cons, List.map_nil]); first | done | rfl | (simp only [List.length_drop, List.length_take]; rfl)) ?_; (with_reducible refine (graph_Distances.calls k _ _ l0_0 _ _ l0_1 a1 t154 _ ?side1 ?side2 ?side3 ?side4 A5.out).mono ?_); (case side1 => repeat (first | exact (Kd.C_below HR0_0.out HB.out) | (with_reducible refine Kd.C_alloc ?_ _) | (with_reducible refine Kd.C_drewN ?_ _) | (with_reducible refine Kd.C_drew ?_))); (case side2 => exact HC0_0.out); (case side3 => repeat (first | exact (Kd.C_below HR0_1.out HB.out) | (with_reducible refine Kd.C_alloc ?_ _) | (with_reducible refine Kd.C_drewN ?_ _) | (with_reducible refine Kd.C_drew ?_))); (case side4 => exact HC0_1.out); rintro e w10 ⟨v155, rfl, ho0, hb⟩; refine ⟨_, rfl, ?_⟩; have n0_ := Aside0.mk (Kd.R_lower ho0 (below_size (by repeat (first | (with_reducible first | exact HB.out | apply below_alloc | apply pw_below_drewN | apply below_drew1 | refine below_set ?_ GE152.out) | exact HB.out)))); have n1_ := Aside0.mk (blk_below (g := gb152) (o := .cells #[.slice A0_0 l0_0.length c0_0, .slice A0_1 l0_1.length c0_1] 25 (0, 0)) (by (with_reducible repeat (first | refine blk_drewN ?_ _ | refine blk_drew ?_ | refine blk_alloc ?_ _)); exact BK152.out) hb); have n2_ := Aside0.mk (below_step (by repeat (first | (with_reducible first | exact HB.out | apply below_alloc | apply pw_below_drewN | apply below_drew1 | refine below_set ?_ GE152.out) | exact HB.out)) hb); clear BK152; clear HB; have HO156 := n0_; have BK152 := n1_; have HB := n2_; clear n0_ n1_ n2_; (try clear hb); (try clear hb2); (try clear hk); (try clear hi); (try clear ho0); obtain ⟨Ao11, co11, eo11⟩ := Kd.R_slice HO156.out; subst eo11))
    go_loopg [5, 15] k (fun kq v5 v15 w' => ∃ (x5_1 : Int) (x15_1 : Int), v5 = .int .i64 x5_1 ∧ v15 = .int .i64 x15_1 ∧ Aside0 (graph_Eccentricity.l0 kq x5_1 t154 (t154.length : Int) x15_1 = some r) ∧ Aside0 (kq ≤ k) ∧ Aside0 (Kd.R (Kd.int .i64) 3 w' w.heap.size (fun _ => True) (.slice Ao11 t154.length co11) t154) ∧ Aside0 (w'.heap[gb152]? = some (.cells #[(.slice A0_0 l0_0.length c0_0), (.slice A0_1 l0_1.length c0_1)] 25 (0, 0))) ∧ Aside0 (Below w.heap.size w w'))
    case atStart => exact ⟨((-1)), (0), (by first | rfl | (simp; done) | (simp [*]; done)), (by first | rfl | (simp; done) | (simp [*]; done)), H', ⟨Nat.le_refl _⟩, ⟨by (with_reducible repeat (first | apply Kd.R_alloc | apply Kd.R_drewN | apply Kd.R_drew)); exact HO156.out⟩, ⟨by (with_reducible repeat (first | refine blk_drewN ?_ _ | refine blk_drew ?_ | refine blk_alloc ?_ _)); exact BK152.out⟩, ⟨by repeat (first | (with_reducible first | exact HB.out | apply below_alloc | apply pw_below_drewN | apply below_drew1 | refine below_set ?_ GE152.out) | exact HB.out)⟩⟩
    case round =>
      clear H'
      try clear c1
      try clear p2
      try clear c4
      try clear hcz7_0
      try clear hcz7_1
      try clear hcz9_0
      try clear hcz9_1
      try clear hfz7_0
      try clear hfz7_1
      try clear hfz9_0
      try clear hfz9_1
      obtain ⟨x5_1, x15_1, rfl, rfl, HA, HK1, HO_13, BK152, HB⟩ := hrel
      cases gk with
      | zero => exact absurd HA.out (by simp [graph_Eccentricity.l0])
      | succ k1 =>
        have H := HA.out
        clear HA
        simp only [graph_Eccentricity.l0] at H
        by_cases c12 : x15_1 < (t154.length : Int)
        · rw [if_pos c12] at H
          have c12b0 : decide (x15_1 < (t154.length : Int)) = true := decide_eq_true c12
          clear c12
          by_cases c13 : 0 ≤ x15_1
          · rw [if_pos c13] at H
            have c13b0 : decide (0 ≤ x15_1) = true := decide_eq_true c13
            clear c13
            by_cases c14 : x15_1 < (t154.length : Int)
            · rw [if_pos c14] at H
              have c14b0 : decide (x15_1 < (t154.length : Int)) = true := decide_eq_true c14
              clear c14
              obtain ⟨ji15, hji15⟩ : ∃ j_ : Int, (mx x5_1 (rd t154 x15_1)) = j_ := ⟨_, rfl⟩
              replace H : (graph_Eccentricity.l0 k1 ji15 t154 (t154.length : Int) (wrap64 (x15_1 + 1))) = some r := by first | (rw [hji15] at H; exact H) | (simp only [hji15] at H ⊢; exact H)
              have hji15_ : (if x5_1 < (rd t154 x15_1) then (rd t154 x15_1) else x5_1) = ji15 := hji15
              have H' := Aside0.mk H
              clear H
              have p157 : 0 ≤ (x15_1 : Int) := of_decide_eq_true (by first | (with_reducible assumption) | assumption)
              have q157 : x15_1 < (t154.length : Int) := of_decide_eq_true (by first | (with_reducible assumption) | assumption)
              (try (obtain ⟨Az157, cz157, ez157⟩ := Kd.R_slice HO_13.out; subst ez157))
              obtain ⟨ad157, e157, hx157_0⟩ := Kd.at_int (Kd.R_reads' HO_13.out).2.2 x15_1 p157 q157
              cases e157
              replace p157 := eq_true p157
              replace q157 := eq_true q157
              go_wp2
              go_roundg k1
              case measure => have := HK1.out; omega
              case rel => exact ⟨(ji15), (wrap64 (x15_1 + 1)), (by first | rfl | (simp; done) | (simp only [← hji15] <;> (first | rfl | simp)) | (simp [*]; done)), (by first | rfl | (simp; done) | (simp [*]; done)), H', ⟨by have := HK1.out; omega⟩, ⟨by (with_reducible repeat (first | apply Kd.R_alloc | apply Kd.R_drewN | apply Kd.R_drew)); exact HO_13.out⟩, ⟨by (with_reducible repeat (first | refine blk_drewN ?_ _ | refine blk_drew ?_ | refine blk_alloc ?_ _)); exact BK152.out⟩, ⟨by repeat (first | (with_reducible first | exact HB.out | apply below_alloc | apply pw_below_drewN | apply below_drew1 | refine below_set ?_ GE152.out) | exact HB.out)⟩⟩
            · rw [if_neg c14] at H
              exact absurd H (by simp)
          · rw [if_neg c13] at H
            exact absurd H (by simp)
        · rw [if_neg c12] at H
          have c12b0 : decide (x15_1 < (t154.length : Int)) = false := decide_eq_false c12
          clear c12
          obtain rfl := Option.some.inj H
          go_wp2
          go_ret
          exact ⟨by first | rfl | (simp [errW_none, errW_some] <;> rfl) | (simp [*, errW_none, errW_some] <;> rfl), by repeat (first | (with_reducible first | exact HB.out | apply below_alloc | apply pw_below_drewN | apply below_drew1 | refine below_set ?_ GE152.out) | exact HB.out)⟩
  · replace c4 := Bool.eq_false_iff.mpr c4
    subst c4
    have H1 : (some (-1)) = some r := by rw [if_neg (show ¬ (false = true) by decide)] at H; exact H
    clear H
    have H := H1
    clear H1
    obtain rfl := Option.some.inj H
    go_enter Try.func17, Try.ntmps17
    go_wp2_with (first | ((with_reducible refine gate_dst (N := 2) rfl ?_); refine box_event ?hg (N := 2) ?hd (cs := #[.slice A0_0 l0_0.length c0_0, .slice A0_1 l0_1.length c0_1]) (t := 25) ?hr ?_; (case hd => rfl); (case hg => rfl); (case hr => first | (go_simp; done) | (go_simp; rfl)); intro gb152 hg w16 hbox hb; have n0_ := Aside0.mk (below_step (by repeat (first | (with_reducible first | exact HB.out | apply below_alloc | apply pw_below_drewN | apply below_drew1) | exact HB.out)) hb); have n1_ := Aside0.mk (hbox); have n2_ := Aside0.mk ((by rw [hg]; exact (below_size (by repeat (first | (with_reducible first | exact HB.out | apply below_alloc | apply pw_below_drewN | apply below_drew1) | exact HB.out))) : w.heap.size ≤ gb152)); have n3_ := Aside0.mk ((by rw [hg]; exact (below_size (by repeat (first | (with_reducible first | exact HB.out | apply below_alloc | apply pw_below_drewN | apply below_drew1) | exact HB.out))) : w.heap.size ≤ gb152)); clear HB; have HB := n0_; have BK152 := n1_; have GW152 := n2_; have GE152 := n3_; clear n0_ n1_ n2_ n3_; clear hb hbox hg; have hcz17_0 : w16.cell? ⟨gb152, 0, none⟩ = some (.slice A0_0 l0_0.length c0_0) := (blk_cell BK152.out 0).trans rfl; have hcz17_1 : w16.cell? ⟨gb152, 1, none⟩ = some (.slice A0_1 l0_1.length c0_1) := (blk_cell BK152.out 1).trans rfl; have hfz17_0 := blk_frozen BK152.out 0; have hfz17_1 := blk_frozen BK152.out 1) | ((with_reducible refine gate_callee (f := 16) rfl ?_); refine goesL_ (some 9) rfl rfl Try.func16 (by kernel_rfl) rfl #[.agg #[.slice A0_0 l0_0.length c0_0, .slice A0_1 l0_1.length c0_1]] rfl (by (try simp only [List.map_toArray, List.map_cons, List.map_nil]); first | done | rfl | (simp only [List.length_drop, List.length_take]; rfl)) ?_; (with_reducible refine (graph_Connected.calls k _ _ l0_0 _ _ l0_1 false _ ?side1 ?side2 ?side3 ?side4 A3.out).mono ?_); (case side1 => repeat (first | exact (Kd.C_below HR0_0.out HB.out) | (with_reducible refine Kd.C_alloc ?_ _) | (with_reducible refine Kd.C_drewN ?_ _) | (with_reducible refine Kd.C_drew ?_))); (case side2 => exact HC0_0.out); (case side3 => repeat (first | exact (Kd.C_below HR0_1.out HB.out) | (with_reducible refine Kd.C_alloc ?_ _) | (with_reducible refine Kd.C_drewN ?_ _) | (with_reducible refine Kd.C_drew ?_))); (case side4 => exact HC0_1.out); rintro e w18 ⟨rfl, hb⟩; refine ⟨_, rfl, ?_⟩; have n0_ := Aside0.mk (blk_below (g := gb152) (o := .cells #[.slice A0_0 l0_0.length c0_0, .slice A0_1 l0_1.length c0_1] 25 (0, 0)) (by (with_reducible repeat (first | refine blk_drewN ?_ _ | refine blk_drew ?_ | refine blk_alloc ?_ _)); exact BK152.out) hb); have n1_ := Aside0.mk (below_step (by repeat (first | (with_reducible first | exact HB.out | apply below_alloc | apply pw_below_drewN | apply below_drew1 | refine below_set ?_ GE152.out) | exact HB.out)) hb); clear BK152; clear HB; have BK152 := n0_; have HB := n1_; clear n0_ n1_; (try clear hb); (try clear hb2); (try clear hk); (try clear hi)))
    go_ret
    exact ⟨by first | rfl | (simp [errW_none, errW_some] <;> rfl) | (simp [*, errW_none, errW_some] <;> rfl), by repeat (first | (with_reducible first | exact HB.out | apply below_alloc | apply pw_below_drewN | apply below_drew1 | refine below_set ?_ GE152.out) | exact HB.out)⟩

/-! ### graph_Diameter: function 15 -/
def graph_Diameter.l0 : Nat → Int → Int → Int → List Int → List (List (S32)) → Option (Int)
  | 0, _, _, _, _, _ => none
  | k + 1, x3, x7, x8, x159000, x159001 => if x8 < x7 then ((graph_Eccentricity.f k x159000 x159001 x8).bind fun t159 => (if (mx x3 t159) < 0 then (some (mx x3 t159)) else (graph_Diameter.l0 k (mx x3 t159) x7 (wrap64 (x8 + 1)) x159000 x159001))) else (some x3)
def graph_Diameter.f (k : Nat) (l0_0 : List Int) (l0_1 : List (List (S32))) : Option (Int) := graph_Diameter.l0 k (-1) (l0_1.length : Int) 0 l0_0 l0_1
theorem graph_Diameter.mono_l : ∀ k, (∀ y0 y1 y2 y3 y4, LeO (graph_Diameter.l0 k y0 y1 y2 y3 y4) (graph_Diameter.l0 (k + 1) y0 y1 y2 y3 y4))
  | 0 => fun _ _ _ _ _ r h => by simp [graph_Diameter.l0] at h
  | k + 1 => by
    have ih0 := graph_Diameter.mono_l k
    · intro y0 y1 y2 y3 y4
      unfold graph_Diameter.l0
      repeat' first
      | (with_reducible exact ih0 _ _ _ _ _)
      | (with_reducible exact graph_Eccentricity.mono _ _ _ _)
      | (with_reducible exact LeO.refl _)
      | (with_reducible exact LeO.none _)
      | (with_reducible refine LeO.ite ?_ ?_)
      | (with_reducible refine LeO.bind ?_ (fun _ => ?_))
      | exact ih0 _ _ _ _ _
      | exact graph_Eccentricity.mono _ _ _ _
      | exact LeO.none _
      | refine LeO.ite ?_ ?_
      | refine LeO.bind ?_ (fun _ => ?_)
theorem graph_Diameter.mono : ∀ a0 a1 k, LeO (graph_Diameter.f k a0 a1) (graph_Diameter.f (k + 1) a0 a1) := by
  intro a0 a1 k
  have ih0 := graph_Diameter.mono_l k
  unfold graph_Diameter.f
  repeat' first
      | (with_reducible exact ih0 _ _ _ _ _)
      | (with_reducible exact graph_Eccentricity.mono _ _ _ _)
      | (with_reducible exact LeO.refl _)
      | (with_reducible exact LeO.none _)
      | (with_reducible refine LeO.ite ?_ ?_)
      | (with_reducible refine LeO.bind ?_ (fun _ => ?_))
      | exact ih0 _ _ _ _ _
      | exact graph_Eccentricity.mono _ _ _ _
      | exact LeO.none _
      | refine LeO.ite ?_ ?_
      | refine LeO.bind ?_ (fun _ => ?_)
set_option maxHeartbeats 8000000 in
set_option maxRecDepth 100000 in
theorem graph_Diameter.calls (k : Nat) (A0_0 : Option Addr) (c0_0 : Nat) (l0_0 : List Int) (A0_1 : Option Addr) (c0_1 : Nat) (l0_1 : List (List (S32))) (r : Int) (w : World) (hr0_0 : Kd.C (Kd.int .i64) w A0_0 l0_0.length l0_0) (hc0_0 : l0_0.length ≤ c0_0) (hr0_1 : Kd.C (Kd.slice 32 k32) w A0_1 l0_1.length l0_1) (hc0_1 : l0_1.length ≤ c0_1) (h : graph_Diameter.f k l0_0 l0_1 = some r) :
    Calls Try.prog 15 #[.agg #[.slice A0_0 l0_0.length c0_0, .slice A0_1 l0_1.length c0_1]] w fun e w' => e = .returned (.int .i64 r) ∧ Below w.heap.size w w' := by
  have hu25 := Try.underlying25
  have HR0_0 := Aside0.mk hr0_0
  have HC0_0 := Aside0.mk hc0_0
  clear hr0_0 hc0_0
  have HR0_1 := Aside0.mk hr0_1
  have HC0_1 := Aside0.mk hc0_1
  clear hr0_1 hc0_1
  have HB := Aside0.mk (Below.refl w.heap.size w)
  have H : (graph_Diameter.l0 k (-1) (l0_1.length : Int) 0 l0_0 l0_1) = some r := h
  clear h
  have H' := Aside0.mk H
  clear H
  go_enter Try.func15, Try.ntmps15
  go_wp2_with (first | ((with_reducible refine gate_dst (N := 1) rfl ?_); refine box_event ?hg (N := 1) ?hd (cs := #[.slice A0_0 l0_0.length c0_0, .slice A0_1 l0_1.length c0_1]) (t := 25) ?hr ?_; (case hd => rfl); (case hg => rfl); (case hr => first | (go_simp; done) | (go_simp; rfl)); intro gb158 hg w2 hbox hb; have n0_ := Aside0.mk (below_step (by repeat (first | (with_reducible first | exact HB.out | apply below_alloc | apply pw_below_drewN | apply below_drew1) | exact HB.out)) hb); have n1_ := Aside0.mk (hbox); have n2_ := Aside0.mk ((by rw [hg]; exact (below_size (by repeat (first | (with_reducible first | exact HB.out | apply below_alloc | apply pw_below_drewN | apply below_drew1) | exact HB.out))) : w.heap.size ≤ gb158)); have n3_ := Aside0.mk ((by rw [hg]; exact (below_size (by repeat (first | (with_reducible first | exact HB.out | apply below_alloc | apply pw_below_drewN | apply below_drew1) | exact HB.out))) : w.heap.size ≤ gb158)); clear HB; have HB := n0_; have BK158 := n1_; have GW158 := n2_; have GE158 := n3_; clear n0_ n1_ n2_ n3_; clear hb hbox hg; have hcz3_0 : w2.cell? ⟨gb158, 0, none⟩ = some (.slice A0_0 l0_0.length c0_0) := (blk_cell BK158.out 0).trans rfl; have hcz3_1 : w2.cell? ⟨gb158, 1, none⟩ = some (.slice A0_1 l0_1.length c0_1) := (blk_cell BK158.out 1).trans rfl; have hfz3_0 := blk_frozen BK158.out 0; have hfz3_1 := blk_frozen BK158.out 1))
  go_loopg [3, 8] k (fun kq v3 v8 w' => ∃ (x3_1 : Int) (x8_1 : Int), v3 = .int .i64 x3_1 ∧ v8 = .int .i64 x8_1 ∧ Aside0 (graph_Diameter.l0 kq x3_1 (l0_1.length : Int) x8_1 l0_0 l0_1 = some r) ∧ Aside0 (kq ≤ k) ∧ Aside0 (w'.heap[gb158]? = some (.cells #[(.slice A0_0 l0_0.length c0_0), (.slice A0_1 l0_1.length c0_1)] 25 (0, 0))) ∧ Aside0 (Below w.heap.size w w'))
  case atStart => exact ⟨((-1)), (0), (by first | rfl | (simp; done) | (simp [*]; done)), (by first | rfl | (simp; done) | (simp [*]; done)), H', ⟨Nat.le_refl _⟩, ⟨by (with_reducible repeat (first | refine blk_drewN ?_ _ | refine blk_drew ?_ | refine blk_alloc ?_ _)); exact BK158.out⟩, ⟨by repeat (first | (with_reducible first | exact HB.out | apply below_alloc | apply pw_below_drewN | apply below_drew1 | refine below_set ?_ GE158.out) | exact HB.out)⟩⟩
  case round =>
    clear H'
    try clear c1
    try clear p2
    try clear hcz3_0
    try clear hcz3_1
    try clear hfz3_0
    try clear hfz3_1
    obtain ⟨x3_1, x8_1, rfl, rfl, HA, HK1, BK158, HB⟩ := hrel
    cases gk with
    | zero => exact absurd HA.out (by simp [graph_Diameter.l0])
    | succ k1 =>
      have H := HA.out
      clear HA
      simp only [graph_Diameter.l0] at H
      by_cases c4 : x8_1 < (l0_1.length : Int)
      · rw [if_pos c4] at H
        have c4b0 : decide (x8_1 < (l0_1.length : Int)) = true := decide_eq_true c4
        clear c4
        replace H := Option.bind_eq_some_iff.mp H
        obtain ⟨t159, A50, H⟩ := H
        replace H : (if (mx x3_1 t159) < 0 then (some (mx x3_1 t159)) else (graph_Diameter.l0 k1 (mx x3_1 t159) (l0_1.length : Int) (wrap64 (x8_1 + 1)) l0_0 l0_1)) = some r := H
        have A5 := Aside0.mk A50
        clear A50
        obtain ⟨ji6, hji6⟩ : ∃ j_ : Int, (mx x3_1 t159) = j_ := ⟨_, rfl⟩
        replace H : (if (ji6) < 0 then (some ji6) else (graph_Diameter.l0 k1 ji6 (l0_1.length : Int) (wrap64 (x8_1 + 1)) l0_0 l0_1)) = some r := by first | (rw [hji6] at H; exact H) | (simp only [hji6] at H ⊢; exact H)
        (try rw [hji6] at A5)
        have hji6_ : (if x3_1 < t159 then t159 else x3_1) = ji6 := hji6
        by_cases c7 : (ji6) < 0
        · rw [if_pos c7] at H
          have c7b0 : decide ((ji6) < 0) = true := decide_eq_true c7
          clear c7
          obtain rfl := Option.some.inj H
          have hcz8_0 : wr.cell? ⟨gb158, 0, none⟩ = some (.slice A0_0 l0_0.length c0_0) := (blk_cell BK158.out 0).trans rfl
          have hcz8_1 : wr.cell? ⟨gb158, 1, none⟩ = some (.slice A0_1 l0_1.length c0_1) := (blk_cell BK158.out 1).trans rfl
          have hfz8_0 := blk_frozen BK158.out 0
          have hfz8_1 := blk_frozen BK158.out 1
          go_wp2_with (first | ((with_reducible refine gate_callee (f := 17) rfl ?_); refine goesL_ (some 14) rfl rfl Try.func17 (by kernel_rfl) rfl #[.agg #[.slice A0_0 l0_0.length c0_0, .slice A0_1 l0_1.length c0_1], .int .i64 x8_1] rfl (by (try simp only [List.map_toArray, List.map_cons, List.map_nil]); first | done | rfl | (simp only [List.length_drop, List.length_take]; rfl)) ?_; (with_reducible refine (graph_Eccentricity.calls k1 _ _ l0_0 _ _ l0_1 x8_1 t159 _ ?side1 ?side2 ?side3 ?side4 A5.out).mono ?_); (case side1 => repeat (first | exact (Kd.C_below HR0_0.out HB.out) | (with_reducible refine Kd.C_alloc ?_ _) | (with_reducible refine Kd.C_drewN ?_ _) | (with_reducible refine Kd.C_drew ?_))); (case side2 => exact HC0_0.out); (case side3 => repeat (first | exact (Kd.C_below HR0_1.out HB.out) | (with_reducible refine Kd.C_alloc ?_ _) | (with_reducible refine Kd.C_drewN ?_ _) | (with_reducible refine Kd.C_drew ?_))); (case side4 => exact HC0_1.out); rintro e w9 ⟨rfl, hb⟩; refine ⟨_, rfl, ?_⟩; have n0_ := Aside0.mk (blk_below (g := gb158) (o := .cells #[.slice A0_0 l0_0.length c0_0, .slice A0_1 l0_1.length c0_1] 25 (0, 0)) (by (with_reducible repeat (first | refine blk_drewN ?_ _ | refine blk_drew ?_ | refine blk_alloc ?_ _)); exact BK158.out) hb); have n1_ := Aside0.mk (below_step (by repeat (first | (with_reducible first | exact HB.out | apply below_alloc | apply pw_below_drewN | apply below_drew1 | refine below_set ?_ GE158.out) | exact HB.out)) hb); clear BK158; clear HB; have BK158 := n0_; have HB := n1_; clear n0_ n1_; (try clear hb); (try clear hb2); (try clear hk); (try clear hi)))
          go_ret
          exact ⟨by first | rfl | (simp [errW_none, errW_some] <;> rfl) | (simp only [← hji6]; first | rfl | (simp [errW_none, errW_some] <;> rfl)) | (simp [*, errW_none, errW_some] <;> rfl), by repeat (first | (with_reducible first | exact HB.out | apply below_alloc | apply pw_below_drewN | apply below_drew1 | refine below_set ?_ GE158.out) | exact HB.out)⟩
        · rw [if_neg c7] at H
          have c7b0 : decide ((ji6) < 0) = false := decide_eq_false c7
          clear c7
          have H' := Aside0.mk H
          clear H
          have hcz10_0 : wr.cell? ⟨gb158, 0, none⟩ = some (.slice A0_0 l0_0.length c0_0) := (blk_cell BK158.out 0).trans rfl
          have hcz10_1 : wr.cell? ⟨gb158, 1, none⟩ = some (.slice A0_1 l0_1.length c0_1) := (blk_cell BK158.out 1).trans rfl
          have hfz10_0 := blk_frozen BK158.out 0
          have hfz10_1 := blk_frozen BK158.out 1
          go_wp2_with (first | ((with_reducible refine gate_callee (f := 17) rfl ?_); refine goesL_ (some 14) rfl rfl Try.func17 (by kernel_rfl) rfl #[.agg #[.slice A0_0 l0_0.length c0_0, .slice A0_1 l0_1.length c0_1], .int .i64 x8_1] rfl (by (try simp only [List.map_toArray, List.map_cons, List.map_nil]); first | done | rfl | (simp only [List.length_drop, List.length_take]; rfl)) ?_; (with_reducible refine (graph_Eccentricity.calls k1 _ _ l0_0 _ _ l0_1 x8_1 t159 _ ?side1 ?side2 ?side3 ?side4 A5.out).mono ?_); (case side1 => repeat (first | exact (Kd.C_below HR0_0.out HB.out) | (with_reducible refine Kd.C_alloc ?_ _) | (with_reducible refine Kd.C_drewN ?_ _) | (with_reducible refine Kd.C_drew ?_))); (case side2 => exact HC0_0.out); (case side3 => repeat (first | exact (Kd.C_below HR0_1.out HB.out) | (with_reducible refine Kd.C_alloc ?_ _) | (with_reducible refine Kd.C_drewN ?_ _) | (with_reducible refine Kd.C_drew ?_))); (case side4 => exact HC0_1.out); rintro e w11 ⟨rfl, hb⟩; refine ⟨_, rfl, ?_⟩; have n0_ := Aside0.mk (blk_below (g := gb158) (o := .cells #[.slice A0_0 l0_0.length c0_0, .slice A0_1 l0_1.length c0_1] 25 (0, 0)) (by (with_reducible repeat (first | refine blk_drewN ?_ _ | refine blk_drew ?_ | refine blk_alloc ?_ _)); exact BK158.out) hb); have n1_ := Aside0.mk (below_step (by repeat (first | (with_reducible first | exact HB.out | apply below_alloc | apply pw_below_drewN | apply below_drew1 | refine below_set ?_ GE158.out) | exact HB.out)) hb); clear BK158; clear HB; have BK158 := n0_; have HB := n1_; clear n0_ n1_; (try clear hb); (try clear hb2); (try clear hk); (try clear hi)))
          go_roundg k1
          case measure => have := HK1.out; omega
          case rel => exact ⟨(ji6), (wrap64 (x8_1 + 1)), (by first | rfl | (simp; done) | (simp only [← hji6] <;> (first | rfl | simp)) | (simp [*]; done)), (by first | rfl | (simp; done) | (simp [*]; done)), H', ⟨by have := HK1.out; omega⟩, ⟨by (with_reducible repeat (first | refine blk_drewN ?_ _ | refine blk_drew ?_ | refine blk_alloc ?_ _)); exact BK158.out⟩, ⟨by repeat (first | (with_reducible first | exact HB.out | apply below_alloc | apply pw_below_drewN | apply below_drew1 | refine below_set ?_ GE158.out) | exact HB.out)⟩⟩
      · rw [if_neg c4] at H
        have c4b0 : decide (x8_1 < (l0_1.length : Int)) = false := decide_eq_false c4
        clear c4
        obtain rfl := Option.some.inj H
        go_wp2
        go_ret
        exact ⟨by first | rfl | (simp [errW_none, errW_some] <;> rfl) | (simp [*, errW_none, errW_some] <;> rfl), by repeat (first | (with_reducible first | exact HB.out | apply below_alloc | apply pw_below_drewN | apply below_drew1 | refine below_set ?_ GE158.out) | exact HB.out)⟩

end Go.Proofs.Ytbpolpagcaacoaa.P
