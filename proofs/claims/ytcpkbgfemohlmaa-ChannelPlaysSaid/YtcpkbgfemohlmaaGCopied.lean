/- channel.copied: the channel with its items in memory of the call's own. The frame is what the printer gives for the text without its 'copy'; the copy is walked by KCopy. -/
import Derived.Test.YtcpkbgfemohlmaaKCopy
namespace Go.Proofs.Ytcpkbgfemohlmaa.P
open Go.RowKit Go.Proofs.YtcpkbgfemohlmaaW.PrintWords Go.Proofs.YtcpkbgfemohlmaaW.PrintLast Go.Proofs.YtcpkbgfemohlmaaW.PrintMore
attribute [local go_sem] max2_int min2_int max_two min_two max_three min_three max_four min_four
set_option linter.unusedVariables false
set_option linter.unusedSimpArgs false
/-! ### channel_copied: function 22 -/
def channel_copied.l0 : Nat → List (List Int) → Int → Int → Int → List (List Int) → Option (Int × (List (List Int)))
  | 0, _, _, _, _, _ => none
  | k + 1, x11, x12, x13, x108000, x108001 => if x13 < x12 then (if 0 ≤ x13 then (if x13 < (x11.length : Int) then (if 0 ≤ ((rd_L1 x11 x13).length : Int) then (if (((rd_L1 x11 x13).length : Int) : Int).toNat ≤ 35184372088832 then (if x108001.length < 5864062014805 then (channel_copied.l0 k x11 x12 (wrap64 (x13 + 1)) x108000 (x108001 ++ [rd_L1 x11 x13])) else (none)) else (none)) else (none)) else (none)) else (none)) else (some (x108000, x108001))
def channel_copied.f (k : Nat) (a0_0 : Int) (l0_1 : List (List Int)) : Option (Int × (List (List Int))) := channel_copied.l0 k l0_1 (l0_1.length : Int) 0 a0_0 ([] : List (List Int))
theorem channel_copied.mono_l : ∀ k, (∀ y0 y1 y2 y3 y4, LeO (channel_copied.l0 k y0 y1 y2 y3 y4) (channel_copied.l0 (k + 1) y0 y1 y2 y3 y4))
  | 0 => fun _ _ _ _ _ r h => by simp [channel_copied.l0] at h
  | k + 1 => by
    have ih0 := channel_copied.mono_l k
    · intro y0 y1 y2 y3 y4
      unfold channel_copied.l0
      repeat' first
      | (with_reducible exact ih0 _ _ _ _ _)
      | (with_reducible exact LeO.refl _)
      | (with_reducible exact LeO.none _)
      | (with_reducible refine LeO.ite ?_ ?_)
      | (with_reducible refine LeO.bind ?_ (fun _ => ?_))
      | exact ih0 _ _ _ _ _
      | exact LeO.none _
      | refine LeO.ite ?_ ?_
      | refine LeO.bind ?_ (fun _ => ?_)
theorem channel_copied.mono : ∀ a0 a1 k, LeO (channel_copied.f k a0 a1) (channel_copied.f (k + 1) a0 a1) := by
  intro a0 a1 k
  have ih0 := channel_copied.mono_l k
  unfold channel_copied.f
  repeat' first
      | (with_reducible exact ih0 _ _ _ _ _)
      | (with_reducible exact LeO.refl _)
      | (with_reducible exact LeO.none _)
      | (with_reducible refine LeO.ite ?_ ?_)
      | (with_reducible refine LeO.bind ?_ (fun _ => ?_))
      | exact ih0 _ _ _ _ _
      | exact LeO.none _
      | refine LeO.ite ?_ ?_
      | refine LeO.bind ?_ (fun _ => ?_)
set_option maxHeartbeats 8000000 in
set_option maxRecDepth 100000 in
theorem channel_copied.calls (k : Nat) (a0_0 : Int) (A0_1 : Option Addr) (c0_1 : Nat) (l0_1 : List (List Int)) (r1 : Int) (r2 : List (List Int)) (w : World) (hr0_1 : Kd.C (Kd.slice 3 (Kd.int .i64)) w A0_1 l0_1.length l0_1) (hc0_1 : l0_1.length ≤ c0_1) (h : channel_copied.f k a0_0 l0_1 = some (r1, r2)) :
    Calls Try.prog 22 #[.agg #[.int .i64 a0_0, .slice A0_1 l0_1.length c0_1]] w fun e w' => ∃ v1_ : Value, e = .returned (.agg #[.int .i64 r1, v1_]) ∧ Kd.S (Kd.slice 3 (Kd.int .i64)) 25 w' w.heap.size (fun _ => True) v1_ r2 ∧ Below w.heap.size w w' := by
  have hu24 := Try.underlying24
  have HR0_1 := Aside0.mk hr0_1
  have HC0_1 := Aside0.mk hc0_1
  clear hr0_1 hc0_1
  have HB := Aside0.mk (Below.refl w.heap.size w)
  have H : (channel_copied.l0 k l0_1 (l0_1.length : Int) 0 a0_0 ([] : List (List Int))) = some (r1, r2) := h
  clear h
  have H' := Aside0.mk H
  clear H
  go_enter Try.func22, Try.ntmps22
  go_wp2_with (first | ((with_reducible refine gate_dst (N := 1) rfl ?_); refine box_event ?hg (N := 1) ?hd (cs := #[.int .i64 a0_0, .slice A0_1 l0_1.length c0_1]) (t := 24) ?hr ?_; (case hd => rfl); (case hg => rfl); (case hr => first | (go_simp; done) | (go_simp; rfl)); intro gb105 hg w2 hbox hb; have n0_ := Aside0.mk (below_step (by repeat (first | (with_reducible first | exact HB.out | apply below_alloc | apply pw_below_drewN | apply below_drew1) | exact HB.out)) hb); have n1_ := Aside0.mk (hbox); have n2_ := Aside0.mk ((by rw [hg]; exact (below_size (by repeat (first | (with_reducible first | exact HB.out | apply below_alloc | apply pw_below_drewN | apply below_drew1) | exact HB.out))) : w.heap.size ≤ gb105)); have n3_ := Aside0.mk ((by rw [hg]; exact (below_size (by repeat (first | (with_reducible first | exact HB.out | apply below_alloc | apply pw_below_drewN | apply below_drew1) | exact HB.out))) : w.heap.size ≤ gb105)); clear HB; have HB := n0_; have BK105 := n1_; have GW105 := n2_; have GE105 := n3_; clear n0_ n1_ n2_ n3_; clear hb hbox hg) | ((with_reducible refine gate_dst (N := 2) rfl ?_); refine box_event ?hg (N := 2) ?hd (cs := #[.int .i64 0, .slice none 0 0]) (t := 24) ?hr ?_; (case hd => rfl); (case hg => rfl); (case hr => first | (go_simp; done) | (go_simp; rfl)); intro gb106 hg w3 hbox hb; have n0_ := Aside0.mk (blk_below (g := gb105) (o := .cells #[.int .i64 a0_0, .slice A0_1 l0_1.length c0_1] 24 (0, 0)) (by (with_reducible repeat (first | refine blk_drewN ?_ _ | refine blk_drew ?_ | refine blk_alloc ?_ _)); exact BK105.out) hb); have n1_ := Aside0.mk (below_step (by repeat (first | (with_reducible first | exact HB.out | apply below_alloc | apply pw_below_drewN | apply below_drew1 | refine below_set ?_ GE105.out) | exact HB.out)) hb); have n2_ := Aside0.mk (hbox); have n3_ := Aside0.mk ((by rw [hg]; exact (below_size (by repeat (first | (with_reducible first | exact HB.out | apply below_alloc | apply pw_below_drewN | apply below_drew1 | refine below_set ?_ GE105.out) | exact HB.out))) : w.heap.size ≤ gb106)); have n4_ := Aside0.mk ((by rw [hg]; exact (below_size (by repeat (first | (with_reducible first | exact HB.out | apply below_alloc | apply pw_below_drewN | apply below_drew1 | refine below_set ?_ GE105.out) | exact HB.out))) : w.heap.size ≤ gb106)); have n5_ := Aside0.mk ((by rw [hg]; exact Nat.ne_of_lt (blk_lt (g := gb105) (o := .cells #[.int .i64 a0_0, .slice A0_1 l0_1.length c0_1] 24 (0, 0)) (by (with_reducible repeat (first | refine blk_drewN ?_ _ | refine blk_drew ?_ | refine blk_alloc ?_ _)); exact BK105.out)) : gb105 ≠ gb106)); have n6_ := Aside0.mk ((by rw [hg]; exact Nat.ne_of_gt (blk_lt (g := gb105) (o := .cells #[.int .i64 a0_0, .slice A0_1 l0_1.length c0_1] 24 (0, 0)) (by (with_reducible repeat (first | refine blk_drewN ?_ _ | refine blk_drew ?_ | refine blk_alloc ?_ _)); exact BK105.out)) : gb106 ≠ gb105)); clear BK105; clear HB; have BK105 := n0_; have HB := n1_; have BK106 := n2_; have GW106 := n3_; have GE106 := n4_; have NB105_106 := n5_; have NB106_105 := n6_; clear n0_ n1_ n2_ n3_ n4_ n5_ n6_; clear hb hbox hg; have hnb4 := NB105_106.out; have hnc4 := NB106_105.out; have hcz5_0 : w3.cell? ⟨gb105, 0, none⟩ = some (.int .i64 a0_0) := (blk_cell BK105.out 0).trans rfl; have hcz5_1 : w3.cell? ⟨gb105, 1, none⟩ = some (.slice A0_1 l0_1.length c0_1) := (blk_cell BK105.out 1).trans rfl; have hfz5_0 := blk_frozen BK105.out 0; have hfz5_1 := blk_frozen BK105.out 1) | ((with_reducible refine gate_dst (N := 3) rfl ?_); refine box_event ?hg (N := 3) ?hd (cs := #[.int .i64 0, .slice none 0 0]) (t := 24) ?hr ?_; (case hd => rfl); (case hg => rfl); (case hr => first | (go_simp; done) | (go_simp; rfl)); intro gb107 hg w6 hbox hb; have n0_ := Aside0.mk (blk_below (g := gb105) (o := .cells #[.int .i64 a0_0, .slice A0_1 l0_1.length c0_1] 24 (0, 0)) (by (with_reducible repeat (first | refine blk_drewN ?_ _ | refine blk_drew ?_ | refine blk_alloc ?_ _)); exact BK105.out) hb); have n1_ := Aside0.mk (blk_below (g := gb106) (o := .cells #[.int .i64 0, .slice none 0 0] 24 (0, 0)) (by (with_reducible repeat (first | refine blk_drewN ?_ _ | refine blk_drew ?_ | refine blk_alloc ?_ _)); exact BK106.out) hb); have n2_ := Aside0.mk (below_step (by repeat (first | (with_reducible first | exact HB.out | apply below_alloc | apply pw_below_drewN | apply below_drew1 | refine below_set ?_ GE105.out | refine below_set ?_ GE106.out) | exact HB.out)) hb); have n3_ := Aside0.mk (hbox); have n4_ := Aside0.mk ((by rw [hg]; exact (below_size (by repeat (first | (with_reducible first | exact HB.out | apply below_alloc | apply pw_below_drewN | apply below_drew1 | refine below_set ?_ GE105.out | refine below_set ?_ GE106.out) | exact HB.out))) : w.heap.size ≤ gb107)); have n5_ := Aside0.mk ((by rw [hg]; exact (below_size (by repeat (first | (with_reducible first | exact HB.out | apply below_alloc | apply pw_below_drewN | apply below_drew1 | refine below_set ?_ GE105.out | refine below_set ?_ GE106.out) | exact HB.out))) : w.heap.size ≤ gb107)); have n6_ := Aside0.mk ((by rw [hg]; exact Nat.ne_of_lt (blk_lt (g := gb105) (o := .cells #[.int .i64 a0_0, .slice A0_1 l0_1.length c0_1] 24 (0, 0)) (by (with_reducible repeat (first | refine blk_drewN ?_ _ | refine blk_drew ?_ | refine blk_alloc ?_ _)); exact BK105.out)) : gb105 ≠ gb107)); have n7_ := Aside0.mk ((by rw [hg]; exact Nat.ne_of_gt (blk_lt (g := gb105) (o := .cells #[.int .i64 a0_0, .slice A0_1 l0_1.length c0_1] 24 (0, 0)) (by (with_reducible repeat (first | refine blk_drewN ?_ _ | refine blk_drew ?_ | refine blk_alloc ?_ _)); exact BK105.out)) : gb107 ≠ gb105)); have n8_ := Aside0.mk ((by rw [hg]; exact Nat.ne_of_lt (blk_lt (g := gb106) (o := .cells #[.int .i64 0, .slice none 0 0] 24 (0, 0)) (by (with_reducible repeat (first | refine blk_drewN ?_ _ | refine blk_drew ?_ | refine blk_alloc ?_ _)); exact BK106.out)) : gb106 ≠ gb107)); have n9_ := Aside0.mk ((by rw [hg]; exact Nat.ne_of_gt (blk_lt (g := gb106) (o := .cells #[.int .i64 0, .slice none 0 0] 24 (0, 0)) (by (with_reducible repeat (first | refine blk_drewN ?_ _ | refine blk_drew ?_ | refine blk_alloc ?_ _)); exact BK106.out)) : gb107 ≠ gb106)); clear BK105; clear BK106; clear HB; have BK105 := n0_; have BK106 := n1_; have HB := n2_; have BK107 := n3_; have GW107 := n4_; have GE107 := n5_; have NB105_107 := n6_; have NB107_105 := n7_; have NB106_107 := n8_; have NB107_106 := n9_; clear n0_ n1_ n2_ n3_ n4_ n5_ n6_ n7_ n8_ n9_; clear hb hbox hg; have hnb7 := NB107_105.out; have hnc7 := NB105_107.out; have hnb8 := NB107_106.out; have hnc8 := NB106_107.out; have hcz9_0 : w6.cell? ⟨gb107, 0, none⟩ = some (.int .i64 0) := (blk_cell BK107.out 0).trans rfl; have hcz9_1 : w6.cell? ⟨gb107, 1, none⟩ = some (.slice none 0 0) := (blk_cell BK107.out 1).trans rfl; have hfz9_0 := blk_frozen BK107.out 0; have hfz9_1 := blk_frozen BK107.out 1; have hcz10_0 : w6.cell? ⟨gb105, 0, none⟩ = some (.int .i64 a0_0) := (blk_cell BK105.out 0).trans rfl; have hcz10_1 : w6.cell? ⟨gb105, 1, none⟩ = some (.slice A0_1 l0_1.length c0_1) := (blk_cell BK105.out 1).trans rfl; have hfz10_0 := blk_frozen BK105.out 0; have hfz10_1 := blk_frozen BK105.out 1))
  go_loopg [13] k (fun kq v13 w' => ∃ (x13_1 : Int) (x108001_1 : List (List Int)) (u108001 : Value), v13 = .int .i64 x13_1 ∧ Aside0 (channel_copied.l0 kq l0_1 (l0_1.length : Int) x13_1 a0_0 x108001_1 = some (r1, r2)) ∧ Aside0 (kq ≤ k) ∧ Aside0 (Kd.S (Kd.slice 3 (Kd.int .i64)) 25 w' w.heap.size (fun _ => True) u108001 x108001_1) ∧ Aside0 (w'.heap[gb105]? = some (.cells #[.int .i64 a0_0, (.slice A0_1 l0_1.length c0_1)] 24 (0, 0))) ∧ Aside0 (w'.heap[gb106]? = some (.cells #[.int .i64 0, (.slice none 0 0)] 24 (0, 0))) ∧ Aside0 (w'.heap[gb107]? = some (.cells #[.int .i64 a0_0, u108001] 24 (0, 0))) ∧ Aside0 (Below w.heap.size w w'))
  case atStart => exact ⟨(0), (([] : List (List Int))), (.slice none 0 0), (by first | rfl | (simp; done) | (simp [*]; done)), H', ⟨Nat.le_refl _⟩, ⟨by first | exact Kd.S_nil _ _ _ _ _ | exact Kd.N_nil _ _ _ _ _ | exact Kd.V_nil _ _ _ _ _ | exact Kd.Q_nil _ _ _ _ _ | exact Kd.R_nil _ _ _ _ _⟩, ⟨by (with_reducible repeat (first | refine blk_drewN ?_ _ | refine blk_drew ?_ | refine blk_alloc ?_ _)); refine blk_far ?_ NB105_107.out _; (with_reducible repeat (first | refine blk_drewN ?_ _ | refine blk_drew ?_ | refine blk_alloc ?_ _)); refine blk_far ?_ NB105_107.out _; (with_reducible repeat (first | refine blk_drewN ?_ _ | refine blk_drew ?_ | refine blk_alloc ?_ _)); exact BK105.out⟩, ⟨by (with_reducible repeat (first | refine blk_drewN ?_ _ | refine blk_drew ?_ | refine blk_alloc ?_ _)); refine blk_far ?_ NB106_107.out _; (with_reducible repeat (first | refine blk_drewN ?_ _ | refine blk_drew ?_ | refine blk_alloc ?_ _)); refine blk_far ?_ NB106_107.out _; (with_reducible repeat (first | refine blk_drewN ?_ _ | refine blk_drew ?_ | refine blk_alloc ?_ _)); exact BK106.out⟩, ⟨by (with_reducible repeat (first | refine blk_drewN ?_ _ | refine blk_drew ?_ | refine blk_alloc ?_ _)); refine blk_put (cs := #[.int .i64 a0_0, .slice none 0 0]) ?_ 1 _ rfl; (with_reducible repeat (first | refine blk_drewN ?_ _ | refine blk_drew ?_ | refine blk_alloc ?_ _)); refine blk_put (cs := #[.int .i64 0, .slice none 0 0]) ?_ 0 _ rfl; (with_reducible repeat (first | refine blk_drewN ?_ _ | refine blk_drew ?_ | refine blk_alloc ?_ _)); exact BK107.out⟩, ⟨by repeat (first | (with_reducible first | exact HB.out | apply below_alloc | apply pw_below_drewN | apply below_drew1 | refine below_set ?_ GE105.out | refine below_set ?_ GE106.out | refine below_set ?_ GE107.out) | exact HB.out)⟩⟩
  case round =>
    clear H'
    try clear c2
    try clear p2
    try clear c4
    try clear c7
    try clear c8
    try clear hcz10_0
    try clear hcz10_1
    try clear hcz5_0
    try clear hcz5_1
    try clear hcz9_0
    try clear hcz9_1
    try clear hfz10_0
    try clear hfz10_1
    try clear hfz5_0
    try clear hfz5_1
    try clear hfz9_0
    try clear hfz9_1
    obtain ⟨x13_1, x108001_1, u108001, rfl, HA, HK1, HO_108001, BK105, BK106, BK107, HB⟩ := hrel
    cases gk with
    | zero => exact absurd HA.out (by simp [channel_copied.l0])
    | succ k1 =>
      have H := HA.out
      clear HA
      simp only [channel_copied.l0] at H
      by_cases c11 : x13_1 < (l0_1.length : Int)
      · rw [if_pos c11] at H
        have c11b0 : decide (x13_1 < (l0_1.length : Int)) = true := decide_eq_true c11
        clear c11
        by_cases c12 : 0 ≤ x13_1
        · rw [if_pos c12] at H
          have c12b0 : decide (0 ≤ x13_1) = true := decide_eq_true c12
          clear c12
          by_cases c13 : x13_1 < (l0_1.length : Int)
          · rw [if_pos c13] at H
            have c13b0 : decide (x13_1 < (l0_1.length : Int)) = true := decide_eq_true c13
            clear c13
            by_cases c14 : 0 ≤ ((rd_L1 l0_1 x13_1).length : Int)
            · rw [if_pos c14] at H
              have c14b0 := eq_true c14
              have c14b1 : decide (0 ≤ ((rd_L1 l0_1 x13_1).length : Int)) = true := decide_eq_true c14
              clear c14
              by_cases c15 : (((rd_L1 l0_1 x13_1).length : Int) : Int).toNat ≤ 35184372088832
              · rw [if_pos c15] at H
                have c15b0 := eq_true c15
                have c15b1 : decide ((((rd_L1 l0_1 x13_1).length : Int) : Int).toNat ≤ 35184372088832) = true := decide_eq_true c15
                clear c15
                obtain ⟨y109, hy109⟩ : ∃ y_ : List Int, y_ = (List.replicate (((rd_L1 l0_1 x13_1).length : Int) : Int).toNat 0) := ⟨_, rfl⟩
                obtain ⟨y110, hy110⟩ : ∃ y_ : List Int, y_ = rd_L1 l0_1 x13_1 := ⟨_, rfl⟩
                replace H : (if x108001_1.length < 5864062014805 then (channel_copied.l0 k1 l0_1 (l0_1.length : Int) (wrap64 (x13_1 + 1)) a0_0 (x108001_1 ++ [y110])) else (none)) = some (r1, r2) := by rw [hy110]; exact H
                have Ny110 := Aside0.mk hy110
                have HLY := Aside0.mk (show y109.length = y110.length by rw [hy109, hy110, List.length_replicate, Int.toNat_natCast])
                clear hy110
                have Ny109 := Aside0.mk hy109
                clear hy109
                by_cases c16 : x108001_1.length < 5864062014805
                · rw [if_pos c16] at H
                  have LMc16 := Aside0.mk c16
                  clear c16
                  obtain ⟨y112, hy112⟩ : ∃ y_ : List (List Int), y_ = (x108001_1 ++ [y110]) := ⟨_, rfl⟩
                  replace H : (channel_copied.l0 k1 l0_1 (l0_1.length : Int) (wrap64 (x13_1 + 1)) a0_0 y112) = some (r1, r2) := by first | (rw [hy112]; with_reducible exact H) | (have H2_ := (Option.bind_some _ _).symm.trans H; rw [hy112]; with_reducible exact H2_) | (have H2_ := (Option.bind_some _ _).symm.trans H; with_reducible exact H2_) | with_reducible exact H | (rw [hy112]; exact H) | exact H
                  have Ny112 := Aside0.mk hy112
                  clear hy112
                  have H' := Aside0.mk H
                  clear H
                  have p108 : 0 ≤ (x13_1 : Int) := of_decide_eq_true (by first | (with_reducible assumption) | assumption)
                  have q108 : x13_1 < (l0_1.length : Int) := of_decide_eq_true (by first | (with_reducible assumption) | assumption)
                  obtain ⟨ad108, A108_0, c108_0, e108, hx108_0, hl108_0, hi108_0⟩ := at_L1 HR0_1.out x13_1 p108 q108
                  cases e108
                  replace hx108_0 := (HB.out.cell (World.block_lt_of_cell? w _ hx108_0)).trans hx108_0
                  have HR108_0 := Aside0.mk hi108_0
                  have HC108_0 := Aside0.mk hl108_0
                  clear hi108_0 hl108_0
                  replace p108 := eq_true p108
                  replace q108 := eq_true q108
                  go_wp2_with (first | ((with_reducible refine gate_dst (N := 19) rfl ?_); refine Kd.R_make (Kd.int .i64) _ 3 rfl (N := 19) rfl 25 _ _ rfl ((rd_L1 l0_1 x13_1).length : Int) rfl rfl Try.underlying25 (.int .i64 0) 8 info3 rfl (by decide) (by omega) 0 (ok := fun _ => True) (okp := fun _ => True) rfl (fun _ hk => hk) trivial (of_decide_eq_true (by first | (with_reducible assumption) | assumption)) (Nat.le_trans (Nat.mul_le_mul_right _ (of_decide_eq_true (by first | (with_reducible assumption) | assumption) : ((rd_L1 l0_1 x13_1).length : Int).toNat ≤ 35184372088832)) (by omega)) (Below.refl _ _) (Nat.le_refl _) ?_; intro v110 w17 ho18 hb hg_ hnew_; clear hg_ hnew_; (first | rw [← Ny109.out] at ho18 | (simp only [Int.reduceToNat] at ho18; rw [← Ny109.out] at ho18)); have n0_ := Aside0.mk (Kd.S_elder' (by (with_reducible repeat (first | apply Kd.S_alloc | apply Kd.S_drewN | apply Kd.S_drew)); exact HO_108001.out) (Kd.R_base ho18) hb); have n1_ := Aside0.mk (Kd.R_lower ho18 (below_size (by repeat (first | (with_reducible first | exact HB.out | apply below_alloc | apply pw_below_drewN | apply below_drew1 | refine below_set ?_ GE105.out | refine below_set ?_ GE106.out | refine below_set ?_ GE107.out) | exact HB.out)))); have n2_ := Aside0.mk (blk_below (g := gb105) (o := .cells #[.int .i64 a0_0, .slice (some ad108) l0_1.length c0_1] 24 (0, 0)) (by (with_reducible repeat (first | refine blk_drewN ?_ _ | refine blk_drew ?_ | refine blk_alloc ?_ _)); exact BK105.out) hb); have n3_ := Aside0.mk (blk_below (g := gb106) (o := .cells #[.int .i64 0, .slice none 0 0] 24 (0, 0)) (by (with_reducible repeat (first | refine blk_drewN ?_ _ | refine blk_drew ?_ | refine blk_alloc ?_ _)); exact BK106.out) hb); have n4_ := Aside0.mk (blk_below (g := gb107) (o := .cells #[.int .i64 a0_0, u108001] 24 (0, 0)) (by (with_reducible repeat (first | refine blk_drewN ?_ _ | refine blk_drew ?_ | refine blk_alloc ?_ _)); exact BK107.out) hb); have n5_ := Aside0.mk (below_step (by repeat (first | (with_reducible first | exact HB.out | apply below_alloc | apply pw_below_drewN | apply below_drew1 | refine below_set ?_ GE105.out | refine below_set ?_ GE106.out | refine below_set ?_ GE107.out) | exact HB.out)) hb); clear HO_108001; clear BK105; clear BK106; clear BK107; clear HB; have HO_108001 := n0_; have HO111 := n1_; have BK105 := n2_; have BK106 := n3_; have BK107 := n4_; have HB := n5_; clear n0_ n1_ n2_ n3_ n4_ n5_; clear hb ho18; have hnb19 := NB107_105.out; have hnc19 := NB105_107.out; have hnb20 := NB107_106.out; have hnc20 := NB106_107.out; have hcz21_0 : w17.cell? ⟨gb107, 0, none⟩ = some (.int .i64 a0_0) := (blk_cell BK107.out 0).trans rfl; have hcz21_1 : w17.cell? ⟨gb107, 1, none⟩ = some (u108001) := (blk_cell BK107.out 1).trans rfl; have hfz21_0 := blk_frozen BK107.out 0; have hfz21_1 := blk_frozen BK107.out 1; obtain ⟨Ao23, co23, eo23⟩ := Kd.R_slice HO111.out; subst eo23) | ((with_reducible refine gate_builtin (b := .copy) (xs := #[.tmp 20, .tmp 21]) rfl ?_); refine R_copy (by rfl) (.tmp 20) (.tmp 21) 25 3 (by rfl) Try.underlying25 info3s (A := Ao23) (B := A108_0) (n := y109.length) (c := co23) (m := (rd_L1 l0_1 x13_1).length) (sc := c108_0) (xs := y109) (ys := y110) (by rfl) (by rfl) HO111.out (copy_src Ny110.out (Kd.C_below HR108_0.out HB.out)) (copy_len Ny110.out) HLY.out ?_; intro w18 ho hg; have n0_ := Aside0.mk (blk_grown (g := gb105) (o := .cells #[.int .i64 a0_0, .slice (some ad108) l0_1.length c0_1] 24 (0, 0)) BK105.out hg (Kd.R_ne HO111.out BK105.out (by decide))); have n1_ := Aside0.mk (blk_grown (g := gb106) (o := .cells #[.int .i64 0, .slice none 0 0] 24 (0, 0)) BK106.out hg (Kd.R_ne HO111.out BK106.out (by decide))); have n2_ := Aside0.mk (blk_grown (g := gb107) (o := .cells #[.int .i64 a0_0, u108001] 24 (0, 0)) BK107.out hg (Kd.R_ne HO111.out BK107.out (by decide))); have n3_ := Aside0.mk (Below.grown HB.out hg (below_size HB.out) (Kd.R_base HO111.out)); have n4_ := Aside0.mk (Kd.S_grown HO_108001.out hg (fun k hk => hk.2)); have n5_ := Aside0.mk ho; clear HO_108001 HO111 BK105 BK106 BK107 HB; have BK105 := n0_; have BK106 := n1_; have BK107 := n2_; have HB := n3_; have HO_108001 := n4_; have HO111 := n5_; clear n0_ n1_ n2_ n3_ n4_ n5_; clear ho hg; have hcz22_0 : w18.cell? ⟨gb107, 0, none⟩ = some (.int .i64 a0_0) := (blk_cell BK107.out 0).trans rfl; have hcz22_1 : w18.cell? ⟨gb107, 1, none⟩ = some (u108001) := (blk_cell BK107.out 1).trans rfl; have hfz22_0 := blk_frozen BK107.out 0; have hfz22_1 := blk_frozen BK107.out 1) | ((with_reducible refine gate_builtin (b := .append) (xs := #[.tmp 24, .tmp 26]) rfl ?_); at_builtin; refine Kd.S_append (Kd.slice 3 (Kd.int .i64)) (w0 := w) w.heap.size rfl (.tmp 24) (.tmp 26) 22 25 (.slice none 0 0) 24 rfl Try.underlying22 info25 rfl (by decide) (by omega) u108001 x108001_1 y110 [.slice Ao23 y109.length co23] (fun _ => True) (fun k_ => some k_ = (.slice Ao23 y109.length co23 : Value).ownBlock) rfl rfl ?aP (fun k_ hk_ => ((Kd.R_mono (ok' := fun k_ => ((fun _ => True)) k_ ∧ some k_ ≠ (u108001 : Value).ownBlock) (Kd.R_apart' (HO111.out) (Kd.S_typed HO_108001.out) (by decide)) (fun k_ hk => ⟨trivial, hk.2⟩))).1 k_ hk_.symm) ?aF ?aO ?aB ?aS ?aL ?_; (case aP => exact Kd.M_row (Kd.R_mono (Kd.R_tight rfl (Kd.R_mono (ok' := fun k_ => ((fun _ => True)) k_ ∧ some k_ ≠ (u108001 : Value).ownBlock) (Kd.R_apart' (HO111.out) (Kd.S_typed HO_108001.out) (by decide)) (fun k_ hk => ⟨trivial, hk.2⟩))) (fun _ h_ => h_))); (case aB => exact (by repeat (first | (with_reducible first | exact HB.out | apply below_alloc | apply pw_below_drewN | apply below_drew1 | refine below_set ?_ GE105.out | refine below_set ?_ GE106.out | refine below_set ?_ GE107.out) | exact HB.out))); (case aF => exact (fun _ _ => trivial)); (case aO => exact (by (with_reducible repeat (first | apply Kd.S_alloc | apply Kd.S_drewN | apply Kd.S_drew)); exact Kd.S_mono HO_108001.out (fun k_ hk => ⟨trivial, fun e_ => hk.2 e_⟩))); (case aS => exact (below_size (by repeat (first | (with_reducible first | exact HB.out | apply below_alloc | apply pw_below_drewN | apply below_drew1 | refine below_set ?_ GE105.out | refine below_set ?_ GE106.out | refine below_set ?_ GE107.out) | exact HB.out)))); (case aL => have := LMc16.out; omega); intro v113 w22 ho hb hg hat; rw [← Ny112.out] at ho; have n0_ := Aside0.mk (blk_grown (g := gb105) (o := .cells #[.int .i64 a0_0, .slice (some ad108) l0_1.length c0_1] 24 (0, 0)) (by (with_reducible repeat (first | refine blk_drewN ?_ _ | refine blk_drew ?_ | refine blk_alloc ?_ _)); exact BK105.out) hg (Kd.S_ne HO_108001.out BK105.out (by decide))); have n1_ := Aside0.mk (blk_grown (g := gb106) (o := .cells #[.int .i64 0, .slice none 0 0] 24 (0, 0)) (by (with_reducible repeat (first | refine blk_drewN ?_ _ | refine blk_drew ?_ | refine blk_alloc ?_ _)); exact BK106.out) hg (Kd.S_ne HO_108001.out BK106.out (by decide))); have n2_ := Aside0.mk (blk_grown (g := gb107) (o := .cells #[.int .i64 a0_0, u108001] 24 (0, 0)) (by (with_reducible repeat (first | refine blk_drewN ?_ _ | refine blk_drew ?_ | refine blk_alloc ?_ _)); exact BK107.out) hg (Kd.S_ne HO_108001.out BK107.out (by decide))); have n3_ := Aside0.mk (hb); have n4_ := Aside0.mk (ho); clear BK105; clear BK106; clear BK107; clear HB; clear HO_108001; clear HO111; have BK105 := n0_; have BK106 := n1_; have BK107 := n2_; have HB := n3_; have HO114 := n4_; clear n0_ n1_ n2_ n3_ n4_; clear ho hb hg hat; obtain ⟨Ao24, co24, eo24⟩ := Kd.S_slice HO114.out; subst eo24; have hcz25_0 : w22.cell? ⟨gb107, 0, none⟩ = some (.int .i64 a0_0) := (blk_cell BK107.out 0).trans rfl; have hcz25_1 : w22.cell? ⟨gb107, 1, none⟩ = some (u108001) := (blk_cell BK107.out 1).trans rfl; have hfz25_0 := blk_frozen BK107.out 0; have hfz25_1 := blk_frozen BK107.out 1))
                  go_roundg k1
                  case measure => have := HK1.out; omega
                  case rel => exact ⟨(wrap64 (x13_1 + 1)), (y112), (.slice Ao24 y112.length co24), (by first | rfl | (simp; done) | (simp [*]; done)), H', ⟨by have := HK1.out; omega⟩, ⟨by (with_reducible repeat (first | apply Kd.S_alloc | apply Kd.S_drewN | apply Kd.S_drew)); exact Kd.S_mono (Kd.S_far (p := ⟨gb107, 1, none⟩) (Kd.S_types HO114.out BK107.out (by decide)) (fun _ hk => hk.2) (.slice Ao24 y112.length co24)) (fun _ hk => trivial)⟩, ⟨by (with_reducible repeat (first | refine blk_drewN ?_ _ | refine blk_drew ?_ | refine blk_alloc ?_ _)); refine blk_far ?_ NB105_107.out _; (with_reducible repeat (first | refine blk_drewN ?_ _ | refine blk_drew ?_ | refine blk_alloc ?_ _)); exact BK105.out⟩, ⟨by (with_reducible repeat (first | refine blk_drewN ?_ _ | refine blk_drew ?_ | refine blk_alloc ?_ _)); refine blk_far ?_ NB106_107.out _; (with_reducible repeat (first | refine blk_drewN ?_ _ | refine blk_drew ?_ | refine blk_alloc ?_ _)); exact BK106.out⟩, ⟨by (with_reducible repeat (first | refine blk_drewN ?_ _ | refine blk_drew ?_ | refine blk_alloc ?_ _)); refine blk_put (cs := #[.int .i64 a0_0, u108001]) ?_ 1 _ rfl; (with_reducible repeat (first | refine blk_drewN ?_ _ | refine blk_drew ?_ | refine blk_alloc ?_ _)); exact BK107.out⟩, ⟨by repeat (first | (with_reducible first | exact HB.out | apply below_alloc | apply pw_below_drewN | apply below_drew1 | refine below_set ?_ GE105.out | refine below_set ?_ GE106.out | refine below_set ?_ GE107.out) | exact HB.out)⟩⟩
                · rw [if_neg c16] at H
                  exact absurd H (by simp)
              · rw [if_neg c15] at H
                exact absurd H (by simp)
            · rw [if_neg c14] at H
              exact absurd H (by simp)
          · rw [if_neg c13] at H
            exact absurd H (by simp)
        · rw [if_neg c12] at H
          exact absurd H (by simp)
      · rw [if_neg c11] at H
        have c11b0 : decide (x13_1 < (l0_1.length : Int)) = false := decide_eq_false c11
        clear c11
        simp only [Option.some.injEq, Prod.mk.injEq] at H
        obtain ⟨rfl, rfl⟩ := H
        have hnb26 := NB107_105.out
        have hnc26 := NB105_107.out
        have hnb27 := NB107_106.out
        have hnc27 := NB106_107.out
        have hcz28_0 : wr.cell? ⟨gb107, 0, none⟩ = some (.int .i64 a0_0) := (blk_cell BK107.out 0).trans rfl
        have hcz28_1 : wr.cell? ⟨gb107, 1, none⟩ = some (u108001) := (blk_cell BK107.out 1).trans rfl
        have hfz28_0 := blk_frozen BK107.out 0
        have hfz28_1 := blk_frozen BK107.out 1
        have hnb29 := NB106_105.out
        have hnc29 := NB105_106.out
        have hcz30_0 : wr.cell? ⟨gb106, 0, none⟩ = some (.int .i64 0) := (blk_cell BK106.out 0).trans rfl
        have hcz30_1 : wr.cell? ⟨gb106, 1, none⟩ = some (.slice none 0 0) := (blk_cell BK106.out 1).trans rfl
        have hfz30_0 := blk_frozen BK106.out 0
        have hfz30_1 := blk_frozen BK106.out 1
        obtain ⟨Ao31, co31, eo31⟩ := Kd.S_slice HO_108001.out
        subst eo31
        go_wp2
        refine bodyPost_ret (results_cell_row rfl _ _ gb106 24 #[.int .i64 a0_0, .slice Ao31 x108001_1.length co31] (0, 0) _ rfl (by (with_reducible repeat (first | refine blk_drewN ?_ _ | refine blk_drew ?_ | refine blk_alloc ?_ _)); refine blk_put (cs := #[.int .i64 a0_0, .slice none 0 0]) ?_ 1 _ rfl; (with_reducible repeat (first | refine blk_drewN ?_ _ | refine blk_drew ?_ | refine blk_alloc ?_ _)); refine blk_put (cs := #[.int .i64 0, .slice none 0 0]) ?_ 0 _ rfl; (with_reducible repeat (first | refine blk_drewN ?_ _ | refine blk_drew ?_ | refine blk_alloc ?_ _)); exact BK106.out) Try.underlying24 rfl (by kernel_rfl)) rfl ?_
        exact ⟨_, by first | rfl | (simp [errW_none, errW_some] <;> rfl) | (simp [*, errW_none, errW_some] <;> rfl), by (with_reducible repeat (first | apply Kd.S_alloc | apply Kd.S_drewN | apply Kd.S_drew)); exact Kd.S_mono (Kd.S_far (p := ⟨gb106, 1, none⟩) (Kd.S_far (p := ⟨gb106, 0, none⟩) (Kd.S_types HO_108001.out BK106.out (by decide)) (fun _ hk => hk.2) (.int .i64 a0_0)) (fun _ hk => hk.2) (.slice Ao31 x108001_1.length co31)) (fun _ hk => trivial), by repeat (first | (with_reducible first | exact HB.out | apply below_alloc | apply pw_below_drewN | apply below_drew1 | refine below_set ?_ GE105.out | refine below_set ?_ GE106.out | refine below_set ?_ GE107.out) | exact HB.out)⟩


end Go.Proofs.Ytcpkbgfemohlmaa.P
