-- By a program of this session (wip/tools/myprint.py over the kit's printer). Not trusted: Lean checks it.
import Derived.Test.YtcpkbgfemohlmaaP0
import Derived.Test.YtcpkbgfemohlmaaP2
import Derived.Test.YtcpkbgfemohlmaaP3
namespace Go.Proofs.Ytcpkbgfemohlmaa.P
open Go.RowKit Go.Proofs.YtcpkbgfemohlmaaW.PrintWords Go.Proofs.YtcpkbgfemohlmaaW.PrintLast Go.Proofs.YtcpkbgfemohlmaaW.PrintMore
attribute [local go_sem] max2_int min2_int max_two min_two max_three min_three max_four min_four   -- for this text's walks alone
set_option linter.unusedVariables false
set_option linter.unusedSimpArgs false

/-! ### selfstablaw41_ChannelOrder: function 5 -/
mutual
def selfstablaw41_ChannelOrder.l0 : Nat → Int → List (S45) → List (S38) → Int → Int → Option (Bool)
  | 0, _, _, _, _, _ => none
  | k + 1, x0, x1, x5, x6, x7 => if x7 < (x1.length : Int) then (selfstablaw41_ChannelOrder.j1 k x0 x1 x5 x6 x7 (decide (x7 < 150))) else (selfstablaw41_ChannelOrder.j1 k x0 x1 x5 x6 x7 false)
def selfstablaw41_ChannelOrder.j1 : Nat → Int → List (S45) → List (S38) → Int → Int → Bool → Option (Bool)
  | 0, _, _, _, _, _, _ => none
  | k + 1, x0, x1, x5, x6, x7, x27 => if x27 = true then (if 0 ≤ x7 then (if x7 < (x1.length : Int) then (if (wrap64 (1 + (Int.tmod (wrap64 ((Int.tmod ((rd_T45 x1 x7).f0) 3) + 3)) 3))) = 1 then (if x5.length < 3518437208883 then (selfstablaw41_ChannelOrder.l0 k x0 x1 (x5 ++ [(⟨wrap64 (1 + (Int.tmod (wrap64 ((Int.tmod ((rd_T45 x1 x7).f0) 3) + 3)) 3)), Int.tmod ((rd_T45 x1 x7).f1) 10, (([x6] : List Int))⟩ : S38)]) (wrap64 (x6 + 1)) (wrap64 (x7 + 1))) else (none)) else (if x5.length < 3518437208883 then (selfstablaw41_ChannelOrder.l0 k x0 x1 (x5 ++ [(⟨wrap64 (1 + (Int.tmod (wrap64 ((Int.tmod ((rd_T45 x1 x7).f0) 3) + 3)) 3)), Int.tmod ((rd_T45 x1 x7).f1) 10, ([] : List Int)⟩ : S38)]) x6 (wrap64 (x7 + 1))) else (none))) else (none)) else (none)) else ((channel_Play.f k x0 ([] : List (List Int)) x5).bind fun bt365 => ((some (([] : List (List Int)) : List (List Int))).bind fun y374 => (if y374.length + bt365.2.2.1.length < 5864062014805 then ((some (y374 ++ bt365.2.2.1 : List (List Int))).bind fun y377 => (if y377.length + bt365.2.1.length < 5864062014805 then (selfstablaw41_ChannelOrder.l1 k x0 x6 bt365.2.2.2 (y377 ++ bt365.2.1) (-1) 0 bt365.1 bt365.2.1) else (none))) else (none))))
def selfstablaw41_ChannelOrder.l1 : Nat → Int → Int → Int → List (List Int) → Int → Int → Int → List (List Int) → Option (Bool)
  | 0, _, _, _, _, _, _, _, _ => none
  | k + 1, x0, x6, x11, x12, x13, x14, x374000, x374001 => if x14 < (x12.length : Int) then (if 0 ≤ x14 then (if ((rd_L1 x12 x14).length : Int) = 1 then (if 0 < ((rd_L1 x12 x14).length : Int) then (if (rd (rd_L1 x12 x14) 0) ≤ x13 then (none) else (selfstablaw41_ChannelOrder.l1 k x0 x6 x11 x12 (rd (rd_L1 x12 x14) 0) (wrap64 (x14 + 1)) x374000 x374001)) else (none)) else (none)) else (none)) else ((selfstablaw41_known.f k).bind fun t388 => (if t388 = true then (if (wrap64 ((x12.length : Int) + x11)) = x6 then (if x13 < x6 then (some (decide ((x374001.length : Int) ≤ x0))) else (none)) else (none)) else (none)))
end
def selfstablaw41_ChannelOrder.f (k : Nat) (a0 : Int) (l1 : List (S45)) : Option (Bool) := selfstablaw41_ChannelOrder.l0 k (wrap64 (1 + (Int.tmod (wrap64 ((Int.tmod a0 8) + 8)) 8))) l1 ([] : List (S38)) 0 0
theorem selfstablaw41_ChannelOrder.mono_l : ∀ k, (∀ y0 y1 y2 y3 y4, LeO (selfstablaw41_ChannelOrder.l0 k y0 y1 y2 y3 y4) (selfstablaw41_ChannelOrder.l0 (k + 1) y0 y1 y2 y3 y4)) ∧ (∀ y0 y1 y2 y3 y4 y5, LeO (selfstablaw41_ChannelOrder.j1 k y0 y1 y2 y3 y4 y5) (selfstablaw41_ChannelOrder.j1 (k + 1) y0 y1 y2 y3 y4 y5)) ∧ (∀ y0 y1 y2 y3 y4 y5 y6 y7, LeO (selfstablaw41_ChannelOrder.l1 k y0 y1 y2 y3 y4 y5 y6 y7) (selfstablaw41_ChannelOrder.l1 (k + 1) y0 y1 y2 y3 y4 y5 y6 y7))
  | 0 => ⟨fun _ _ _ _ _ r h => by simp [selfstablaw41_ChannelOrder.l0] at h, fun _ _ _ _ _ _ r h => by simp [selfstablaw41_ChannelOrder.j1] at h, fun _ _ _ _ _ _ _ _ r h => by simp [selfstablaw41_ChannelOrder.l1] at h⟩
  | k + 1 => by
    obtain ⟨ih0, ih1, ih2⟩ := selfstablaw41_ChannelOrder.mono_l k
    refine ⟨?_, ?_, ?_⟩
    · intro y0 y1 y2 y3 y4
      unfold selfstablaw41_ChannelOrder.l0
      repeat' first
      | (with_reducible exact ih0 _ _ _ _ _)
      | (with_reducible exact ih1 _ _ _ _ _ _)
      | (with_reducible exact ih2 _ _ _ _ _ _ _ _)
      | (with_reducible exact channel_Play.mono _ _ _ _)
      | (with_reducible exact selfstablaw41_known.mono _)
      | (with_reducible exact LeO.refl _)
      | (with_reducible exact LeO.none _)
      | (with_reducible refine LeO.ite ?_ ?_)
      | (with_reducible refine LeO.bind ?_ (fun _ => ?_))
      | exact ih0 _ _ _ _ _
      | exact ih1 _ _ _ _ _ _
      | exact ih2 _ _ _ _ _ _ _ _
      | exact channel_Play.mono _ _ _ _
      | exact selfstablaw41_known.mono _
      | exact LeO.none _
      | refine LeO.ite ?_ ?_
      | refine LeO.bind ?_ (fun _ => ?_)
    · intro y0 y1 y2 y3 y4 y5
      unfold selfstablaw41_ChannelOrder.j1
      repeat' first
      | (with_reducible exact ih0 _ _ _ _ _)
      | (with_reducible exact ih1 _ _ _ _ _ _)
      | (with_reducible exact ih2 _ _ _ _ _ _ _ _)
      | (with_reducible exact channel_Play.mono _ _ _ _)
      | (with_reducible exact selfstablaw41_known.mono _)
      | (with_reducible exact LeO.refl _)
      | (with_reducible exact LeO.none _)
      | (with_reducible refine LeO.ite ?_ ?_)
      | (with_reducible refine LeO.bind ?_ (fun _ => ?_))
      | exact ih0 _ _ _ _ _
      | exact ih1 _ _ _ _ _ _
      | exact ih2 _ _ _ _ _ _ _ _
      | exact channel_Play.mono _ _ _ _
      | exact selfstablaw41_known.mono _
      | exact LeO.none _
      | refine LeO.ite ?_ ?_
      | refine LeO.bind ?_ (fun _ => ?_)
    · intro y0 y1 y2 y3 y4 y5 y6 y7
      unfold selfstablaw41_ChannelOrder.l1
      repeat' first
      | (with_reducible exact ih0 _ _ _ _ _)
      | (with_reducible exact ih1 _ _ _ _ _ _)
      | (with_reducible exact ih2 _ _ _ _ _ _ _ _)
      | (with_reducible exact channel_Play.mono _ _ _ _)
      | (with_reducible exact selfstablaw41_known.mono _)
      | (with_reducible exact LeO.refl _)
      | (with_reducible exact LeO.none _)
      | (with_reducible refine LeO.ite ?_ ?_)
      | (with_reducible refine LeO.bind ?_ (fun _ => ?_))
      | exact ih0 _ _ _ _ _
      | exact ih1 _ _ _ _ _ _
      | exact ih2 _ _ _ _ _ _ _ _
      | exact channel_Play.mono _ _ _ _
      | exact selfstablaw41_known.mono _
      | exact LeO.none _
      | refine LeO.ite ?_ ?_
      | refine LeO.bind ?_ (fun _ => ?_)
theorem selfstablaw41_ChannelOrder.mono : ∀ a0 a1 k, LeO (selfstablaw41_ChannelOrder.f k a0 a1) (selfstablaw41_ChannelOrder.f (k + 1) a0 a1) := by
  intro a0 a1 k
  obtain ⟨ih0, ih1, ih2⟩ := selfstablaw41_ChannelOrder.mono_l k
  unfold selfstablaw41_ChannelOrder.f
  repeat' first
      | (with_reducible exact ih0 _ _ _ _ _)
      | (with_reducible exact ih1 _ _ _ _ _ _)
      | (with_reducible exact ih2 _ _ _ _ _ _ _ _)
      | (with_reducible exact channel_Play.mono _ _ _ _)
      | (with_reducible exact selfstablaw41_known.mono _)
      | (with_reducible exact LeO.refl _)
      | (with_reducible exact LeO.none _)
      | (with_reducible refine LeO.ite ?_ ?_)
      | (with_reducible refine LeO.bind ?_ (fun _ => ?_))
      | exact ih0 _ _ _ _ _
      | exact ih1 _ _ _ _ _ _
      | exact ih2 _ _ _ _ _ _ _ _
      | exact channel_Play.mono _ _ _ _
      | exact selfstablaw41_known.mono _
      | exact LeO.none _
      | refine LeO.ite ?_ ?_
      | refine LeO.bind ?_ (fun _ => ?_)
def selfstablaw41_ChannelOrder.T7 : Bool × List (List Nat × List Nat) := (true, [([], []), ([], []), ([0, 1], [0, 1]), ([2], [2]), ([3], [3]), ([4], [4]), ([5], [5]), ([6], [6]), ([7], [7]), ([], []), ([], []), ([9, 10], [9, 10]), ([11], [11]), ([12], [12]), ([13], [13]), ([8, 14], [8, 14]), ([], []), ([16, 15, 0, 1, 2, 3, 4, 5, 6, 7, 8, 9, 10, 11, 12, 13, 14, 15, 16], [15, 16])])
def selfstablaw41_ChannelOrder.B7 : List Nat := [0, 0, 3, 7, 15, 31, 63, 127, 255, 0, 0, 1536, 3584, 7680, 15872, 32767, 0, 131071]
theorem selfstablaw41_ChannelOrder.tab7 : rtab .any (opsOf Try.f5 7) = selfstablaw41_ChannelOrder.T7 := by kernel_rfl
theorem selfstablaw41_ChannelOrder.bits7 : waitsOk selfstablaw41_ChannelOrder.T7.2 selfstablaw41_ChannelOrder.B7 = true := by kernel_rfl
set_option maxHeartbeats 8000000 in
set_option maxRecDepth 100000 in
theorem selfstablaw41_ChannelOrder.calls (k : Nat) (a0 : Int) (A1 : Option Addr) (c1 : Nat) (l1 : List (S45)) (r : Bool) (w : World) (hr1 : Kd.C k45 w A1 l1.length l1) (hc1 : l1.length ≤ c1) (h : selfstablaw41_ChannelOrder.f k a0 l1 = some r) :
    Calls Try.prog 5 #[.int .i64 a0, .slice A1 l1.length c1] w fun e w' => e = .returned (.bool r) ∧ Below w.heap.size w w' := by
  have hu38 := Try.underlying38
  have hu24 := Try.underlying24
  have HR1 := Aside0.mk hr1
  have HC1 := Aside0.mk hc1
  clear hr1 hc1
  have HB := Aside0.mk (Below.refl w.heap.size w)
  have H : (selfstablaw41_ChannelOrder.l0 k (wrap64 (1 + (Int.tmod (wrap64 ((Int.tmod a0 8) + 8)) 8))) l1 ([] : List (S38)) 0 0) = some r := h
  clear h
  have H' := Aside0.mk H
  clear H
  go_enter Try.func5, Try.ntmps5
  go_wp2
  go_loopg [5, 6, 7] k (fun kq v5 v6 v7 w' => ∃ (x5_1 : List (S38)) (x6_1 : Int) (x7_1 : Int), v6 = .int .i64 x6_1 ∧ v7 = .int .i64 x7_1 ∧ Aside0 (selfstablaw41_ChannelOrder.l0 kq (wrap64 (1 + (Int.tmod (wrap64 ((Int.tmod a0 8) + 8)) 8))) l1 x5_1 x6_1 x7_1 = some r) ∧ Aside0 (kq ≤ k) ∧ Aside0 (Kd.N k38 38 w' w.heap.size (fun _ => True) v5 x5_1) ∧ Aside0 (Below w.heap.size w w'))
  case atStart => exact ⟨(([] : List (S38))), (0), (0), (by first | rfl | (simp; done) | (simp [*]; done)), (by first | rfl | (simp; done) | (simp [*]; done)), H', ⟨Nat.le_refl _⟩, ⟨by first | exact Kd.S_nil _ _ _ _ _ | exact Kd.N_nil _ _ _ _ _ | exact Kd.V_nil _ _ _ _ _ | exact Kd.Q_nil _ _ _ _ _ | exact Kd.R_nil _ _ _ _ _⟩, ⟨by repeat (first | (with_reducible first | exact HB.out | apply below_alloc | apply pw_below_drewN | apply below_drew1) | exact HB.out)⟩⟩
  case round =>
    clear H'
    try clear c1
    try clear p2
    obtain ⟨x5_1, x6_1, x7_1, rfl, rfl, HA, HK1, HO_5, HB⟩ := hrel
    cases gk with
    | zero => exact absurd HA.out (by simp [selfstablaw41_ChannelOrder.l0])
    | succ k1 =>
      have H := HA.out
      clear HA
      simp only [selfstablaw41_ChannelOrder.l0] at H
      have HC3 := Aside0.mk H
      clear H
      go_upto_region 5 with (fail)
      go_cut [27] (fun v27 wc => ∃ (kq : Nat) (x27_2 : Bool), v27 = .bool x27_2 ∧ Aside0 (selfstablaw41_ChannelOrder.j1 kq (wrap64 (1 + (Int.tmod (wrap64 ((Int.tmod a0 8) + 8)) 8))) l1 x5_1 x6_1 x7_1 x27_2 = some r) ∧ Aside0 (kq ≤ k1) ∧ Aside0 (Kd.N k38 38 wc w.heap.size (fun _ => True) u5 x5_1) ∧ Aside0 (Below w.heap.size w wc))
      case first =>
        have H := HC3.out
        clear HC3
        by_cases c4 : x7_1 < (l1.length : Int)
        · rw [if_pos c4] at H
          have c4b0 : decide (x7_1 < (l1.length : Int)) = true := decide_eq_true c4
          clear c4
          (first | rw [c4b0] | (simp only [i64_w, i32_w]; rw [c4b0]) | skip)
          have H' := Aside0.mk H
          clear H
          go_wp2
          go_meet
          case rel => exact ⟨_, (decide (x7_1 < 150)), (by first | rfl | (simp; done) | (simp [*]; done)), H', ⟨by have := HK1.out; first | omega | exact Nat.le_refl _⟩, ⟨by (with_reducible repeat (first | apply Kd.N_alloc | apply Kd.N_drewN | apply Kd.N_drew)); exact HO_5.out⟩, ⟨by repeat (first | (with_reducible first | exact HB.out | apply below_alloc | apply pw_below_drewN | apply below_drew1) | exact HB.out)⟩⟩
        · rw [if_neg c4] at H
          have c4b0 : decide (x7_1 < (l1.length : Int)) = false := decide_eq_false c4
          clear c4
          (first | rw [c4b0] | (simp only [i64_w, i32_w]; rw [c4b0]) | skip)
          have H' := Aside0.mk H
          clear H
          go_wp2
          go_meet
          case rel => exact ⟨_, (false), (by first | rfl | (simp; done) | (simp [*]; done)), H', ⟨by have := HK1.out; first | omega | exact Nat.le_refl _⟩, ⟨by (with_reducible repeat (first | apply Kd.N_alloc | apply Kd.N_drewN | apply Kd.N_drew)); exact HO_5.out⟩, ⟨by repeat (first | (with_reducible first | exact HB.out | apply below_alloc | apply pw_below_drewN | apply below_drew1) | exact HB.out)⟩⟩
      case rest =>
        clear HC3
        try clear c1
        try clear p2
        try clear c4
        try clear c4b0
        try clear p2
        obtain ⟨kq, x27_2, rfl, HA, HJ2, HO_5, HB⟩ := hcut
        cases kq with
        | zero => exact absurd HA.out (by simp [selfstablaw41_ChannelOrder.j1])
        | succ kj2 =>
          have H := HA.out
          clear HA
          simp only [selfstablaw41_ChannelOrder.j1] at H
          by_cases c5 : x27_2 = true
          · subst c5
            have H1 : (if 0 ≤ x7_1 then (if x7_1 < (l1.length : Int) then (if (wrap64 (1 + (Int.tmod (wrap64 ((Int.tmod ((rd_T45 l1 x7_1).f0) 3) + 3)) 3))) = 1 then (if x5_1.length < 3518437208883 then (selfstablaw41_ChannelOrder.l0 kj2 (wrap64 (1 + (Int.tmod (wrap64 ((Int.tmod a0 8) + 8)) 8))) l1 (x5_1 ++ [(⟨wrap64 (1 + (Int.tmod (wrap64 ((Int.tmod ((rd_T45 l1 x7_1).f0) 3) + 3)) 3)), Int.tmod ((rd_T45 l1 x7_1).f1) 10, (([x6_1] : List Int))⟩ : S38)]) (wrap64 (x6_1 + 1)) (wrap64 (x7_1 + 1))) else (none)) else (if x5_1.length < 3518437208883 then (selfstablaw41_ChannelOrder.l0 kj2 (wrap64 (1 + (Int.tmod (wrap64 ((Int.tmod a0 8) + 8)) 8))) l1 (x5_1 ++ [(⟨wrap64 (1 + (Int.tmod (wrap64 ((Int.tmod ((rd_T45 l1 x7_1).f0) 3) + 3)) 3)), Int.tmod ((rd_T45 l1 x7_1).f1) 10, ([] : List Int)⟩ : S38)]) x6_1 (wrap64 (x7_1 + 1))) else (none))) else (none)) else (none)) = some r := by rw [if_pos rfl] at H; exact H
            clear H
            have H := H1
            clear H1
            by_cases c6 : 0 ≤ x7_1
            · rw [if_pos c6] at H
              have c6b0 : decide (0 ≤ x7_1) = true := decide_eq_true c6
              clear c6
              by_cases c7 : x7_1 < (l1.length : Int)
              · rw [if_pos c7] at H
                have c7b0 : decide (x7_1 < (l1.length : Int)) = true := decide_eq_true c7
                clear c7
                by_cases c8 : (wrap64 (1 + (Int.tmod (wrap64 ((Int.tmod ((rd_T45 l1 x7_1).f0) 3) + 3)) 3))) = 1
                · rw [if_pos c8] at H
                  have c8b0 : ((wrap64 (1 + (Int.tmod (wrap64 ((Int.tmod ((rd_T45 l1 x7_1).f0) 3) + 3)) 3))) == 1) = true := beq_iff_eq.mpr c8
                  have c8b1 : ((wrap64 (1 + (Int.tmod (wrap64 ((Int.tmod ((rd_T45 l1 x7_1).f0) 3) + 3)) 3))) != 1) = false := bne_eq_false_iff_eq.mpr c8
                  clear c8
                  obtain ⟨y356, hy356⟩ : ∃ y_ : List Int, y_ = (([x6_1] : List Int)) := ⟨_, rfl⟩
                  replace H : (if x5_1.length < 3518437208883 then (selfstablaw41_ChannelOrder.l0 kj2 (wrap64 (1 + (Int.tmod (wrap64 ((Int.tmod a0 8) + 8)) 8))) l1 (x5_1 ++ [(⟨wrap64 (1 + (Int.tmod (wrap64 ((Int.tmod ((rd_T45 l1 x7_1).f0) 3) + 3)) 3)), Int.tmod ((rd_T45 l1 x7_1).f1) 10, y356⟩ : S38)]) (wrap64 (x6_1 + 1)) (wrap64 (x7_1 + 1))) else (none)) = some r := by first | (rw [hy356]; with_reducible exact H) | (have H2_ := (Option.bind_some _ _).symm.trans H; rw [hy356]; with_reducible exact H2_) | (have H2_ := (Option.bind_some _ _).symm.trans H; with_reducible exact H2_) | with_reducible exact H | (rw [hy356]; exact H) | exact H
                  have Ny356 := Aside0.mk hy356
                  clear hy356
                  by_cases c9 : x5_1.length < 3518437208883
                  · rw [if_pos c9] at H
                    have LMc9 := Aside0.mk c9
                    clear c9
                    obtain ⟨y359, hy359⟩ : ∃ y_ : List (S38), y_ = (x5_1 ++ [(⟨wrap64 (1 + (Int.tmod (wrap64 ((Int.tmod ((rd_T45 l1 x7_1).f0) 3) + 3)) 3)), Int.tmod ((rd_T45 l1 x7_1).f1) 10, y356⟩ : S38)]) := ⟨_, rfl⟩
                    replace H : (selfstablaw41_ChannelOrder.l0 kj2 (wrap64 (1 + (Int.tmod (wrap64 ((Int.tmod a0 8) + 8)) 8))) l1 y359 (wrap64 (x6_1 + 1)) (wrap64 (x7_1 + 1))) = some r := by first | (rw [hy359]; with_reducible exact H) | (have H2_ := (Option.bind_some _ _).symm.trans H; rw [hy359]; with_reducible exact H2_) | (have H2_ := (Option.bind_some _ _).symm.trans H; with_reducible exact H2_) | with_reducible exact H | (rw [hy359]; exact H) | exact H
                    have Ny359 := Aside0.mk hy359
                    clear hy359
                    have H' := Aside0.mk H
                    clear H
                    try go_wp2
                    have n0_ := Aside0.mk (Kd.N_drew HO_5.out)
                    have n1_ := Aside0.mk (below_drew1 HB.out)
                    clear HO_5
                    clear HB
                    have HO_5 := n0_
                    have HB := n1_
                    clear n0_ n1_
                    have p353 : 0 ≤ (x7_1 : Int) := of_decide_eq_true (by first | (with_reducible assumption) | assumption)
                    have q353 : x7_1 < (l1.length : Int) := of_decide_eq_true (by first | (with_reducible assumption) | assumption)
                    obtain ⟨ad353, e353, hx353_0, hx353_1⟩ := at_T45 HR1.out x7_1 p353 q353
                    have hw353_1 := hx353_1
                    have hw353_0 := hx353_0
                    cases e353
                    replace hx353_0 := (HB.out.cell (World.block_lt_of_cell? w _ hx353_0)).trans hx353_0
                    replace hx353_1 := (HB.out.cell (World.block_lt_of_cell? w _ hx353_1)).trans hx353_1
                    replace p353 := eq_true p353
                    replace q353 := eq_true q353
                    have p354 : 0 ≤ (x7_1 : Int) := of_decide_eq_true (by first | (with_reducible assumption) | assumption)
                    have q354 : x7_1 < (l1.length : Int) := of_decide_eq_true (by first | (with_reducible assumption) | assumption)
                    obtain ⟨ad354, e354, hx354_0, hx354_1⟩ := at_T45 HR1.out x7_1 p354 q354
                    have hw354_1 := hx354_1
                    have hw354_0 := hx354_0
                    obtain rfl : ad353 = ad354 := (by injection e354)
                    replace hx354_0 := (HB.out.cell (World.block_lt_of_cell? w _ hx354_0)).trans hx354_0
                    replace hx354_1 := (HB.out.cell (World.block_lt_of_cell? w _ hx354_1)).trans hx354_1
                    replace p354 := eq_true p354
                    replace q354 := eq_true q354
                    refine start_ (n := 18) (S := fun w' => w'.cell? (ad353.add ((x7_1).toNat * 2)) = some (.int .i64 ((rd_T45 l1 x7_1).f0)) ∧ w'.cell? ⟨(ad353.add ((x7_1).toNat * 2)).block, (ad353.add ((x7_1).toNat * 2)).off + 1, none⟩ = some (.int .i64 ((rd_T45 l1 x7_1).f1)) ∧ w'.cell? (ad353.add ((x7_1).toNat * 2)) = some (.int .i64 ((rd_T45 l1 x7_1).f0)) ∧ w'.cell? ⟨(ad353.add ((x7_1).toNat * 2)).block, (ad353.add ((x7_1).toNat * 2)).off + 1, none⟩ = some (.int .i64 ((rd_T45 l1 x7_1).f1))) (ds := []) #[false, false, false, false, false, false, false, false, false, false, false, false, false, false, false, false, false, false] (by kernel_rfl) rfl rfl ⟨((HB.out.cell (World.block_lt_of_cell? w _ hw353_0)).trans hw353_0), ((HB.out.cell (World.block_lt_of_cell? w _ hw353_1)).trans hw353_1), ((HB.out.cell (World.block_lt_of_cell? w _ hw354_0)).trans hw354_0), ((HB.out.cell (World.block_lt_of_cell? w _ hw354_1)).trans hw354_1)⟩ (fun hHeld => ?_); refine with_tabW selfstablaw41_ChannelOrder.tab7 selfstablaw41_ChannelOrder.bits7 (fun HT_ HW_ => ?_)
                    generalize wc.drew = w10 at HO_5 HB hx353_0 hx353_1 hx354_0 hx354_1 hHeld ⊢
                    refine pure_ (i := 0) (N := some 30) (v := ?_) (a' := ?_) #[true, false, false, false, false, false, false, false, false, false, false, false, false, false, false, false, false, false] rfl rfl (any_of HT_.out (by kernel_rfl)) (fun _ _ _ h => h) (Or.inl ⟨by rfl, ?_⟩) ?_ ?_
                    rotate_left
                    · intro w'
                      go_simp
                      with_reducible rfl
                    rotate_left
                    · simp only [Act.put, List.setIfInBounds_toArray, List.set_cons_zero, List.set_cons_succ, i64_w, i32_w]
                      rfl
                    refine pure_ (i := 1) (N := some 31) (v := ?_) (a' := ?_) #[true, true, false, false, false, false, false, false, false, false, false, false, false, false, false, false, false, false] rfl rfl (any_of HT_.out (by kernel_rfl)) (fun _ _ _ h => h) (Or.inl ⟨by rfl, ?_⟩) ?_ ?_
                    rotate_left
                    · intro w'
                      go_simp
                      with_reducible rfl
                    rotate_left
                    · simp only [Act.put, List.setIfInBounds_toArray, List.set_cons_zero, List.set_cons_succ, i64_w, i32_w]
                      rfl
                    refine pure_ (i := 2) (N := some 32) (v := ?_) (a' := ?_) #[true, true, true, false, false, false, false, false, false, false, false, false, false, false, false, false, false, false] rfl rfl (any_of HT_.out (by kernel_rfl)) (fun _ _ _ h => h) (Or.inl ⟨by rfl, ?_⟩) ?_ ?_
                    rotate_left
                    · intro w'
                      go_simp
                      with_reducible rfl
                    rotate_left
                    · simp only [Act.put, List.setIfInBounds_toArray, List.set_cons_zero, List.set_cons_succ, i64_w, i32_w]
                      rfl
                    refine pure_ (i := 3) (N := some 33) (v := ?_) (a' := ?_) #[true, true, true, true, false, false, false, false, false, false, false, false, false, false, false, false, false, false] rfl rfl (any_of HT_.out (by kernel_rfl)) (fun _ _ _ h => h) (Or.inl ⟨by rfl, ?_⟩) ?_ ?_
                    rotate_left
                    · intro w'
                      go_simp
                      with_reducible rfl
                    rotate_left
                    · simp only [Act.put, List.setIfInBounds_toArray, List.set_cons_zero, List.set_cons_succ, i64_w, i32_w]
                      rfl
                    refine pure_ (i := 9) (N := some 39) (v := ?_) (a' := ?_) #[true, true, true, true, false, false, false, false, false, true, false, false, false, false, false, false, false, false] rfl rfl (any_of HT_.out (by kernel_rfl)) (fun _ _ _ h => h) (Or.inl ⟨by rfl, ?_⟩) ?_ ?_
                    rotate_left
                    · intro w'
                      go_simp
                      with_reducible rfl
                    rotate_left
                    · simp only [Act.put, List.setIfInBounds_toArray, List.set_cons_zero, List.set_cons_succ, i64_w, i32_w]
                      rfl
                    refine pure_ (i := 10) (N := some 40) (v := ?_) (a' := ?_) #[true, true, true, true, false, false, false, false, false, true, true, false, false, false, false, false, false, false] rfl rfl (any_of HT_.out (by kernel_rfl)) (fun _ _ _ h => h) (Or.inl ⟨by rfl, ?_⟩) ?_ ?_
                    rotate_left
                    · intro w'
                      go_simp
                      with_reducible rfl
                    rotate_left
                    · simp only [Act.put, List.setIfInBounds_toArray, List.set_cons_zero, List.set_cons_succ, i64_w, i32_w]
                      rfl
                    refine pure_ (i := 11) (N := some 41) (v := ?_) (a' := ?_) #[true, true, true, true, false, false, false, false, false, true, true, true, false, false, false, false, false, false] rfl rfl (any_of HT_.out (by kernel_rfl)) (fun _ _ _ h => h) (Or.inl ⟨by rfl, ?_⟩) ?_ ?_
                    rotate_left
                    · intro w'
                      go_simp
                      with_reducible rfl
                    rotate_left
                    · simp only [Act.put, List.setIfInBounds_toArray, List.set_cons_zero, List.set_cons_succ, i64_w, i32_w]
                      rfl
                    refine pure_ (i := 12) (N := some 42) (v := ?_) (a' := ?_) #[true, true, true, true, false, false, false, false, false, true, true, true, true, false, false, false, false, false] rfl rfl (any_of HT_.out (by kernel_rfl)) (fun _ _ _ h => h) (Or.inl ⟨by rfl, ?_⟩) ?_ ?_
                    rotate_left
                    · intro w'
                      go_simp
                      with_reducible rfl
                    rotate_left
                    · simp only [Act.put, List.setIfInBounds_toArray, List.set_cons_zero, List.set_cons_succ, i64_w, i32_w]
                      rfl
                    refine take_ (i := 4) (N := some 34) (v := ?_) (a' := ?_) #[true, true, true, true, true, false, false, false, false, true, true, true, true, false, false, false, false, false] rfl rfl (take_ofW HT_.out HW_.out (by kernel_rfl)) (fun _ _ _ h => h) (Or.inl ⟨by rfl, ?_⟩) hHeld ?_ ?_
                    rotate_left
                    · rintro w' ⟨s0, s1, s2, s3⟩
                      go_simp
                      with_reducible rfl
                    rotate_left
                    · simp only [Act.put, List.setIfInBounds_toArray, List.set_cons_zero, List.set_cons_succ, i64_w, i32_w]
                      rfl
                    refine pure_ (i := 5) (N := some 35) (v := ?_) (a' := ?_) #[true, true, true, true, true, true, false, false, false, true, true, true, true, false, false, false, false, false] rfl rfl (any_of HT_.out (by kernel_rfl)) (fun _ _ _ h => h) (Or.inl ⟨by rfl, ?_⟩) ?_ ?_
                    rotate_left
                    · intro w'
                      go_simp
                      with_reducible rfl
                    rotate_left
                    · simp only [Act.put, List.setIfInBounds_toArray, List.set_cons_zero, List.set_cons_succ, i64_w, i32_w]
                      rfl
                    refine pure_ (i := 6) (N := some 36) (v := ?_) (a' := ?_) #[true, true, true, true, true, true, true, false, false, true, true, true, true, false, false, false, false, false] rfl rfl (any_of HT_.out (by kernel_rfl)) (fun _ _ _ h => h) (Or.inl ⟨by rfl, ?_⟩) ?_ ?_
                    rotate_left
                    · intro w'
                      go_simp
                      with_reducible rfl
                    rotate_left
                    · simp only [Act.put, List.setIfInBounds_toArray, List.set_cons_zero, List.set_cons_succ, i64_w, i32_w]
                      rfl
                    refine pure_ (i := 7) (N := some 37) (v := ?_) (a' := ?_) #[true, true, true, true, true, true, true, true, false, true, true, true, true, false, false, false, false, false] rfl rfl (any_of HT_.out (by kernel_rfl)) (fun _ _ _ h => h) (Or.inl ⟨by rfl, ?_⟩) ?_ ?_
                    rotate_left
                    · intro w'
                      go_simp
                      with_reducible rfl
                    rotate_left
                    · simp only [Act.put, List.setIfInBounds_toArray, List.set_cons_zero, List.set_cons_succ, i64_w, i32_w]
                      rfl
                    refine pure_ (i := 8) (N := some 38) (v := ?_) (a' := ?_) #[true, true, true, true, true, true, true, true, true, true, true, true, true, false, false, false, false, false] rfl rfl (any_of HT_.out (by kernel_rfl)) (fun _ _ _ h => h) (Or.inl ⟨by rfl, ?_⟩) ?_ ?_
                    rotate_left
                    · intro w'
                      go_simp
                      with_reducible rfl
                    rotate_left
                    · simp only [Act.put, List.setIfInBounds_toArray, List.set_cons_zero, List.set_cons_succ, i64_w, i32_w]
                      rfl
                    refine take_ (i := 13) (N := some 43) (v := ?_) (a' := ?_) #[true, true, true, true, true, true, true, true, true, true, true, true, true, true, false, false, false, false] rfl rfl (take_ofW HT_.out HW_.out (by kernel_rfl)) (fun _ _ _ h => h) (Or.inl ⟨by rfl, ?_⟩) hHeld ?_ ?_
                    rotate_left
                    · rintro w' ⟨s0, s1, s2, s3⟩
                      go_simp
                      with_reducible rfl
                    rotate_left
                    · simp only [Act.put, List.setIfInBounds_toArray, List.set_cons_zero, List.set_cons_succ, i64_w, i32_w]
                      rfl
                    refine pure_ (i := 14) (N := some 44) (v := ?_) (a' := ?_) #[true, true, true, true, true, true, true, true, true, true, true, true, true, true, true, false, false, false] rfl rfl (any_of HT_.out (by kernel_rfl)) (fun _ _ _ h => h) (Or.inl ⟨by rfl, ?_⟩) ?_ ?_
                    rotate_left
                    · intro w'
                      go_simp
                      with_reducible rfl
                    rotate_left
                    · simp only [Act.put, List.setIfInBounds_toArray, List.set_cons_zero, List.set_cons_succ, i64_w, i32_w]
                      rfl
                    refine pure_ (i := 15) (N := some 45) (v := ?_) (a' := ?_) #[true, true, true, true, true, true, true, true, true, true, true, true, true, true, true, true, false, false] rfl rfl (any_of HT_.out (by kernel_rfl)) (fun _ _ _ h => h) (Or.inl ⟨by rfl, ?_⟩) ?_ ?_
                    rotate_left
                    · intro w'
                      go_simp
                      with_reducible rfl
                    rotate_left
                    · simp only [Act.put, List.setIfInBounds_toArray, List.set_cons_zero, List.set_cons_succ, i64_w, i32_w]
                      rfl
                    refine one_ (i := 16) (N := some 8) #[true, true, true, true, true, true, true, true, true, true, true, true, true, true, true, true, true, false] rfl rfl (one_of HT_.out (by kernel_rfl)) (by decide) (fun K hK => ?_)
                    refine box_step ?hg (N := 8) ?hd (cs := #[.int .i64 0, .int .i64 0, .slice none 0 0]) (t := 38) ?hr ?_; (case hd => rfl); (case hg => rfl); (case hr => first | (go_simp; done) | (go_simp; rfl))
                    intro gb355 hg w11 hbox hb
                    have n0_ := Aside0.mk (Kd.N_below (Kd.N_elderB (by (with_reducible repeat (first | apply Kd.N_alloc | apply Kd.N_drewN | apply Kd.N_drew)); exact HO_5.out) gb355 (Nat.le_of_eq hg.symm)) hb)
                    have n1_ := Aside0.mk (below_step (by repeat (first | (with_reducible first | exact HB.out | apply below_alloc | apply pw_below_drewN | apply below_drew1) | exact HB.out)) hb)
                    have n2_ := Aside0.mk (hbox)
                    have n3_ := Aside0.mk ((by rw [hg]; exact (below_size (by repeat (first | (with_reducible first | exact HB.out | apply below_alloc | apply pw_below_drewN | apply below_drew1) | exact HB.out))) : w.heap.size ≤ gb355))
                    have n4_ := Aside0.mk ((by rw [hg]; exact (below_size (by repeat (first | (with_reducible first | exact HB.out | apply below_alloc | apply pw_below_drewN | apply below_drew1) | exact HB.out))) : w.heap.size ≤ gb355))
                    clear HO_5
                    clear HB
                    have HO_5 := n0_
                    have HB := n1_
                    have BK355 := n2_
                    have GW355 := n3_
                    have GE355 := n4_
                    clear n0_ n1_ n2_ n3_ n4_
                    clear hb hbox hg
                    refine hK.out _ _ ⟨((HB.out.cell (World.block_lt_of_cell? w _ hw353_0)).trans hw353_0), ((HB.out.cell (World.block_lt_of_cell? w _ hw353_1)).trans hw353_1), ((HB.out.cell (World.block_lt_of_cell? w _ hw354_0)).trans hw354_0), ((HB.out.cell (World.block_lt_of_cell? w _ hw354_1)).trans hw354_1)⟩ (fun hHeld => ?_)
                    clear hK K
                    refine norm_ (a' := ?_) ?_ ?_
                    rotate_left
                    · show Act.put _ (some 8) _ = _
                      simp only [Act.put, List.setIfInBounds_toArray, List.set_cons_zero, List.set_cons_succ, i64_w, i32_w]
                      rfl
                    refine one_ (i := 17) (N := none) #[true, true, true, true, true, true, true, true, true, true, true, true, true, true, true, true, true, true] rfl rfl (one_of HT_.out (by kernel_rfl)) (by decide) (fun K hK => ?_)
                    have hs12 : w11.cell? ⟨gb355, 0, none⟩ = some (.int .i64 0) := (blk_cell BK355.out 0).trans rfl
                    have hfs12 := blk_frozen BK355.out 0
                    have hs13 : w11.cell? ⟨gb355, 1, none⟩ = some (.int .i64 0) := (blk_cell BK355.out 1).trans rfl
                    have hfs13 := blk_frozen BK355.out 1
                    have hs14 : w11.cell? ⟨gb355, 2, none⟩ = some (.slice none 0 0) := (blk_cell BK355.out 2).trans rfl
                    have hfs14 := blk_frozen BK355.out 2
                    refine skip_ (w1 := ?_) (by rfl) rfl ?_ ?_
                    rotate_left
                    · go_simp
                      rfl
                    refine hK.out _ _ ⟨((cell_far (p := ⟨gb355, _, none⟩) (by first | exact Nat.ne_of_lt (Nat.lt_of_lt_of_le (by have := World.block_lt_of_cell? _ _ hw353_0; first | rwa [add_block] at this | exact this) GW355.out) | (rw [add_block]; exact Nat.ne_of_lt (Nat.lt_of_lt_of_le (by have := World.block_lt_of_cell? _ _ hw353_0; first | rwa [add_block] at this | exact this) GW355.out)) | (show (Addr.add _ _).block ≠ _; rw [add_block]; exact Nat.ne_of_lt (Nat.lt_of_lt_of_le (by have := World.block_lt_of_cell? _ _ hw353_0; first | rwa [add_block] at this | exact this) GW355.out)) | (dsimp only; exact Nat.ne_of_lt (Nat.lt_of_lt_of_le (by have := World.block_lt_of_cell? _ _ hw353_0; first | rwa [add_block] at this | exact this) GW355.out))) _).trans (((cell_far (p := ⟨gb355, _, none⟩) (by first | exact Nat.ne_of_lt (Nat.lt_of_lt_of_le (by have := World.block_lt_of_cell? _ _ hw353_0; first | rwa [add_block] at this | exact this) GW355.out) | (rw [add_block]; exact Nat.ne_of_lt (Nat.lt_of_lt_of_le (by have := World.block_lt_of_cell? _ _ hw353_0; first | rwa [add_block] at this | exact this) GW355.out)) | (show (Addr.add _ _).block ≠ _; rw [add_block]; exact Nat.ne_of_lt (Nat.lt_of_lt_of_le (by have := World.block_lt_of_cell? _ _ hw353_0; first | rwa [add_block] at this | exact this) GW355.out)) | (dsimp only; exact Nat.ne_of_lt (Nat.lt_of_lt_of_le (by have := World.block_lt_of_cell? _ _ hw353_0; first | rwa [add_block] at this | exact this) GW355.out))) _).trans (((cell_far (p := ⟨gb355, _, none⟩) (by first | exact Nat.ne_of_lt (Nat.lt_of_lt_of_le (by have := World.block_lt_of_cell? _ _ hw353_0; first | rwa [add_block] at this | exact this) GW355.out) | (rw [add_block]; exact Nat.ne_of_lt (Nat.lt_of_lt_of_le (by have := World.block_lt_of_cell? _ _ hw353_0; first | rwa [add_block] at this | exact this) GW355.out)) | (show (Addr.add _ _).block ≠ _; rw [add_block]; exact Nat.ne_of_lt (Nat.lt_of_lt_of_le (by have := World.block_lt_of_cell? _ _ hw353_0; first | rwa [add_block] at this | exact this) GW355.out)) | (dsimp only; exact Nat.ne_of_lt (Nat.lt_of_lt_of_le (by have := World.block_lt_of_cell? _ _ hw353_0; first | rwa [add_block] at this | exact this) GW355.out))) _).trans (hHeld.1)))))), ((cell_far (p := ⟨gb355, _, none⟩) (by first | exact Nat.ne_of_lt (Nat.lt_of_lt_of_le (by have := World.block_lt_of_cell? _ _ hw353_1; first | rwa [add_block] at this | exact this) GW355.out) | (rw [add_block]; exact Nat.ne_of_lt (Nat.lt_of_lt_of_le (by have := World.block_lt_of_cell? _ _ hw353_1; first | rwa [add_block] at this | exact this) GW355.out)) | (show (Addr.add _ _).block ≠ _; rw [add_block]; exact Nat.ne_of_lt (Nat.lt_of_lt_of_le (by have := World.block_lt_of_cell? _ _ hw353_1; first | rwa [add_block] at this | exact this) GW355.out)) | (dsimp only; exact Nat.ne_of_lt (Nat.lt_of_lt_of_le (by have := World.block_lt_of_cell? _ _ hw353_1; first | rwa [add_block] at this | exact this) GW355.out))) _).trans (((cell_far (p := ⟨gb355, _, none⟩) (by first | exact Nat.ne_of_lt (Nat.lt_of_lt_of_le (by have := World.block_lt_of_cell? _ _ hw353_1; first | rwa [add_block] at this | exact this) GW355.out) | (rw [add_block]; exact Nat.ne_of_lt (Nat.lt_of_lt_of_le (by have := World.block_lt_of_cell? _ _ hw353_1; first | rwa [add_block] at this | exact this) GW355.out)) | (show (Addr.add _ _).block ≠ _; rw [add_block]; exact Nat.ne_of_lt (Nat.lt_of_lt_of_le (by have := World.block_lt_of_cell? _ _ hw353_1; first | rwa [add_block] at this | exact this) GW355.out)) | (dsimp only; exact Nat.ne_of_lt (Nat.lt_of_lt_of_le (by have := World.block_lt_of_cell? _ _ hw353_1; first | rwa [add_block] at this | exact this) GW355.out))) _).trans (((cell_far (p := ⟨gb355, _, none⟩) (by first | exact Nat.ne_of_lt (Nat.lt_of_lt_of_le (by have := World.block_lt_of_cell? _ _ hw353_1; first | rwa [add_block] at this | exact this) GW355.out) | (rw [add_block]; exact Nat.ne_of_lt (Nat.lt_of_lt_of_le (by have := World.block_lt_of_cell? _ _ hw353_1; first | rwa [add_block] at this | exact this) GW355.out)) | (show (Addr.add _ _).block ≠ _; rw [add_block]; exact Nat.ne_of_lt (Nat.lt_of_lt_of_le (by have := World.block_lt_of_cell? _ _ hw353_1; first | rwa [add_block] at this | exact this) GW355.out)) | (dsimp only; exact Nat.ne_of_lt (Nat.lt_of_lt_of_le (by have := World.block_lt_of_cell? _ _ hw353_1; first | rwa [add_block] at this | exact this) GW355.out))) _).trans (hHeld.2.1)))))), ((cell_far (p := ⟨gb355, _, none⟩) (by first | exact Nat.ne_of_lt (Nat.lt_of_lt_of_le (by have := World.block_lt_of_cell? _ _ hw354_0; first | rwa [add_block] at this | exact this) GW355.out) | (rw [add_block]; exact Nat.ne_of_lt (Nat.lt_of_lt_of_le (by have := World.block_lt_of_cell? _ _ hw354_0; first | rwa [add_block] at this | exact this) GW355.out)) | (show (Addr.add _ _).block ≠ _; rw [add_block]; exact Nat.ne_of_lt (Nat.lt_of_lt_of_le (by have := World.block_lt_of_cell? _ _ hw354_0; first | rwa [add_block] at this | exact this) GW355.out)) | (dsimp only; exact Nat.ne_of_lt (Nat.lt_of_lt_of_le (by have := World.block_lt_of_cell? _ _ hw354_0; first | rwa [add_block] at this | exact this) GW355.out))) _).trans (((cell_far (p := ⟨gb355, _, none⟩) (by first | exact Nat.ne_of_lt (Nat.lt_of_lt_of_le (by have := World.block_lt_of_cell? _ _ hw354_0; first | rwa [add_block] at this | exact this) GW355.out) | (rw [add_block]; exact Nat.ne_of_lt (Nat.lt_of_lt_of_le (by have := World.block_lt_of_cell? _ _ hw354_0; first | rwa [add_block] at this | exact this) GW355.out)) | (show (Addr.add _ _).block ≠ _; rw [add_block]; exact Nat.ne_of_lt (Nat.lt_of_lt_of_le (by have := World.block_lt_of_cell? _ _ hw354_0; first | rwa [add_block] at this | exact this) GW355.out)) | (dsimp only; exact Nat.ne_of_lt (Nat.lt_of_lt_of_le (by have := World.block_lt_of_cell? _ _ hw354_0; first | rwa [add_block] at this | exact this) GW355.out))) _).trans (((cell_far (p := ⟨gb355, _, none⟩) (by first | exact Nat.ne_of_lt (Nat.lt_of_lt_of_le (by have := World.block_lt_of_cell? _ _ hw354_0; first | rwa [add_block] at this | exact this) GW355.out) | (rw [add_block]; exact Nat.ne_of_lt (Nat.lt_of_lt_of_le (by have := World.block_lt_of_cell? _ _ hw354_0; first | rwa [add_block] at this | exact this) GW355.out)) | (show (Addr.add _ _).block ≠ _; rw [add_block]; exact Nat.ne_of_lt (Nat.lt_of_lt_of_le (by have := World.block_lt_of_cell? _ _ hw354_0; first | rwa [add_block] at this | exact this) GW355.out)) | (dsimp only; exact Nat.ne_of_lt (Nat.lt_of_lt_of_le (by have := World.block_lt_of_cell? _ _ hw354_0; first | rwa [add_block] at this | exact this) GW355.out))) _).trans (hHeld.2.2.1)))))), ((cell_far (p := ⟨gb355, _, none⟩) (by first | exact Nat.ne_of_lt (Nat.lt_of_lt_of_le (by have := World.block_lt_of_cell? _ _ hw354_1; first | rwa [add_block] at this | exact this) GW355.out) | (rw [add_block]; exact Nat.ne_of_lt (Nat.lt_of_lt_of_le (by have := World.block_lt_of_cell? _ _ hw354_1; first | rwa [add_block] at this | exact this) GW355.out)) | (show (Addr.add _ _).block ≠ _; rw [add_block]; exact Nat.ne_of_lt (Nat.lt_of_lt_of_le (by have := World.block_lt_of_cell? _ _ hw354_1; first | rwa [add_block] at this | exact this) GW355.out)) | (dsimp only; exact Nat.ne_of_lt (Nat.lt_of_lt_of_le (by have := World.block_lt_of_cell? _ _ hw354_1; first | rwa [add_block] at this | exact this) GW355.out))) _).trans (((cell_far (p := ⟨gb355, _, none⟩) (by first | exact Nat.ne_of_lt (Nat.lt_of_lt_of_le (by have := World.block_lt_of_cell? _ _ hw354_1; first | rwa [add_block] at this | exact this) GW355.out) | (rw [add_block]; exact Nat.ne_of_lt (Nat.lt_of_lt_of_le (by have := World.block_lt_of_cell? _ _ hw354_1; first | rwa [add_block] at this | exact this) GW355.out)) | (show (Addr.add _ _).block ≠ _; rw [add_block]; exact Nat.ne_of_lt (Nat.lt_of_lt_of_le (by have := World.block_lt_of_cell? _ _ hw354_1; first | rwa [add_block] at this | exact this) GW355.out)) | (dsimp only; exact Nat.ne_of_lt (Nat.lt_of_lt_of_le (by have := World.block_lt_of_cell? _ _ hw354_1; first | rwa [add_block] at this | exact this) GW355.out))) _).trans (((cell_far (p := ⟨gb355, _, none⟩) (by first | exact Nat.ne_of_lt (Nat.lt_of_lt_of_le (by have := World.block_lt_of_cell? _ _ hw354_1; first | rwa [add_block] at this | exact this) GW355.out) | (rw [add_block]; exact Nat.ne_of_lt (Nat.lt_of_lt_of_le (by have := World.block_lt_of_cell? _ _ hw354_1; first | rwa [add_block] at this | exact this) GW355.out)) | (show (Addr.add _ _).block ≠ _; rw [add_block]; exact Nat.ne_of_lt (Nat.lt_of_lt_of_le (by have := World.block_lt_of_cell? _ _ hw354_1; first | rwa [add_block] at this | exact this) GW355.out)) | (dsimp only; exact Nat.ne_of_lt (Nat.lt_of_lt_of_le (by have := World.block_lt_of_cell? _ _ hw354_1; first | rwa [add_block] at this | exact this) GW355.out))) _).trans (hHeld.2.2.2))))))⟩ (fun hHeld => ?_)
                    clear hK K
                    refine done_ (done_of HT_.out (by kernel_rfl)) ?_
                    have hcz15_0 : w11.cell? ⟨gb355, 0, none⟩ = some (.int .i64 0) := (blk_cell BK355.out 0).trans rfl
                    have hcz15_1 : w11.cell? ⟨gb355, 1, none⟩ = some (.int .i64 0) := (blk_cell BK355.out 1).trans rfl
                    have hcz15_2 : w11.cell? ⟨gb355, 2, none⟩ = some (.slice none 0 0) := (blk_cell BK355.out 2).trans rfl
                    have hfz15_0 := blk_frozen BK355.out 0
                    have hfz15_1 := blk_frozen BK355.out 1
                    have hfz15_2 := blk_frozen BK355.out 2
                    try go_wp2_with (first | ((with_reducible refine gate_dst (N := 50) rfl ?_); (try (refine gate_guard (by rfl) ?_; dsimp only)); refine Kd.R_lit (Kd.int .i64) _ 3 ?hg (N := 50) ?hd (xs := ([x6_1] : List Int)) (inner := [.int .i64 x6_1]) (ok := fun _ => True) (okp := fun _ => True) ?hr ?hp (fun _ hk => hk) trivial (Below.refl _ _) (Nat.le_refl _) (by simp) ?_; (case hd => rfl); (case hg => rfl); (case hr => first | (go_simp; done) | (go_simp; rfl)); (case hp => exact (Reps.one (show Kd.M (Kd.int .i64) _ _ _ x6_1 [.int .i64 x6_1] from rfl) (Reps.none _ _))); intro v357 w16 ho17 hb hg_ hnew_; clear hg_ hnew_; (first | rw [← Ny356.out] at ho17 | (simp only [Int.reduceToNat] at ho17; rw [← Ny356.out] at ho17)); have n0_ := Aside0.mk (Kd.N_elder' (by (with_reducible repeat (first | apply Kd.N_alloc | apply Kd.N_drewN | apply Kd.N_drew)); exact (Kd.N_mono (Kd.N_far (p := ⟨gb355, 2, none⟩) (Kd.N_far (p := ⟨gb355, 1, none⟩) (Kd.N_far (p := ⟨gb355, 0, none⟩) (Kd.N_mono HO_5.out (fun k_ hk => (⟨hk, hk.2⟩ : _ ∧ k_ ≠ gb355))) (fun _ hk => hk.2) (.int .i64 (wrap64 (1 + (Int.tmod (wrap64 ((Int.tmod ((rd_T45 l1 x7_1).f0) 3) + 3)) 3))))) (fun _ hk => hk.2) (.int .i64 (Int.tmod ((rd_T45 l1 x7_1).f1) 10))) (fun _ hk => hk.2) (.slice none 0 0)) (fun _ h_ => h_.1))) (Kd.R_base ho17) hb); have n1_ := Aside0.mk (Kd.R_lower ho17 (below_size (by repeat (first | (with_reducible first | exact HB.out | apply below_alloc | apply pw_below_drewN | apply below_drew1 | refine below_set ?_ GE355.out) | exact HB.out)))); have n2_ := Aside0.mk (blk_below (g := gb355) (o := .cells #[.int .i64 (wrap64 (1 + (Int.tmod (wrap64 ((Int.tmod ((rd_T45 l1 x7_1).f0) 3) + 3)) 3))), .int .i64 (Int.tmod ((rd_T45 l1 x7_1).f1) 10), .slice none 0 0] 38 (0, 0)) (by (with_reducible repeat (first | refine blk_drewN ?_ _ | refine blk_drew ?_ | refine blk_alloc ?_ _)); refine blk_put (cs := #[.int .i64 (wrap64 (1 + (Int.tmod (wrap64 ((Int.tmod ((rd_T45 l1 x7_1).f0) 3) + 3)) 3))), .int .i64 (Int.tmod ((rd_T45 l1 x7_1).f1) 10), .slice none 0 0]) ?_ 2 _ rfl; (with_reducible repeat (first | refine blk_drewN ?_ _ | refine blk_drew ?_ | refine blk_alloc ?_ _)); refine blk_put (cs := #[.int .i64 (wrap64 (1 + (Int.tmod (wrap64 ((Int.tmod ((rd_T45 l1 x7_1).f0) 3) + 3)) 3))), .int .i64 0, .slice none 0 0]) ?_ 1 _ rfl; (with_reducible repeat (first | refine blk_drewN ?_ _ | refine blk_drew ?_ | refine blk_alloc ?_ _)); refine blk_put (cs := #[.int .i64 0, .int .i64 0, .slice none 0 0]) ?_ 0 _ rfl; (with_reducible repeat (first | refine blk_drewN ?_ _ | refine blk_drew ?_ | refine blk_alloc ?_ _)); exact BK355.out) hb); have n3_ := Aside0.mk (below_step (by repeat (first | (with_reducible first | exact HB.out | apply below_alloc | apply pw_below_drewN | apply below_drew1 | refine below_set ?_ GE355.out) | exact HB.out)) hb); clear HO_5; clear BK355; clear HB; have HO_5 := n0_; have HO358 := n1_; have BK355 := n2_; have HB := n3_; clear n0_ n1_ n2_ n3_; clear hb ho17; obtain ⟨Ao18, co18, eo18⟩ := Kd.R_slice HO358.out; subst eo18; have hcz19_0 : w16.cell? ⟨gb355, 0, none⟩ = some (.int .i64 (wrap64 (1 + (Int.tmod (wrap64 ((Int.tmod ((rd_T45 l1 x7_1).f0) 3) + 3)) 3)))) := (blk_cell BK355.out 0).trans rfl; have hcz19_1 : w16.cell? ⟨gb355, 1, none⟩ = some (.int .i64 (Int.tmod ((rd_T45 l1 x7_1).f1) 10)) := (blk_cell BK355.out 1).trans rfl; have hcz19_2 : w16.cell? ⟨gb355, 2, none⟩ = some (.slice none 0 0) := (blk_cell BK355.out 2).trans rfl; have hfz19_0 := blk_frozen BK355.out 0; have hfz19_1 := blk_frozen BK355.out 1; have hfz19_2 := blk_frozen BK355.out 2) | ((with_reducible refine gate_store (t := 25) (p := 51) rfl ?_); refine store_event (t := 25) (p := 51) (v := ?vo_w20) (w1 := (w16.setCell ⟨gb355, 2, none⟩ (.slice Ao18 y356.length co18))) ?hg ?ho ?hn ?hr ?_; (case ho => rfl); (case hg => rfl); (case hn => rfl); (case hr => first | (go_simp; done) | (go_simp; rfl)); intro w20 hw; have n0_ : Aside0 (Kd.N k38 38 w20 w.heap.size (fun k_ => some k_ ≠ (.slice Ao18 y356.length co18 : Value).ownBlock ∧ k_ ≠ gb355) u5 x5_1) := ⟨(by rw [hw]; exact (by (with_reducible repeat (first | apply Kd.N_alloc | apply Kd.N_drewN | apply Kd.N_drew)); exact Kd.N_mono (Kd.N_far (p := ⟨gb355, 2, none⟩) (Kd.N_mono HO_5.out (fun k_ hk => (⟨hk, hk.1.2⟩ : _ ∧ k_ ≠ gb355))) (fun _ hk => hk.2) (.slice Ao18 y356.length co18)) (fun _ hk => ⟨hk.1.2, hk.1.1.2⟩)))⟩; have n1_ : Aside0 (Kd.R (Kd.int .i64) 3 w20 w.heap.size (fun _ => True) (.slice Ao18 y356.length co18) y356) := ⟨(by rw [hw]; exact (by (with_reducible repeat (first | apply Kd.R_alloc | apply Kd.R_drewN | apply Kd.R_drew)); exact Kd.R_mono (Kd.R_far (p := ⟨gb355, 2, none⟩) (Kd.R_types HO358.out BK355.out (by decide)) (fun _ hk => hk.2) (.slice Ao18 y356.length co18)) (fun _ hk => trivial)))⟩; have n2_ : Aside0 (w20.heap[gb355]? = some (.cells #[.int .i64 (wrap64 (1 + (Int.tmod (wrap64 ((Int.tmod ((rd_T45 l1 x7_1).f0) 3) + 3)) 3))), .int .i64 (Int.tmod ((rd_T45 l1 x7_1).f1) 10), .slice Ao18 y356.length co18] 38 (0, 0))) := ⟨(by rw [hw]; exact (by (with_reducible repeat (first | refine blk_drewN ?_ _ | refine blk_drew ?_ | refine blk_alloc ?_ _)); refine blk_put (cs := #[.int .i64 (wrap64 (1 + (Int.tmod (wrap64 ((Int.tmod ((rd_T45 l1 x7_1).f0) 3) + 3)) 3))), .int .i64 (Int.tmod ((rd_T45 l1 x7_1).f1) 10), .slice none 0 0]) ?_ 2 _ rfl; (with_reducible repeat (first | refine blk_drewN ?_ _ | refine blk_drew ?_ | refine blk_alloc ?_ _)); exact BK355.out))⟩; have n3_ : Aside0 (Below w.heap.size w w20) := ⟨(by rw [hw]; exact (by repeat (first | (with_reducible first | exact HB.out | apply below_alloc | apply pw_below_drewN | apply below_drew1 | refine below_set ?_ GE355.out) | exact HB.out)))⟩; clear hw; clear HO_5; clear HO358; clear BK355; clear HB; have HO_5 := n0_; have HO358 := n1_; have BK355 := n2_; have HB := n3_; clear n0_ n1_ n2_ n3_; have hcz21_0 : w20.cell? ⟨gb355, 0, none⟩ = some (.int .i64 (wrap64 (1 + (Int.tmod (wrap64 ((Int.tmod ((rd_T45 l1 x7_1).f0) 3) + 3)) 3)))) := (blk_cell BK355.out 0).trans rfl; have hcz21_1 : w20.cell? ⟨gb355, 1, none⟩ = some (.int .i64 (Int.tmod ((rd_T45 l1 x7_1).f1) 10)) := (blk_cell BK355.out 1).trans rfl; have hcz21_2 : w20.cell? ⟨gb355, 2, none⟩ = some (.slice Ao18 y356.length co18) := (blk_cell BK355.out 2).trans rfl; have hfz21_0 := blk_frozen BK355.out 0; have hfz21_1 := blk_frozen BK355.out 1; have hfz21_2 := blk_frozen BK355.out 2) | ((with_reducible refine gate_builtin (b := .append) (xs := #[.tmp 54, .tmp 56]) rfl ?_); (try (refine gate_guard (by rfl) ?_; dsimp only)); at_builtin; refine Kd.N_append k38 (w0 := w) w.heap.size rfl (.tmp 54) (.tmp 56) 36 38 (.agg #[(.int .i64 0), (.int .i64 0), (.slice none 0 0)]) 40 rfl Try.underlying36 info38 rfl (by decide) (by omega) u5 x5_1 (⟨wrap64 (1 + (Int.tmod (wrap64 ((Int.tmod ((rd_T45 l1 x7_1).f0) 3) + 3)) 3)), Int.tmod ((rd_T45 l1 x7_1).f1) 10, y356⟩ : S38) [.int .i64 (wrap64 (1 + (Int.tmod (wrap64 ((Int.tmod ((rd_T45 l1 x7_1).f0) 3) + 3)) 3))), .int .i64 (Int.tmod ((rd_T45 l1 x7_1).f1) 10), .slice Ao18 y356.length co18] (fun k_ => k_ ≠ gb355) (fun k_ => ((fun k_ => k_ ≠ gb355)) k_ ∧ some k_ ≠ (u5 : Value).ownBlock) rfl rfl ?aP (fun _ hk => hk) ?aF ?aO ?aB ?aS ?aL ?_; (case aP => exact (k38_mkF _ _ (⟨wrap64 (1 + (Int.tmod (wrap64 ((Int.tmod ((rd_T45 l1 x7_1).f0) 3) + 3)) 3)), Int.tmod ((rd_T45 l1 x7_1).f1) 10, y356⟩ : S38) (Kd.R_reads' (Kd.R_mono (ok' := (fun k_ => ((fun k_ => k_ ≠ gb355)) k_ ∧ some k_ ≠ (u5 : Value).ownBlock)) (Kd.R_types (Kd.R_apart' (HO358.out) (Kd.N_typed HO_5.out) (by decide)) BK355.out (by decide)) (fun k_ hk => ⟨hk.2, hk.1.2⟩))).2.1 (Kd.R_F (Kd.R_mono (ok' := (fun k_ => ((fun k_ => k_ ≠ gb355)) k_ ∧ some k_ ≠ (u5 : Value).ownBlock)) (Kd.R_types (Kd.R_apart' (HO358.out) (Kd.N_typed HO_5.out) (by decide)) BK355.out (by decide)) (fun k_ hk => ⟨hk.2, hk.1.2⟩))))); (case aB => exact (by repeat (first | (with_reducible first | exact HB.out | apply below_alloc | apply pw_below_drewN | apply below_drew1 | refine below_set ?_ GE355.out) | exact HB.out))); (case aF => exact (fun k_ hk => Kd.freshB (g := gb355) (o := .cells #[.int .i64 (wrap64 (1 + (Int.tmod (wrap64 ((Int.tmod ((rd_T45 l1 x7_1).f0) 3) + 3)) 3))), .int .i64 (Int.tmod ((rd_T45 l1 x7_1).f1) 10), .slice Ao18 y356.length co18] 38 (0, 0)) (by (with_reducible repeat (first | refine blk_drewN ?_ _ | refine blk_drew ?_ | refine blk_alloc ?_ _)); exact BK355.out) k_ hk)); (case aO => exact (by (with_reducible repeat (first | apply Kd.N_alloc | apply Kd.N_drewN | apply Kd.N_drew)); exact Kd.N_mono HO_5.out (fun _ hk => hk.2))); (case aS => exact (below_size (by repeat (first | (with_reducible first | exact HB.out | apply below_alloc | apply pw_below_drewN | apply below_drew1 | refine below_set ?_ GE355.out) | exact HB.out)))); (case aL => have := LMc9.out; omega); intro v360 w22 ho hb hg hat; rw [← Ny359.out] at ho; have n0_ := Aside0.mk (blk_grown (g := gb355) (o := .cells #[.int .i64 (wrap64 (1 + (Int.tmod (wrap64 ((Int.tmod ((rd_T45 l1 x7_1).f0) 3) + 3)) 3))), .int .i64 (Int.tmod ((rd_T45 l1 x7_1).f1) 10), .slice Ao18 y356.length co18] 38 (0, 0)) (by (with_reducible repeat (first | refine blk_drewN ?_ _ | refine blk_drew ?_ | refine blk_alloc ?_ _)); exact BK355.out) hg (Kd.N_away HO_5.out (fun _ hk => hk.2))); have n1_ := Aside0.mk (hb); have n2_ := Aside0.mk (ho); clear BK355; clear HB; clear HO_5; clear HO358; have BK355 := n0_; have HB := n1_; have HO361 := n2_; clear n0_ n1_ n2_; clear ho hb hg hat))
                    go_roundg kj2
                    case measure => have := HK1.out; have := HJ2.out; omega
                    case rel => exact ⟨(y359), (wrap64 (x6_1 + 1)), (wrap64 (x7_1 + 1)), (by first | rfl | (simp; done) | (simp [*]; done)), (by first | rfl | (simp; done) | (simp [*]; done)), H', ⟨by have := HK1.out; have := HJ2.out; omega⟩, ⟨by (with_reducible repeat (first | apply Kd.N_alloc | apply Kd.N_drewN | apply Kd.N_drew)); exact Kd.N_mono HO361.out (fun _ hk => trivial)⟩, ⟨by repeat (first | (with_reducible first | exact HB.out | apply below_alloc | apply pw_below_drewN | apply below_drew1 | refine below_set ?_ GE355.out) | exact HB.out)⟩⟩
                  · rw [if_neg c9] at H
                    exact absurd H (by simp)
                · rw [if_neg c8] at H
                  have c8b0 : ((wrap64 (1 + (Int.tmod (wrap64 ((Int.tmod ((rd_T45 l1 x7_1).f0) 3) + 3)) 3))) == 1) = false := beq_eq_false_iff_ne.mpr c8
                  have c8b1 : ((wrap64 (1 + (Int.tmod (wrap64 ((Int.tmod ((rd_T45 l1 x7_1).f0) 3) + 3)) 3))) != 1) = true := bne_iff_ne.mpr c8
                  by_cases c23 : x5_1.length < 3518437208883
                  · rw [if_pos c23] at H
                    have LMc23 := Aside0.mk c23
                    clear c23
                    obtain ⟨y362, hy362⟩ : ∃ y_ : List (S38), y_ = (x5_1 ++ [(⟨wrap64 (1 + (Int.tmod (wrap64 ((Int.tmod ((rd_T45 l1 x7_1).f0) 3) + 3)) 3)), Int.tmod ((rd_T45 l1 x7_1).f1) 10, ([] : List Int)⟩ : S38)]) := ⟨_, rfl⟩
                    replace H : (selfstablaw41_ChannelOrder.l0 kj2 (wrap64 (1 + (Int.tmod (wrap64 ((Int.tmod a0 8) + 8)) 8))) l1 y362 x6_1 (wrap64 (x7_1 + 1))) = some r := by first | (rw [hy362]; with_reducible exact H) | (have H2_ := (Option.bind_some _ _).symm.trans H; rw [hy362]; with_reducible exact H2_) | (have H2_ := (Option.bind_some _ _).symm.trans H; with_reducible exact H2_) | with_reducible exact H | (rw [hy362]; exact H) | exact H
                    have Ny362 := Aside0.mk hy362
                    clear hy362
                    have H' := Aside0.mk H
                    clear H
                    try go_wp2
                    have n0_ := Aside0.mk (Kd.N_drew HO_5.out)
                    have n1_ := Aside0.mk (below_drew1 HB.out)
                    clear HO_5
                    clear HB
                    have HO_5 := n0_
                    have HB := n1_
                    clear n0_ n1_
                    have p353 : 0 ≤ (x7_1 : Int) := of_decide_eq_true (by first | (with_reducible assumption) | assumption)
                    have q353 : x7_1 < (l1.length : Int) := of_decide_eq_true (by first | (with_reducible assumption) | assumption)
                    obtain ⟨ad353, e353, hx353_0, hx353_1⟩ := at_T45 HR1.out x7_1 p353 q353
                    have hw353_1 := hx353_1
                    have hw353_0 := hx353_0
                    cases e353
                    replace hx353_0 := (HB.out.cell (World.block_lt_of_cell? w _ hx353_0)).trans hx353_0
                    replace hx353_1 := (HB.out.cell (World.block_lt_of_cell? w _ hx353_1)).trans hx353_1
                    replace p353 := eq_true p353
                    replace q353 := eq_true q353
                    have p354 : 0 ≤ (x7_1 : Int) := of_decide_eq_true (by first | (with_reducible assumption) | assumption)
                    have q354 : x7_1 < (l1.length : Int) := of_decide_eq_true (by first | (with_reducible assumption) | assumption)
                    obtain ⟨ad354, e354, hx354_0, hx354_1⟩ := at_T45 HR1.out x7_1 p354 q354
                    have hw354_1 := hx354_1
                    have hw354_0 := hx354_0
                    obtain rfl : ad353 = ad354 := (by injection e354)
                    replace hx354_0 := (HB.out.cell (World.block_lt_of_cell? w _ hx354_0)).trans hx354_0
                    replace hx354_1 := (HB.out.cell (World.block_lt_of_cell? w _ hx354_1)).trans hx354_1
                    replace p354 := eq_true p354
                    replace q354 := eq_true q354
                    refine start_ (n := 18) (S := fun w' => w'.cell? (ad353.add ((x7_1).toNat * 2)) = some (.int .i64 ((rd_T45 l1 x7_1).f0)) ∧ w'.cell? ⟨(ad353.add ((x7_1).toNat * 2)).block, (ad353.add ((x7_1).toNat * 2)).off + 1, none⟩ = some (.int .i64 ((rd_T45 l1 x7_1).f1)) ∧ w'.cell? (ad353.add ((x7_1).toNat * 2)) = some (.int .i64 ((rd_T45 l1 x7_1).f0)) ∧ w'.cell? ⟨(ad353.add ((x7_1).toNat * 2)).block, (ad353.add ((x7_1).toNat * 2)).off + 1, none⟩ = some (.int .i64 ((rd_T45 l1 x7_1).f1))) (ds := []) #[false, false, false, false, false, false, false, false, false, false, false, false, false, false, false, false, false, false] (by kernel_rfl) rfl rfl ⟨((HB.out.cell (World.block_lt_of_cell? w _ hw353_0)).trans hw353_0), ((HB.out.cell (World.block_lt_of_cell? w _ hw353_1)).trans hw353_1), ((HB.out.cell (World.block_lt_of_cell? w _ hw354_0)).trans hw354_0), ((HB.out.cell (World.block_lt_of_cell? w _ hw354_1)).trans hw354_1)⟩ (fun hHeld => ?_); refine with_tabW selfstablaw41_ChannelOrder.tab7 selfstablaw41_ChannelOrder.bits7 (fun HT_ HW_ => ?_)
                    generalize wc.drew = w24 at HO_5 HB hx353_0 hx353_1 hx354_0 hx354_1 hHeld ⊢
                    refine pure_ (i := 0) (N := some 30) (v := ?_) (a' := ?_) #[true, false, false, false, false, false, false, false, false, false, false, false, false, false, false, false, false, false] rfl rfl (any_of HT_.out (by kernel_rfl)) (fun _ _ _ h => h) (Or.inl ⟨by rfl, ?_⟩) ?_ ?_
                    rotate_left
                    · intro w'
                      go_simp
                      with_reducible rfl
                    rotate_left
                    · simp only [Act.put, List.setIfInBounds_toArray, List.set_cons_zero, List.set_cons_succ, i64_w, i32_w]
                      rfl
                    refine pure_ (i := 1) (N := some 31) (v := ?_) (a' := ?_) #[true, true, false, false, false, false, false, false, false, false, false, false, false, false, false, false, false, false] rfl rfl (any_of HT_.out (by kernel_rfl)) (fun _ _ _ h => h) (Or.inl ⟨by rfl, ?_⟩) ?_ ?_
                    rotate_left
                    · intro w'
                      go_simp
                      with_reducible rfl
                    rotate_left
                    · simp only [Act.put, List.setIfInBounds_toArray, List.set_cons_zero, List.set_cons_succ, i64_w, i32_w]
                      rfl
                    refine pure_ (i := 2) (N := some 32) (v := ?_) (a' := ?_) #[true, true, true, false, false, false, false, false, false, false, false, false, false, false, false, false, false, false] rfl rfl (any_of HT_.out (by kernel_rfl)) (fun _ _ _ h => h) (Or.inl ⟨by rfl, ?_⟩) ?_ ?_
                    rotate_left
                    · intro w'
                      go_simp
                      with_reducible rfl
                    rotate_left
                    · simp only [Act.put, List.setIfInBounds_toArray, List.set_cons_zero, List.set_cons_succ, i64_w, i32_w]
                      rfl
                    refine pure_ (i := 3) (N := some 33) (v := ?_) (a' := ?_) #[true, true, true, true, false, false, false, false, false, false, false, false, false, false, false, false, false, false] rfl rfl (any_of HT_.out (by kernel_rfl)) (fun _ _ _ h => h) (Or.inl ⟨by rfl, ?_⟩) ?_ ?_
                    rotate_left
                    · intro w'
                      go_simp
                      with_reducible rfl
                    rotate_left
                    · simp only [Act.put, List.setIfInBounds_toArray, List.set_cons_zero, List.set_cons_succ, i64_w, i32_w]
                      rfl
                    refine pure_ (i := 9) (N := some 39) (v := ?_) (a' := ?_) #[true, true, true, true, false, false, false, false, false, true, false, false, false, false, false, false, false, false] rfl rfl (any_of HT_.out (by kernel_rfl)) (fun _ _ _ h => h) (Or.inl ⟨by rfl, ?_⟩) ?_ ?_
                    rotate_left
                    · intro w'
                      go_simp
                      with_reducible rfl
                    rotate_left
                    · simp only [Act.put, List.setIfInBounds_toArray, List.set_cons_zero, List.set_cons_succ, i64_w, i32_w]
                      rfl
                    refine pure_ (i := 10) (N := some 40) (v := ?_) (a' := ?_) #[true, true, true, true, false, false, false, false, false, true, true, false, false, false, false, false, false, false] rfl rfl (any_of HT_.out (by kernel_rfl)) (fun _ _ _ h => h) (Or.inl ⟨by rfl, ?_⟩) ?_ ?_
                    rotate_left
                    · intro w'
                      go_simp
                      with_reducible rfl
                    rotate_left
                    · simp only [Act.put, List.setIfInBounds_toArray, List.set_cons_zero, List.set_cons_succ, i64_w, i32_w]
                      rfl
                    refine pure_ (i := 11) (N := some 41) (v := ?_) (a' := ?_) #[true, true, true, true, false, false, false, false, false, true, true, true, false, false, false, false, false, false] rfl rfl (any_of HT_.out (by kernel_rfl)) (fun _ _ _ h => h) (Or.inl ⟨by rfl, ?_⟩) ?_ ?_
                    rotate_left
                    · intro w'
                      go_simp
                      with_reducible rfl
                    rotate_left
                    · simp only [Act.put, List.setIfInBounds_toArray, List.set_cons_zero, List.set_cons_succ, i64_w, i32_w]
                      rfl
                    refine pure_ (i := 12) (N := some 42) (v := ?_) (a' := ?_) #[true, true, true, true, false, false, false, false, false, true, true, true, true, false, false, false, false, false] rfl rfl (any_of HT_.out (by kernel_rfl)) (fun _ _ _ h => h) (Or.inl ⟨by rfl, ?_⟩) ?_ ?_
                    rotate_left
                    · intro w'
                      go_simp
                      with_reducible rfl
                    rotate_left
                    · simp only [Act.put, List.setIfInBounds_toArray, List.set_cons_zero, List.set_cons_succ, i64_w, i32_w]
                      rfl
                    refine take_ (i := 4) (N := some 34) (v := ?_) (a' := ?_) #[true, true, true, true, true, false, false, false, false, true, true, true, true, false, false, false, false, false] rfl rfl (take_ofW HT_.out HW_.out (by kernel_rfl)) (fun _ _ _ h => h) (Or.inl ⟨by rfl, ?_⟩) hHeld ?_ ?_
                    rotate_left
                    · rintro w' ⟨s0, s1, s2, s3⟩
                      go_simp
                      with_reducible rfl
                    rotate_left
                    · simp only [Act.put, List.setIfInBounds_toArray, List.set_cons_zero, List.set_cons_succ, i64_w, i32_w]
                      rfl
                    refine pure_ (i := 5) (N := some 35) (v := ?_) (a' := ?_) #[true, true, true, true, true, true, false, false, false, true, true, true, true, false, false, false, false, false] rfl rfl (any_of HT_.out (by kernel_rfl)) (fun _ _ _ h => h) (Or.inl ⟨by rfl, ?_⟩) ?_ ?_
                    rotate_left
                    · intro w'
                      go_simp
                      with_reducible rfl
                    rotate_left
                    · simp only [Act.put, List.setIfInBounds_toArray, List.set_cons_zero, List.set_cons_succ, i64_w, i32_w]
                      rfl
                    refine pure_ (i := 6) (N := some 36) (v := ?_) (a' := ?_) #[true, true, true, true, true, true, true, false, false, true, true, true, true, false, false, false, false, false] rfl rfl (any_of HT_.out (by kernel_rfl)) (fun _ _ _ h => h) (Or.inl ⟨by rfl, ?_⟩) ?_ ?_
                    rotate_left
                    · intro w'
                      go_simp
                      with_reducible rfl
                    rotate_left
                    · simp only [Act.put, List.setIfInBounds_toArray, List.set_cons_zero, List.set_cons_succ, i64_w, i32_w]
                      rfl
                    refine pure_ (i := 7) (N := some 37) (v := ?_) (a' := ?_) #[true, true, true, true, true, true, true, true, false, true, true, true, true, false, false, false, false, false] rfl rfl (any_of HT_.out (by kernel_rfl)) (fun _ _ _ h => h) (Or.inl ⟨by rfl, ?_⟩) ?_ ?_
                    rotate_left
                    · intro w'
                      go_simp
                      with_reducible rfl
                    rotate_left
                    · simp only [Act.put, List.setIfInBounds_toArray, List.set_cons_zero, List.set_cons_succ, i64_w, i32_w]
                      rfl
                    refine pure_ (i := 8) (N := some 38) (v := ?_) (a' := ?_) #[true, true, true, true, true, true, true, true, true, true, true, true, true, false, false, false, false, false] rfl rfl (any_of HT_.out (by kernel_rfl)) (fun _ _ _ h => h) (Or.inl ⟨by rfl, ?_⟩) ?_ ?_
                    rotate_left
                    · intro w'
                      go_simp
                      with_reducible rfl
                    rotate_left
                    · simp only [Act.put, List.setIfInBounds_toArray, List.set_cons_zero, List.set_cons_succ, i64_w, i32_w]
                      rfl
                    refine take_ (i := 13) (N := some 43) (v := ?_) (a' := ?_) #[true, true, true, true, true, true, true, true, true, true, true, true, true, true, false, false, false, false] rfl rfl (take_ofW HT_.out HW_.out (by kernel_rfl)) (fun _ _ _ h => h) (Or.inl ⟨by rfl, ?_⟩) hHeld ?_ ?_
                    rotate_left
                    · rintro w' ⟨s0, s1, s2, s3⟩
                      go_simp
                      with_reducible rfl
                    rotate_left
                    · simp only [Act.put, List.setIfInBounds_toArray, List.set_cons_zero, List.set_cons_succ, i64_w, i32_w]
                      rfl
                    refine pure_ (i := 14) (N := some 44) (v := ?_) (a' := ?_) #[true, true, true, true, true, true, true, true, true, true, true, true, true, true, true, false, false, false] rfl rfl (any_of HT_.out (by kernel_rfl)) (fun _ _ _ h => h) (Or.inl ⟨by rfl, ?_⟩) ?_ ?_
                    rotate_left
                    · intro w'
                      go_simp
                      with_reducible rfl
                    rotate_left
                    · simp only [Act.put, List.setIfInBounds_toArray, List.set_cons_zero, List.set_cons_succ, i64_w, i32_w]
                      rfl
                    refine pure_ (i := 15) (N := some 45) (v := ?_) (a' := ?_) #[true, true, true, true, true, true, true, true, true, true, true, true, true, true, true, true, false, false] rfl rfl (any_of HT_.out (by kernel_rfl)) (fun _ _ _ h => h) (Or.inl ⟨by rfl, ?_⟩) ?_ ?_
                    rotate_left
                    · intro w'
                      go_simp
                      with_reducible rfl
                    rotate_left
                    · simp only [Act.put, List.setIfInBounds_toArray, List.set_cons_zero, List.set_cons_succ, i64_w, i32_w]
                      rfl
                    refine one_ (i := 16) (N := some 8) #[true, true, true, true, true, true, true, true, true, true, true, true, true, true, true, true, true, false] rfl rfl (one_of HT_.out (by kernel_rfl)) (by decide) (fun K hK => ?_)
                    refine box_step ?hg (N := 8) ?hd (cs := #[.int .i64 0, .int .i64 0, .slice none 0 0]) (t := 38) ?hr ?_; (case hd => rfl); (case hg => rfl); (case hr => first | (go_simp; done) | (go_simp; rfl))
                    intro gb355 hg w25 hbox hb
                    have n0_ := Aside0.mk (Kd.N_below (Kd.N_elderB (by (with_reducible repeat (first | apply Kd.N_alloc | apply Kd.N_drewN | apply Kd.N_drew)); exact HO_5.out) gb355 (Nat.le_of_eq hg.symm)) hb)
                    have n1_ := Aside0.mk (below_step (by repeat (first | (with_reducible first | exact HB.out | apply below_alloc | apply pw_below_drewN | apply below_drew1) | exact HB.out)) hb)
                    have n2_ := Aside0.mk (hbox)
                    have n3_ := Aside0.mk ((by rw [hg]; exact (below_size (by repeat (first | (with_reducible first | exact HB.out | apply below_alloc | apply pw_below_drewN | apply below_drew1) | exact HB.out))) : w.heap.size ≤ gb355))
                    have n4_ := Aside0.mk ((by rw [hg]; exact (below_size (by repeat (first | (with_reducible first | exact HB.out | apply below_alloc | apply pw_below_drewN | apply below_drew1) | exact HB.out))) : w.heap.size ≤ gb355))
                    clear HO_5
                    clear HB
                    have HO_5 := n0_
                    have HB := n1_
                    have BK355 := n2_
                    have GW355 := n3_
                    have GE355 := n4_
                    clear n0_ n1_ n2_ n3_ n4_
                    clear hb hbox hg
                    refine hK.out _ _ ⟨((HB.out.cell (World.block_lt_of_cell? w _ hw353_0)).trans hw353_0), ((HB.out.cell (World.block_lt_of_cell? w _ hw353_1)).trans hw353_1), ((HB.out.cell (World.block_lt_of_cell? w _ hw354_0)).trans hw354_0), ((HB.out.cell (World.block_lt_of_cell? w _ hw354_1)).trans hw354_1)⟩ (fun hHeld => ?_)
                    clear hK K
                    refine norm_ (a' := ?_) ?_ ?_
                    rotate_left
                    · show Act.put _ (some 8) _ = _
                      simp only [Act.put, List.setIfInBounds_toArray, List.set_cons_zero, List.set_cons_succ, i64_w, i32_w]
                      rfl
                    refine one_ (i := 17) (N := none) #[true, true, true, true, true, true, true, true, true, true, true, true, true, true, true, true, true, true] rfl rfl (one_of HT_.out (by kernel_rfl)) (by decide) (fun K hK => ?_)
                    have hs26 : w25.cell? ⟨gb355, 0, none⟩ = some (.int .i64 0) := (blk_cell BK355.out 0).trans rfl
                    have hfs26 := blk_frozen BK355.out 0
                    have hs27 : w25.cell? ⟨gb355, 1, none⟩ = some (.int .i64 0) := (blk_cell BK355.out 1).trans rfl
                    have hfs27 := blk_frozen BK355.out 1
                    have hs28 : w25.cell? ⟨gb355, 2, none⟩ = some (.slice none 0 0) := (blk_cell BK355.out 2).trans rfl
                    have hfs28 := blk_frozen BK355.out 2
                    refine skip_ (w1 := ?_) (by rfl) rfl ?_ ?_
                    rotate_left
                    · go_simp
                      rfl
                    refine hK.out _ _ ⟨((cell_far (p := ⟨gb355, _, none⟩) (by first | exact Nat.ne_of_lt (Nat.lt_of_lt_of_le (by have := World.block_lt_of_cell? _ _ hw353_0; first | rwa [add_block] at this | exact this) GW355.out) | (rw [add_block]; exact Nat.ne_of_lt (Nat.lt_of_lt_of_le (by have := World.block_lt_of_cell? _ _ hw353_0; first | rwa [add_block] at this | exact this) GW355.out)) | (show (Addr.add _ _).block ≠ _; rw [add_block]; exact Nat.ne_of_lt (Nat.lt_of_lt_of_le (by have := World.block_lt_of_cell? _ _ hw353_0; first | rwa [add_block] at this | exact this) GW355.out)) | (dsimp only; exact Nat.ne_of_lt (Nat.lt_of_lt_of_le (by have := World.block_lt_of_cell? _ _ hw353_0; first | rwa [add_block] at this | exact this) GW355.out))) _).trans (((cell_far (p := ⟨gb355, _, none⟩) (by first | exact Nat.ne_of_lt (Nat.lt_of_lt_of_le (by have := World.block_lt_of_cell? _ _ hw353_0; first | rwa [add_block] at this | exact this) GW355.out) | (rw [add_block]; exact Nat.ne_of_lt (Nat.lt_of_lt_of_le (by have := World.block_lt_of_cell? _ _ hw353_0; first | rwa [add_block] at this | exact this) GW355.out)) | (show (Addr.add _ _).block ≠ _; rw [add_block]; exact Nat.ne_of_lt (Nat.lt_of_lt_of_le (by have := World.block_lt_of_cell? _ _ hw353_0; first | rwa [add_block] at this | exact this) GW355.out)) | (dsimp only; exact Nat.ne_of_lt (Nat.lt_of_lt_of_le (by have := World.block_lt_of_cell? _ _ hw353_0; first | rwa [add_block] at this | exact this) GW355.out))) _).trans (((cell_far (p := ⟨gb355, _, none⟩) (by first | exact Nat.ne_of_lt (Nat.lt_of_lt_of_le (by have := World.block_lt_of_cell? _ _ hw353_0; first | rwa [add_block] at this | exact this) GW355.out) | (rw [add_block]; exact Nat.ne_of_lt (Nat.lt_of_lt_of_le (by have := World.block_lt_of_cell? _ _ hw353_0; first | rwa [add_block] at this | exact this) GW355.out)) | (show (Addr.add _ _).block ≠ _; rw [add_block]; exact Nat.ne_of_lt (Nat.lt_of_lt_of_le (by have := World.block_lt_of_cell? _ _ hw353_0; first | rwa [add_block] at this | exact this) GW355.out)) | (dsimp only; exact Nat.ne_of_lt (Nat.lt_of_lt_of_le (by have := World.block_lt_of_cell? _ _ hw353_0; first | rwa [add_block] at this | exact this) GW355.out))) _).trans (hHeld.1)))))), ((cell_far (p := ⟨gb355, _, none⟩) (by first | exact Nat.ne_of_lt (Nat.lt_of_lt_of_le (by have := World.block_lt_of_cell? _ _ hw353_1; first | rwa [add_block] at this | exact this) GW355.out) | (rw [add_block]; exact Nat.ne_of_lt (Nat.lt_of_lt_of_le (by have := World.block_lt_of_cell? _ _ hw353_1; first | rwa [add_block] at this | exact this) GW355.out)) | (show (Addr.add _ _).block ≠ _; rw [add_block]; exact Nat.ne_of_lt (Nat.lt_of_lt_of_le (by have := World.block_lt_of_cell? _ _ hw353_1; first | rwa [add_block] at this | exact this) GW355.out)) | (dsimp only; exact Nat.ne_of_lt (Nat.lt_of_lt_of_le (by have := World.block_lt_of_cell? _ _ hw353_1; first | rwa [add_block] at this | exact this) GW355.out))) _).trans (((cell_far (p := ⟨gb355, _, none⟩) (by first | exact Nat.ne_of_lt (Nat.lt_of_lt_of_le (by have := World.block_lt_of_cell? _ _ hw353_1; first | rwa [add_block] at this | exact this) GW355.out) | (rw [add_block]; exact Nat.ne_of_lt (Nat.lt_of_lt_of_le (by have := World.block_lt_of_cell? _ _ hw353_1; first | rwa [add_block] at this | exact this) GW355.out)) | (show (Addr.add _ _).block ≠ _; rw [add_block]; exact Nat.ne_of_lt (Nat.lt_of_lt_of_le (by have := World.block_lt_of_cell? _ _ hw353_1; first | rwa [add_block] at this | exact this) GW355.out)) | (dsimp only; exact Nat.ne_of_lt (Nat.lt_of_lt_of_le (by have := World.block_lt_of_cell? _ _ hw353_1; first | rwa [add_block] at this | exact this) GW355.out))) _).trans (((cell_far (p := ⟨gb355, _, none⟩) (by first | exact Nat.ne_of_lt (Nat.lt_of_lt_of_le (by have := World.block_lt_of_cell? _ _ hw353_1; first | rwa [add_block] at this | exact this) GW355.out) | (rw [add_block]; exact Nat.ne_of_lt (Nat.lt_of_lt_of_le (by have := World.block_lt_of_cell? _ _ hw353_1; first | rwa [add_block] at this | exact this) GW355.out)) | (show (Addr.add _ _).block ≠ _; rw [add_block]; exact Nat.ne_of_lt (Nat.lt_of_lt_of_le (by have := World.block_lt_of_cell? _ _ hw353_1; first | rwa [add_block] at this | exact this) GW355.out)) | (dsimp only; exact Nat.ne_of_lt (Nat.lt_of_lt_of_le (by have := World.block_lt_of_cell? _ _ hw353_1; first | rwa [add_block] at this | exact this) GW355.out))) _).trans (hHeld.2.1)))))), ((cell_far (p := ⟨gb355, _, none⟩) (by first | exact Nat.ne_of_lt (Nat.lt_of_lt_of_le (by have := World.block_lt_of_cell? _ _ hw354_0; first | rwa [add_block] at this | exact this) GW355.out) | (rw [add_block]; exact Nat.ne_of_lt (Nat.lt_of_lt_of_le (by have := World.block_lt_of_cell? _ _ hw354_0; first | rwa [add_block] at this | exact this) GW355.out)) | (show (Addr.add _ _).block ≠ _; rw [add_block]; exact Nat.ne_of_lt (Nat.lt_of_lt_of_le (by have := World.block_lt_of_cell? _ _ hw354_0; first | rwa [add_block] at this | exact this) GW355.out)) | (dsimp only; exact Nat.ne_of_lt (Nat.lt_of_lt_of_le (by have := World.block_lt_of_cell? _ _ hw354_0; first | rwa [add_block] at this | exact this) GW355.out))) _).trans (((cell_far (p := ⟨gb355, _, none⟩) (by first | exact Nat.ne_of_lt (Nat.lt_of_lt_of_le (by have := World.block_lt_of_cell? _ _ hw354_0; first | rwa [add_block] at this | exact this) GW355.out) | (rw [add_block]; exact Nat.ne_of_lt (Nat.lt_of_lt_of_le (by have := World.block_lt_of_cell? _ _ hw354_0; first | rwa [add_block] at this | exact this) GW355.out)) | (show (Addr.add _ _).block ≠ _; rw [add_block]; exact Nat.ne_of_lt (Nat.lt_of_lt_of_le (by have := World.block_lt_of_cell? _ _ hw354_0; first | rwa [add_block] at this | exact this) GW355.out)) | (dsimp only; exact Nat.ne_of_lt (Nat.lt_of_lt_of_le (by have := World.block_lt_of_cell? _ _ hw354_0; first | rwa [add_block] at this | exact this) GW355.out))) _).trans (((cell_far (p := ⟨gb355, _, none⟩) (by first | exact Nat.ne_of_lt (Nat.lt_of_lt_of_le (by have := World.block_lt_of_cell? _ _ hw354_0; first | rwa [add_block] at this | exact this) GW355.out) | (rw [add_block]; exact Nat.ne_of_lt (Nat.lt_of_lt_of_le (by have := World.block_lt_of_cell? _ _ hw354_0; first | rwa [add_block] at this | exact this) GW355.out)) | (show (Addr.add _ _).block ≠ _; rw [add_block]; exact Nat.ne_of_lt (Nat.lt_of_lt_of_le (by have := World.block_lt_of_cell? _ _ hw354_0; first | rwa [add_block] at this | exact this) GW355.out)) | (dsimp only; exact Nat.ne_of_lt (Nat.lt_of_lt_of_le (by have := World.block_lt_of_cell? _ _ hw354_0; first | rwa [add_block] at this | exact this) GW355.out))) _).trans (hHeld.2.2.1)))))), ((cell_far (p := ⟨gb355, _, none⟩) (by first | exact Nat.ne_of_lt (Nat.lt_of_lt_of_le (by have := World.block_lt_of_cell? _ _ hw354_1; first | rwa [add_block] at this | exact this) GW355.out) | (rw [add_block]; exact Nat.ne_of_lt (Nat.lt_of_lt_of_le (by have := World.block_lt_of_cell? _ _ hw354_1; first | rwa [add_block] at this | exact this) GW355.out)) | (show (Addr.add _ _).block ≠ _; rw [add_block]; exact Nat.ne_of_lt (Nat.lt_of_lt_of_le (by have := World.block_lt_of_cell? _ _ hw354_1; first | rwa [add_block] at this | exact this) GW355.out)) | (dsimp only; exact Nat.ne_of_lt (Nat.lt_of_lt_of_le (by have := World.block_lt_of_cell? _ _ hw354_1; first | rwa [add_block] at this | exact this) GW355.out))) _).trans (((cell_far (p := ⟨gb355, _, none⟩) (by first | exact Nat.ne_of_lt (Nat.lt_of_lt_of_le (by have := World.block_lt_of_cell? _ _ hw354_1; first | rwa [add_block] at this | exact this) GW355.out) | (rw [add_block]; exact Nat.ne_of_lt (Nat.lt_of_lt_of_le (by have := World.block_lt_of_cell? _ _ hw354_1; first | rwa [add_block] at this | exact this) GW355.out)) | (show (Addr.add _ _).block ≠ _; rw [add_block]; exact Nat.ne_of_lt (Nat.lt_of_lt_of_le (by have := World.block_lt_of_cell? _ _ hw354_1; first | rwa [add_block] at this | exact this) GW355.out)) | (dsimp only; exact Nat.ne_of_lt (Nat.lt_of_lt_of_le (by have := World.block_lt_of_cell? _ _ hw354_1; first | rwa [add_block] at this | exact this) GW355.out))) _).trans (((cell_far (p := ⟨gb355, _, none⟩) (by first | exact Nat.ne_of_lt (Nat.lt_of_lt_of_le (by have := World.block_lt_of_cell? _ _ hw354_1; first | rwa [add_block] at this | exact this) GW355.out) | (rw [add_block]; exact Nat.ne_of_lt (Nat.lt_of_lt_of_le (by have := World.block_lt_of_cell? _ _ hw354_1; first | rwa [add_block] at this | exact this) GW355.out)) | (show (Addr.add _ _).block ≠ _; rw [add_block]; exact Nat.ne_of_lt (Nat.lt_of_lt_of_le (by have := World.block_lt_of_cell? _ _ hw354_1; first | rwa [add_block] at this | exact this) GW355.out)) | (dsimp only; exact Nat.ne_of_lt (Nat.lt_of_lt_of_le (by have := World.block_lt_of_cell? _ _ hw354_1; first | rwa [add_block] at this | exact this) GW355.out))) _).trans (hHeld.2.2.2))))))⟩ (fun hHeld => ?_)
                    clear hK K
                    refine done_ (done_of HT_.out (by kernel_rfl)) ?_
                    have hcz29_0 : w25.cell? ⟨gb355, 0, none⟩ = some (.int .i64 0) := (blk_cell BK355.out 0).trans rfl
                    have hcz29_1 : w25.cell? ⟨gb355, 1, none⟩ = some (.int .i64 0) := (blk_cell BK355.out 1).trans rfl
                    have hcz29_2 : w25.cell? ⟨gb355, 2, none⟩ = some (.slice none 0 0) := (blk_cell BK355.out 2).trans rfl
                    have hfz29_0 := blk_frozen BK355.out 0
                    have hfz29_1 := blk_frozen BK355.out 1
                    have hfz29_2 := blk_frozen BK355.out 2
                    try go_wp2_with (first | ((with_reducible refine gate_builtin (b := .append) (xs := #[.tmp 54, .tmp 56]) rfl ?_); (try (refine gate_guard (by rfl) ?_; dsimp only)); at_builtin; refine Kd.N_append k38 (w0 := w) w.heap.size rfl (.tmp 54) (.tmp 56) 36 38 (.agg #[(.int .i64 0), (.int .i64 0), (.slice none 0 0)]) 40 rfl Try.underlying36 info38 rfl (by decide) (by omega) u5 x5_1 (⟨wrap64 (1 + (Int.tmod (wrap64 ((Int.tmod ((rd_T45 l1 x7_1).f0) 3) + 3)) 3)), Int.tmod ((rd_T45 l1 x7_1).f1) 10, ([] : List Int)⟩ : S38) [.int .i64 (wrap64 (1 + (Int.tmod (wrap64 ((Int.tmod ((rd_T45 l1 x7_1).f0) 3) + 3)) 3))), .int .i64 (Int.tmod ((rd_T45 l1 x7_1).f1) 10), .slice none 0 0] (fun k_ => k_ ≠ gb355) (fun k_ => ((fun k_ => k_ ≠ gb355)) k_ ∧ some k_ ≠ (u5 : Value).ownBlock) rfl (by first | (go_simp; done) | (go_simp; rfl)) ?aP (fun _ hk => hk) ?aF ?aO ?aB ?aS ?aL ?_; (case aP => exact (k38_mkF _ _ (⟨wrap64 (1 + (Int.tmod (wrap64 ((Int.tmod ((rd_T45 l1 x7_1).f0) 3) + 3)) 3)), Int.tmod ((rd_T45 l1 x7_1).f1) 10, ([] : List Int)⟩ : S38) (Nat.le_refl _) (Kd.F_nil _ _ _))); (case aB => exact (by repeat (first | (with_reducible first | exact HB.out | apply below_alloc | apply pw_below_drewN | apply below_drew1 | refine below_set ?_ GE355.out) | exact HB.out))); (case aF => exact (fun k_ hk => Kd.freshB (g := gb355) (o := .cells #[.int .i64 (wrap64 (1 + (Int.tmod (wrap64 ((Int.tmod ((rd_T45 l1 x7_1).f0) 3) + 3)) 3))), .int .i64 (Int.tmod ((rd_T45 l1 x7_1).f1) 10), .slice none 0 0] 38 (0, 0)) (by (with_reducible repeat (first | refine blk_drewN ?_ _ | refine blk_drew ?_ | refine blk_alloc ?_ _)); refine blk_put (cs := #[.int .i64 (wrap64 (1 + (Int.tmod (wrap64 ((Int.tmod ((rd_T45 l1 x7_1).f0) 3) + 3)) 3))), .int .i64 (Int.tmod ((rd_T45 l1 x7_1).f1) 10), .slice none 0 0]) ?_ 2 _ rfl; (with_reducible repeat (first | refine blk_drewN ?_ _ | refine blk_drew ?_ | refine blk_alloc ?_ _)); refine blk_put (cs := #[.int .i64 (wrap64 (1 + (Int.tmod (wrap64 ((Int.tmod ((rd_T45 l1 x7_1).f0) 3) + 3)) 3))), .int .i64 0, .slice none 0 0]) ?_ 1 _ rfl; (with_reducible repeat (first | refine blk_drewN ?_ _ | refine blk_drew ?_ | refine blk_alloc ?_ _)); refine blk_put (cs := #[.int .i64 0, .int .i64 0, .slice none 0 0]) ?_ 0 _ rfl; (with_reducible repeat (first | refine blk_drewN ?_ _ | refine blk_drew ?_ | refine blk_alloc ?_ _)); exact BK355.out) k_ hk)); (case aO => exact (by (with_reducible repeat (first | apply Kd.N_alloc | apply Kd.N_drewN | apply Kd.N_drew)); exact Kd.N_mono (Kd.N_far (p := ⟨gb355, 2, none⟩) (Kd.N_far (p := ⟨gb355, 1, none⟩) (Kd.N_far (p := ⟨gb355, 0, none⟩) (Kd.N_mono HO_5.out (fun k_ hk => (⟨hk, hk.2⟩ : _ ∧ k_ ≠ gb355))) (fun _ hk => hk.2) (.int .i64 (wrap64 (1 + (Int.tmod (wrap64 ((Int.tmod ((rd_T45 l1 x7_1).f0) 3) + 3)) 3))))) (fun _ hk => hk.2) (.int .i64 (Int.tmod ((rd_T45 l1 x7_1).f1) 10))) (fun _ hk => hk.2) (.slice none 0 0)) (fun _ hk => hk.1.2))); (case aS => exact (below_size (by repeat (first | (with_reducible first | exact HB.out | apply below_alloc | apply pw_below_drewN | apply below_drew1 | refine below_set ?_ GE355.out) | exact HB.out)))); (case aL => have := LMc23.out; omega); intro v363 w30 ho hb hg hat; rw [← Ny362.out] at ho; have n0_ := Aside0.mk (blk_grown (g := gb355) (o := .cells #[.int .i64 (wrap64 (1 + (Int.tmod (wrap64 ((Int.tmod ((rd_T45 l1 x7_1).f0) 3) + 3)) 3))), .int .i64 (Int.tmod ((rd_T45 l1 x7_1).f1) 10), .slice none 0 0] 38 (0, 0)) (by (with_reducible repeat (first | refine blk_drewN ?_ _ | refine blk_drew ?_ | refine blk_alloc ?_ _)); refine blk_put (cs := #[.int .i64 (wrap64 (1 + (Int.tmod (wrap64 ((Int.tmod ((rd_T45 l1 x7_1).f0) 3) + 3)) 3))), .int .i64 (Int.tmod ((rd_T45 l1 x7_1).f1) 10), .slice none 0 0]) ?_ 2 _ rfl; (with_reducible repeat (first | refine blk_drewN ?_ _ | refine blk_drew ?_ | refine blk_alloc ?_ _)); refine blk_put (cs := #[.int .i64 (wrap64 (1 + (Int.tmod (wrap64 ((Int.tmod ((rd_T45 l1 x7_1).f0) 3) + 3)) 3))), .int .i64 0, .slice none 0 0]) ?_ 1 _ rfl; (with_reducible repeat (first | refine blk_drewN ?_ _ | refine blk_drew ?_ | refine blk_alloc ?_ _)); refine blk_put (cs := #[.int .i64 0, .int .i64 0, .slice none 0 0]) ?_ 0 _ rfl; (with_reducible repeat (first | refine blk_drewN ?_ _ | refine blk_drew ?_ | refine blk_alloc ?_ _)); exact BK355.out) hg (Kd.N_away HO_5.out (fun _ hk => hk.2))); have n1_ := Aside0.mk (hb); have n2_ := Aside0.mk (ho); clear BK355; clear HB; clear HO_5; have BK355 := n0_; have HB := n1_; have HO364 := n2_; clear n0_ n1_ n2_; clear ho hb hg hat))
                    go_roundg kj2
                    case measure => have := HK1.out; have := HJ2.out; omega
                    case rel => exact ⟨(y362), (x6_1), (wrap64 (x7_1 + 1)), (by first | rfl | (simp; done) | (simp [*]; done)), (by first | rfl | (simp; done) | (simp [*]; done)), H', ⟨by have := HK1.out; have := HJ2.out; omega⟩, ⟨by (with_reducible repeat (first | apply Kd.N_alloc | apply Kd.N_drewN | apply Kd.N_drew)); exact Kd.N_mono HO364.out (fun _ hk => trivial)⟩, ⟨by repeat (first | (with_reducible first | exact HB.out | apply below_alloc | apply pw_below_drewN | apply below_drew1 | refine below_set ?_ GE355.out) | exact HB.out)⟩⟩
                  · rw [if_neg c23] at H
                    exact absurd H (by simp)
              · rw [if_neg c7] at H
                exact absurd H (by simp)
            · rw [if_neg c6] at H
              exact absurd H (by simp)
          · replace c5 := Bool.eq_false_iff.mpr c5
            subst c5
            have H1 : ((channel_Play.f kj2 (wrap64 (1 + (Int.tmod (wrap64 ((Int.tmod a0 8) + 8)) 8))) ([] : List (List Int)) x5_1).bind fun bt365 => ((some (([] : List (List Int)) : List (List Int))).bind fun y374 => (if y374.length + bt365.2.2.1.length < 5864062014805 then ((some (y374 ++ bt365.2.2.1 : List (List Int))).bind fun y377 => (if y377.length + bt365.2.1.length < 5864062014805 then (selfstablaw41_ChannelOrder.l1 kj2 (wrap64 (1 + (Int.tmod (wrap64 ((Int.tmod a0 8) + 8)) 8))) x6_1 bt365.2.2.2 (y377 ++ bt365.2.1) (-1) 0 bt365.1 bt365.2.1) else (none))) else (none)))) = some r := by rw [if_neg (show ¬ (false = true) by decide)] at H; exact H
            clear H
            have H := H1
            clear H1
            replace H := Option.bind_eq_some_iff.mp H
            obtain ⟨⟨t365, t366, t369, t372⟩, A310, H⟩ := H
            replace H : ((some (([] : List (List Int)) : List (List Int))).bind fun y374 => (if y374.length + t369.length < 5864062014805 then ((some (y374 ++ t369 : List (List Int))).bind fun y377 => (if y377.length + t366.length < 5864062014805 then (selfstablaw41_ChannelOrder.l1 kj2 (wrap64 (1 + (Int.tmod (wrap64 ((Int.tmod a0 8) + 8)) 8))) x6_1 t372 (y377 ++ t366) (-1) 0 t365 t366) else (none))) else (none))) = some r := H
            have A31 := Aside0.mk A310
            clear A310
            obtain ⟨y374, hy374⟩ : ∃ y_ : List (List Int), y_ = (([] : List (List Int))) := ⟨_, rfl⟩
            replace H : (if y374.length + t369.length < 5864062014805 then ((some (y374 ++ t369 : List (List Int))).bind fun y377 => (if y377.length + t366.length < 5864062014805 then (selfstablaw41_ChannelOrder.l1 kj2 (wrap64 (1 + (Int.tmod (wrap64 ((Int.tmod a0 8) + 8)) 8))) x6_1 t372 (y377 ++ t366) (-1) 0 t365 t366) else (none))) else (none)) = some r := by first | (rw [hy374]; with_reducible exact H) | (have H2_ := (Option.bind_some _ _).symm.trans H; rw [hy374]; with_reducible exact H2_) | (have H2_ := (Option.bind_some _ _).symm.trans H; with_reducible exact H2_) | with_reducible exact H | (rw [hy374]; exact H) | exact H
            have Ny374 := Aside0.mk hy374
            clear hy374
            by_cases c32 : y374.length + t369.length < 5864062014805
            · rw [if_pos c32] at H
              have LMc32 := Aside0.mk c32
              clear c32
              obtain ⟨y377, hy377⟩ : ∃ y_ : List (List Int), y_ = (y374 ++ t369) := ⟨_, rfl⟩
              replace H : (if y377.length + t366.length < 5864062014805 then (selfstablaw41_ChannelOrder.l1 kj2 (wrap64 (1 + (Int.tmod (wrap64 ((Int.tmod a0 8) + 8)) 8))) x6_1 t372 (y377 ++ t366) (-1) 0 t365 t366) else (none)) = some r := by first | (rw [hy377]; with_reducible exact H) | (have H2_ := (Option.bind_some _ _).symm.trans H; rw [hy377]; with_reducible exact H2_) | (have H2_ := (Option.bind_some _ _).symm.trans H; with_reducible exact H2_) | with_reducible exact H | (rw [hy377]; exact H) | exact H
              have Ny377 := Aside0.mk hy377
              clear hy377
              by_cases c33 : y377.length + t366.length < 5864062014805
              · rw [if_pos c33] at H
                have LMc33 := Aside0.mk c33
                clear c33
                obtain ⟨y380, hy380⟩ : ∃ y_ : List (List Int), y_ = (y377 ++ t366) := ⟨_, rfl⟩
                replace H : (selfstablaw41_ChannelOrder.l1 kj2 (wrap64 (1 + (Int.tmod (wrap64 ((Int.tmod a0 8) + 8)) 8))) x6_1 t372 y380 (-1) 0 t365 t366) = some r := by first | (rw [hy380]; with_reducible exact H) | (have H2_ := (Option.bind_some _ _).symm.trans H; rw [hy380]; with_reducible exact H2_) | (have H2_ := (Option.bind_some _ _).symm.trans H; with_reducible exact H2_) | with_reducible exact H | (rw [hy380]; exact H) | exact H
                have Ny380 := Aside0.mk hy380
                clear hy380
                have H' := Aside0.mk H
                clear H
                obtain ⟨Ao34, co34, eo34⟩ := Kd.N_slice HO_5.out
                subst eo34
                try go_wp2_with (first | ((with_reducible refine gate_callee (f := 19) rfl ?_); refine goesL_ (some 62) rfl rfl Try.func19 (by kernel_rfl) rfl #[.agg #[.int .i64 (wrap64 (1 + (Int.tmod (wrap64 ((Int.tmod a0 8) + 8)) 8))), .slice none 0 0], .slice Ao34 x5_1.length co34] rfl (by (try simp only [List.map_toArray, List.map_cons, List.map_nil]); first | done | rfl | (simp only [List.length_drop, List.length_take]; rfl)) ?_; (refine (channel_Play.calls kj2 (wrap64 (1 + (Int.tmod (wrap64 ((Int.tmod a0 8) + 8)) 8))) _ _ ([] : List (List Int)) _ _ x5_1 t365 t366 t369 t372 _ ?side1 ?side2 ?side3 ?side4 A31.out).mono ?_); (case side1 => exact Kd.C_nil _ _); (case side2 => exact Nat.le_refl _); (case side3 => repeat (first | exact (Kd.N_reads' HO_5.out).2.2 | (with_reducible refine Kd.C_alloc ?_ _) | (with_reducible refine Kd.C_drewN ?_ _) | (with_reducible refine Kd.C_drew ?_))); (case side4 => exact (Kd.N_reads' HO_5.out).2.1); rintro e w35 ⟨v367, v370, rfl, ho0, ho1, hb⟩; refine ⟨_, rfl, ?_⟩; have n0_ := Aside0.mk (Kd.N_mono (Kd.N_told (Kd.N_told (Kd.N_old (by (with_reducible repeat (first | apply Kd.N_alloc | apply Kd.N_drewN | apply Kd.N_drew)); exact HO_5.out) hb) (by first | exact Kd.N_base ho0 | exact Kd.S_base ho0 | exact Kd.R_base ho0)) (by first | exact Kd.N_base ho1 | exact Kd.S_base ho1 | exact Kd.R_base ho1)) (fun _ h_ => h_.1)); have n1_ := Aside0.mk (Kd.N_lower (Kd.N_mono (ok' := fun k_ => some k_ ≠ (v370 : Value).ownBlock ∧ some k_ ≠ (.slice Ao34 x5_1.length co34 : Value).ownBlock) (Kd.S_N (Kd.S_bound ho0)) (fun k_ hk_ => ⟨hk_.1, (Kd.fresh' (Kd.N_lt (by (with_reducible repeat (first | apply Kd.N_alloc | apply Kd.N_drewN | apply Kd.N_drew)); exact HO_5.out)) k_ hk_.2.1)⟩)) (below_size (by repeat (first | (with_reducible first | exact HB.out | apply below_alloc | apply pw_below_drewN | apply below_drew1) | exact HB.out)))); have n2_ := Aside0.mk (Kd.N_lower (Kd.N_mono (ok' := fun k_ => some k_ ≠ (v367 : Value).ownBlock ∧ some k_ ≠ (.slice Ao34 x5_1.length co34 : Value).ownBlock) (Kd.S_N (Kd.S_bound ho1)) (fun k_ hk_ => ⟨hk_.1, (Kd.fresh' (Kd.N_lt (by (with_reducible repeat (first | apply Kd.N_alloc | apply Kd.N_drewN | apply Kd.N_drew)); exact HO_5.out)) k_ hk_.2.1)⟩)) (below_size (by repeat (first | (with_reducible first | exact HB.out | apply below_alloc | apply pw_below_drewN | apply below_drew1) | exact HB.out)))); have n3_ := Aside0.mk (below_step (by repeat (first | (with_reducible first | exact HB.out | apply below_alloc | apply pw_below_drewN | apply below_drew1) | exact HB.out)) hb); clear HO_5; clear HB; have HO_5 := n0_; have HO368 := n1_; have HO371 := n2_; have HB := n3_; clear n0_ n1_ n2_ n3_; (try clear hb); (try clear hb2); (try clear hk); (try clear hi); (try clear ho0); (try clear ho1)) | ((with_reducible refine gate_dst (N := 9) rfl ?_); (try (refine gate_guard (by rfl) ?_; dsimp only)); refine box_event ?hg (N := 9) ?hd (cs := #[.int .i64 0, .slice none 0 0]) (t := 24) ?hr ?_; (case hd => rfl); (case hg => rfl); (case hr => first | (go_simp; done) | (go_simp; rfl)); intro gb373 hg w36 hbox hb; have n0_ := Aside0.mk (Kd.N_below (Kd.N_elderB (by (with_reducible repeat (first | apply Kd.N_alloc | apply Kd.N_drewN | apply Kd.N_drew)); exact HO_5.out) gb373 (Nat.le_of_eq hg.symm)) hb); have n1_ := Aside0.mk (Kd.N_below (Kd.N_elderB (by (with_reducible repeat (first | apply Kd.N_alloc | apply Kd.N_drewN | apply Kd.N_drew)); exact HO368.out) gb373 (Nat.le_of_eq hg.symm)) hb); have n2_ := Aside0.mk (Kd.N_below (Kd.N_elderB (by (with_reducible repeat (first | apply Kd.N_alloc | apply Kd.N_drewN | apply Kd.N_drew)); exact HO371.out) gb373 (Nat.le_of_eq hg.symm)) hb); have n3_ := Aside0.mk (below_step (by repeat (first | (with_reducible first | exact HB.out | apply below_alloc | apply pw_below_drewN | apply below_drew1) | exact HB.out)) hb); have n4_ := Aside0.mk (hbox); have n5_ := Aside0.mk ((by rw [hg]; exact (below_size (by repeat (first | (with_reducible first | exact HB.out | apply below_alloc | apply pw_below_drewN | apply below_drew1) | exact HB.out))) : w.heap.size ≤ gb373)); have n6_ := Aside0.mk ((by rw [hg]; exact (below_size (by repeat (first | (with_reducible first | exact HB.out | apply below_alloc | apply pw_below_drewN | apply below_drew1) | exact HB.out))) : w.heap.size ≤ gb373)); clear HO_5; clear HO368; clear HO371; clear HB; have HO_5 := n0_; have HO368 := n1_; have HO371 := n2_; have HB := n3_; have BK373 := n4_; have GW373 := n5_; have GE373 := n6_; clear n0_ n1_ n2_ n3_ n4_ n5_ n6_; clear hb hbox hg; have hcz37_0 : w36.cell? ⟨gb373, 0, none⟩ = some (.int .i64 0) := (blk_cell BK373.out 0).trans rfl; have hcz37_1 : w36.cell? ⟨gb373, 1, none⟩ = some (.slice none 0 0) := (blk_cell BK373.out 1).trans rfl; have hfz37_0 := blk_frozen BK373.out 0; have hfz37_1 := blk_frozen BK373.out 1; obtain ⟨Ao38, co38, eo38⟩ := Kd.N_slice HO368.out; subst eo38))
                have n0_ : Aside0 (Kd.N k38 38 ((w36.setCell ⟨gb373, 0, none⟩ (.int .i64 t365)).setCell ⟨gb373, 1, none⟩ (.slice Ao38 t366.length co38)) w.heap.size (fun k_ => some k_ ≠ (.slice Ao38 t366.length co38 : Value).ownBlock ∧ some k_ ≠ (v370 : Value).ownBlock ∧ k_ ≠ gb373) (.slice Ao34 x5_1.length co34) x5_1) := ⟨by (with_reducible repeat (first | apply Kd.N_alloc | apply Kd.N_drewN | apply Kd.N_drew)); exact Kd.N_mono (Kd.N_far (p := ⟨gb373, 1, none⟩) (Kd.N_far (p := ⟨gb373, 0, none⟩) (Kd.N_mono HO_5.out (fun k_ hk => (⟨hk, hk.2⟩ : _ ∧ k_ ≠ gb373))) (fun _ hk => hk.2) (.int .i64 t365)) (fun _ hk => hk.2) (.slice Ao38 t366.length co38)) (fun _ hk => ⟨hk.1.1.1.2, ⟨hk.1.1.2, hk.1.2⟩⟩)⟩
                have n1_ : Aside0 (Kd.N (Kd.slice 3 (Kd.int .i64)) 25 ((w36.setCell ⟨gb373, 0, none⟩ (.int .i64 t365)).setCell ⟨gb373, 1, none⟩ (.slice Ao38 t366.length co38)) w.heap.size (fun k_ => some k_ ≠ (.slice Ao34 x5_1.length co34 : Value).ownBlock ∧ some k_ ≠ (v370 : Value).ownBlock ∧ k_ ≠ gb373) (.slice Ao38 t366.length co38) t366) := ⟨by (with_reducible repeat (first | apply Kd.N_alloc | apply Kd.N_drewN | apply Kd.N_drew)); exact Kd.N_mono (Kd.N_far (p := ⟨gb373, 1, none⟩) (Kd.N_far (p := ⟨gb373, 0, none⟩) (Kd.N_mono HO368.out (fun k_ hk => (⟨hk, hk.2⟩ : _ ∧ k_ ≠ gb373))) (fun _ hk => hk.2) (.int .i64 t365)) (fun _ hk => hk.2) (.slice Ao38 t366.length co38)) (fun _ hk => ⟨hk.1.1.2, ⟨hk.1.1.1, hk.1.2⟩⟩)⟩
                have n2_ : Aside0 (Kd.N (Kd.slice 3 (Kd.int .i64)) 25 ((w36.setCell ⟨gb373, 0, none⟩ (.int .i64 t365)).setCell ⟨gb373, 1, none⟩ (.slice Ao38 t366.length co38)) w.heap.size (fun k_ => some k_ ≠ (.slice Ao34 x5_1.length co34 : Value).ownBlock ∧ some k_ ≠ (.slice Ao38 t366.length co38 : Value).ownBlock ∧ k_ ≠ gb373) v370 t369) := ⟨by (with_reducible repeat (first | apply Kd.N_alloc | apply Kd.N_drewN | apply Kd.N_drew)); exact Kd.N_mono (Kd.N_far (p := ⟨gb373, 1, none⟩) (Kd.N_far (p := ⟨gb373, 0, none⟩) (Kd.N_mono HO371.out (fun k_ hk => (⟨hk, hk.2⟩ : _ ∧ k_ ≠ gb373))) (fun _ hk => hk.2) (.int .i64 t365)) (fun _ hk => hk.2) (.slice Ao38 t366.length co38)) (fun _ hk => ⟨hk.1.1.2, ⟨hk.1.1.1, hk.1.2⟩⟩)⟩
                have n3_ : Aside0 (((w36.setCell ⟨gb373, 0, none⟩ (.int .i64 t365)).setCell ⟨gb373, 1, none⟩ (.slice Ao38 t366.length co38)).heap[gb373]? = some (.cells #[.int .i64 t365, .slice Ao38 t366.length co38] 24 (0, 0))) := ⟨by (with_reducible repeat (first | refine blk_drewN ?_ _ | refine blk_drew ?_ | refine blk_alloc ?_ _)); refine blk_put (cs := #[.int .i64 t365, .slice none 0 0]) ?_ 1 _ rfl; (with_reducible repeat (first | refine blk_drewN ?_ _ | refine blk_drew ?_ | refine blk_alloc ?_ _)); refine blk_put (cs := #[.int .i64 0, .slice none 0 0]) ?_ 0 _ rfl; (with_reducible repeat (first | refine blk_drewN ?_ _ | refine blk_drew ?_ | refine blk_alloc ?_ _)); exact BK373.out⟩
                have n4_ : Aside0 (Below w.heap.size w ((w36.setCell ⟨gb373, 0, none⟩ (.int .i64 t365)).setCell ⟨gb373, 1, none⟩ (.slice Ao38 t366.length co38))) := ⟨by repeat (first | (with_reducible first | exact HB.out | apply below_alloc | apply pw_below_drewN | apply below_drew1 | refine below_set ?_ GE373.out) | exact HB.out)⟩
                (try clear HO_5)
                (try clear HO368)
                (try clear HO371)
                (try clear BK373)
                (try clear HB)
                generalize ((w36.setCell ⟨gb373, 0, none⟩ (.int .i64 t365)).setCell ⟨gb373, 1, none⟩ (.slice Ao38 t366.length co38)) = w39 at n0_ n1_ n2_ n3_ n4_ ⊢
                have HO_5 := n0_
                have HO368 := n1_
                have HO371 := n2_
                have BK373 := n3_
                have HB := n4_
                clear n0_ n1_ n2_ n3_ n4_
                have n0_ := Aside0.mk (Kd.N_drew HO_5.out)
                have n1_ := Aside0.mk (Kd.N_drew HO368.out)
                have n2_ := Aside0.mk (Kd.N_drew HO371.out)
                have n3_ := Aside0.mk (blk_drew BK373.out)
                have n4_ := Aside0.mk (below_drew1 HB.out)
                clear HO_5
                clear HO368
                clear HO371
                clear BK373
                clear HB
                have HO_5 := n0_
                have HO368 := n1_
                have HO371 := n2_
                have BK373 := n3_
                have HB := n4_
                clear n0_ n1_ n2_ n3_ n4_
                refine start_ (n := 7) (S := fun w' => w'.cell? ⟨gb373, 0, none⟩ = some (.int .i64 t365) ∧ w'.cell? ⟨gb373, 1, none⟩ = some (.slice Ao38 t366.length co38)) (ds := []) #[false, false, false, false, false, false, false] (by kernel_rfl) rfl rfl ⟨(blk_cell BK373.out 0).trans rfl, (blk_cell BK373.out 1).trans rfl⟩ (fun hHeld => ?_)
                generalize w39.drew = w40 at HO_5 HO368 HO371 BK373 HB hHeld ⊢
                refine pure_ (i := 1) (N := some 67) (v := ?_) (a' := ?_) #[false, true, false, false, false, false, false] rfl rfl (by kernel_rfl) (fun _ _ _ h => h) (Or.inl ⟨by rfl, ?_⟩) ?_ ?_
                rotate_left
                · intro w'
                  go_simp
                  with_reducible rfl
                rotate_left
                · simp only [Act.put, List.setIfInBounds_toArray, List.set_cons_zero, List.set_cons_succ, i64_w, i32_w]
                  rfl
                refine pure_ (i := 3) (N := some 69) (v := ?_) (a' := ?_) #[false, true, false, true, false, false, false] rfl rfl (by kernel_rfl) (fun _ _ _ h => h) (Or.inl ⟨by rfl, ?_⟩) ?_ ?_
                rotate_left
                · intro w'
                  go_simp
                  with_reducible rfl
                rotate_left
                · simp only [Act.put, List.setIfInBounds_toArray, List.set_cons_zero, List.set_cons_succ, i64_w, i32_w]
                  rfl
                refine take_ (i := 4) (N := some 70) (v := ?_) (a' := ?_) #[false, true, false, true, true, false, false] rfl rfl (by kernel_rfl) (fun _ _ _ h => h) (Or.inl ⟨by rfl, ?_⟩) hHeld ?_ ?_
                rotate_left
                · rintro w' ⟨s0, s1⟩
                  go_simp
                  with_reducible rfl
                rotate_left
                · simp only [Act.put, List.setIfInBounds_toArray, List.set_cons_zero, List.set_cons_succ, i64_w, i32_w]
                  rfl
                refine one_ (i := 0) (N := some 66) #[true, true, false, true, true, false, false] rfl rfl (by kernel_rfl) (by decide) (fun K hK => ?_)
                refine Kd.N_lit_step (Kd.slice 3 (Kd.int .i64)) _ 25 ?hg (N' := 66) ?hd (xs := ([] : List (List Int))) (inner := []) (ok := (fun k_ => some k_ ≠ (.slice Ao34 x5_1.length co34 : Value).ownBlock ∧ some k_ ≠ (.slice Ao38 t366.length co38 : Value).ownBlock ∧ some k_ ≠ (v370 : Value).ownBlock ∧ k_ ≠ gb373)) (okp := (fun k_ => some k_ ≠ (.slice Ao34 x5_1.length co34 : Value).ownBlock ∧ some k_ ≠ (.slice Ao38 t366.length co38 : Value).ownBlock ∧ some k_ ≠ (v370 : Value).ownBlock ∧ k_ ≠ gb373)) ?hr ?hp (fun _ hk => hk) ((show ∀ k_, w40.heap.size ≤ k_ → (fun k_ => some k_ ≠ (.slice Ao34 x5_1.length co34 : Value).ownBlock ∧ some k_ ≠ (.slice Ao38 t366.length co38 : Value).ownBlock ∧ some k_ ≠ (v370 : Value).ownBlock ∧ k_ ≠ gb373) k_ from fun k_ hk => ⟨Kd.fresh' (Kd.N_lt (by (with_reducible repeat (first | apply Kd.N_alloc | apply Kd.N_drewN | apply Kd.N_drew)); exact HO_5.out)) k_ hk, Kd.fresh' (Kd.N_lt (by (with_reducible repeat (first | apply Kd.N_alloc | apply Kd.N_drewN | apply Kd.N_drew)); exact HO368.out)) k_ hk, Kd.fresh' (Kd.N_lt (by (with_reducible repeat (first | apply Kd.N_alloc | apply Kd.N_drewN | apply Kd.N_drew)); exact HO371.out)) k_ hk, Kd.freshB (g := gb373) (o := .cells #[.int .i64 t365, .slice Ao38 t366.length co38] 24 (0, 0)) (by (with_reducible repeat (first | refine blk_drewN ?_ _ | refine blk_drew ?_ | refine blk_alloc ?_ _)); exact BK373.out) k_ hk⟩) _ (Nat.le_refl _)) (Below.refl _ _) (Nat.le_refl _) (by simp) ?_; (case hd => rfl); (case hg => rfl); (case hr => first | (go_simp; done) | (go_simp; rfl)); (case hp => exact (Reps.none _ _))
                intro v375 w41 ho42 hb hg_ hnew_
                clear hg_ hnew_
                (first | rw [← Ny374.out] at ho42 | (simp only [Int.reduceToNat] at ho42; rw [← Ny374.out] at ho42))
                have n0_ := Aside0.mk (Kd.N_elder' (by (with_reducible repeat (first | apply Kd.N_alloc | apply Kd.N_drewN | apply Kd.N_drew)); exact HO_5.out) (by first | exact Kd.N_base ho42 | exact Kd.S_base ho42 | exact Kd.R_base ho42) hb)
                have n1_ := Aside0.mk (Kd.N_elder' (by (with_reducible repeat (first | apply Kd.N_alloc | apply Kd.N_drewN | apply Kd.N_drew)); exact HO368.out) (by first | exact Kd.N_base ho42 | exact Kd.S_base ho42 | exact Kd.R_base ho42) hb)
                have n2_ := Aside0.mk (Kd.N_elder' (by (with_reducible repeat (first | apply Kd.N_alloc | apply Kd.N_drewN | apply Kd.N_drew)); exact HO371.out) (by first | exact Kd.N_base ho42 | exact Kd.S_base ho42 | exact Kd.R_base ho42) hb)
                have n3_ := Aside0.mk (Kd.N_lower ho42 (below_size (by repeat (first | (with_reducible first | exact HB.out | apply below_alloc | apply pw_below_drewN | apply below_drew1 | refine below_set ?_ GE373.out) | exact HB.out))))
                have n4_ := Aside0.mk (blk_below (g := gb373) (o := .cells #[.int .i64 t365, .slice Ao38 t366.length co38] 24 (0, 0)) (by (with_reducible repeat (first | refine blk_drewN ?_ _ | refine blk_drew ?_ | refine blk_alloc ?_ _)); exact BK373.out) hb)
                have n5_ := Aside0.mk (below_step (by repeat (first | (with_reducible first | exact HB.out | apply below_alloc | apply pw_below_drewN | apply below_drew1 | refine below_set ?_ GE373.out) | exact HB.out)) hb)
                clear HO_5
                clear HO368
                clear HO371
                clear BK373
                clear HB
                have HO_5 := n0_
                have HO368 := n1_
                have HO371 := n2_
                have HO376 := n3_
                have BK373 := n4_
                have HB := n5_
                clear n0_ n1_ n2_ n3_ n4_ n5_
                clear hb ho42
                obtain ⟨Ao44, co44, eo44⟩ := Kd.N_slice HO371.out
                (first | subst eo44 | (injection eo44 with f1_ f2_ f3_; have f4_ := f1_.symm; have f5_ := f3_.symm; clear f1_ f2_ f3_; subst f4_; subst f5_))
                refine hK.out _ _ ⟨(blk_cell BK373.out 0).trans rfl, (blk_cell BK373.out 1).trans rfl⟩ (fun hHeld => ?_)
                clear hK K
                refine norm_ (a' := ?_) ?_ ?_
                rotate_left
                · show Act.put _ (some 66) _ = _
                  simp only [Act.put, List.setIfInBounds_toArray, List.set_cons_zero, List.set_cons_succ, i64_w, i32_w]
                  rfl
                refine one_ (i := 2) (N := some 68) #[true, true, true, true, true, false, false] rfl rfl (by kernel_rfl) (by decide) (fun K hK => ?_)
                refine Kd.N_append_rows_step (Kd.slice 3 (Kd.int .i64)) (w0 := w) w.heap.size (by rfl) (.tmp 66) (.tmp 67) 22 25 (.slice none 0 0) 24 rfl Try.underlying22 info25 rfl (by decide) (by omega) v375 y374 t369 _ _ _ (fun k_ => some k_ ≠ (.slice Ao34 x5_1.length co34 : Value).ownBlock ∧ some k_ ≠ (.slice Ao38 t366.length co38 : Value).ownBlock ∧ k_ ≠ gb373) (fun k_ => ((fun k_ => some k_ ≠ (.slice Ao34 x5_1.length co34 : Value).ownBlock ∧ some k_ ≠ (.slice Ao38 t366.length co38 : Value).ownBlock ∧ k_ ≠ gb373)) k_ ∧ some k_ ≠ (v375 : Value).ownBlock) rfl rfl ?aO ?aR (fun _ hk => hk) ?aF ?aB ?aS ?aL ?_
                (case aR => exact (by skip; exact Kd.N_F (Kd.N_mono (ok' := (fun k_ => ((fun k_ => some k_ ≠ (.slice Ao34 x5_1.length co34 : Value).ownBlock ∧ some k_ ≠ (.slice Ao38 t366.length co38 : Value).ownBlock ∧ k_ ≠ gb373)) k_ ∧ some k_ ≠ (v375 : Value).ownBlock)) (HO371.out) (fun k_ hk => ⟨⟨hk.1.1, ⟨hk.1.2.1, hk.1.2.2⟩⟩, hk.2⟩))))
                (case aB => exact (by repeat (first | (with_reducible first | exact HB.out | apply below_alloc | apply pw_below_drewN | apply below_drew1 | refine below_set ?_ GE373.out) | exact HB.out)))
                (case aF => exact (fun k_ hk => ⟨Kd.fresh' (Kd.N_lt (by (with_reducible repeat (first | apply Kd.N_alloc | apply Kd.N_drewN | apply Kd.N_drew)); exact HO_5.out)) k_ hk, Kd.fresh' (Kd.N_lt (by (with_reducible repeat (first | apply Kd.N_alloc | apply Kd.N_drewN | apply Kd.N_drew)); exact HO368.out)) k_ hk, Kd.freshB (g := gb373) (o := .cells #[.int .i64 t365, .slice Ao38 t366.length co38] 24 (0, 0)) (by (with_reducible repeat (first | refine blk_drewN ?_ _ | refine blk_drew ?_ | refine blk_alloc ?_ _)); exact BK373.out) k_ hk⟩))
                (case aO => exact (by (with_reducible repeat (first | apply Kd.N_alloc | apply Kd.N_drewN | apply Kd.N_drew)); exact Kd.N_mono HO376.out (fun _ hk => ⟨hk.1, ⟨hk.2.1, hk.2.2.2⟩⟩)))
                (case aS => exact (below_size (by repeat (first | (with_reducible first | exact HB.out | apply below_alloc | apply pw_below_drewN | apply below_drew1 | refine below_set ?_ GE373.out) | exact HB.out))))
                (case aL => have := LMc32.out; omega)
                intro v378 w43 ho hb hg hat
                rw [← Ny377.out] at ho
                have n0_ := Aside0.mk (Kd.N_afterv (ok := (fun k_ => some k_ ≠ (.slice Ao38 t366.length co38 : Value).ownBlock ∧ some k_ ≠ (.slice Ao44 t369.length co44 : Value).ownBlock ∧ k_ ≠ gb373)) (by (with_reducible repeat (first | apply Kd.N_alloc | apply Kd.N_drewN | apply Kd.N_drew)); exact HO_5.out) hg hat)
                have n1_ := Aside0.mk (Kd.N_afterv (ok := (fun k_ => some k_ ≠ (.slice Ao34 x5_1.length co34 : Value).ownBlock ∧ some k_ ≠ (.slice Ao44 t369.length co44 : Value).ownBlock ∧ k_ ≠ gb373)) (by (with_reducible repeat (first | apply Kd.N_alloc | apply Kd.N_drewN | apply Kd.N_drew)); exact HO368.out) hg hat)
                have n2_ := Aside0.mk (Kd.N_afterv (ok := (fun k_ => some k_ ≠ (.slice Ao34 x5_1.length co34 : Value).ownBlock ∧ some k_ ≠ (.slice Ao38 t366.length co38 : Value).ownBlock ∧ k_ ≠ gb373)) (by (with_reducible repeat (first | apply Kd.N_alloc | apply Kd.N_drewN | apply Kd.N_drew)); exact HO371.out) hg hat)
                have n3_ := Aside0.mk (blk_grown (g := gb373) (o := .cells #[.int .i64 t365, .slice Ao38 t366.length co38] 24 (0, 0)) (by (with_reducible repeat (first | refine blk_drewN ?_ _ | refine blk_drew ?_ | refine blk_alloc ?_ _)); exact BK373.out) hg (Kd.N_ne HO376.out BK373.out (by decide)))
                have n4_ := Aside0.mk (hb)
                have n5_ := Aside0.mk (ho)
                clear HO_5
                clear HO368
                clear HO371
                clear BK373
                clear HB
                clear HO376
                have HO_5 := n0_
                have HO368 := n1_
                have HO371 := n2_
                have BK373 := n3_
                have HB := n4_
                have HO379 := n5_
                clear n0_ n1_ n2_ n3_ n4_ n5_
                clear ho hb hg hat
                refine hK.out _ _ ⟨(blk_cell BK373.out 0).trans rfl, (blk_cell BK373.out 1).trans rfl⟩ (fun hHeld => ?_)
                clear hK K
                refine norm_ (a' := ?_) ?_ ?_
                rotate_left
                · show Act.put _ (some 68) _ = _
                  simp only [Act.put, List.setIfInBounds_toArray, List.set_cons_zero, List.set_cons_succ, i64_w, i32_w]
                  rfl
                refine one_ (i := 5) (N := some 71) #[true, true, true, true, true, true, false] rfl rfl (by kernel_rfl) (by decide) (fun K hK => ?_)
                refine Kd.N_append_rows_step (Kd.slice 3 (Kd.int .i64)) (w0 := w) w.heap.size (by rfl) (.tmp 68) (.tmp 70) 22 25 (.slice none 0 0) 24 rfl Try.underlying22 info25 rfl (by decide) (by omega) v378 y377 t366 _ _ _ (fun k_ => some k_ ≠ (.slice Ao34 x5_1.length co34 : Value).ownBlock ∧ k_ ≠ gb373) (fun k_ => ((fun k_ => some k_ ≠ (.slice Ao34 x5_1.length co34 : Value).ownBlock ∧ k_ ≠ gb373)) k_ ∧ some k_ ≠ (v378 : Value).ownBlock) rfl rfl ?aO ?aR (fun _ hk => hk) ?aF ?aB ?aS ?aL ?_
                (case aR => exact (by skip; exact Kd.N_F (Kd.N_mono (ok' := (fun k_ => ((fun k_ => some k_ ≠ (.slice Ao34 x5_1.length co34 : Value).ownBlock ∧ k_ ≠ gb373)) k_ ∧ some k_ ≠ (v378 : Value).ownBlock)) (HO368.out) (fun k_ hk => ⟨⟨hk.1.1, hk.1.2.2⟩, hk.2⟩))))
                (case aB => exact (by repeat (first | (with_reducible first | exact HB.out | apply below_alloc | apply pw_below_drewN | apply below_drew1 | refine below_set ?_ GE373.out) | exact HB.out)))
                (case aF => exact (fun k_ hk => ⟨Kd.fresh' (Kd.N_lt (by (with_reducible repeat (first | apply Kd.N_alloc | apply Kd.N_drewN | apply Kd.N_drew)); exact HO_5.out)) k_ hk, Kd.freshB (g := gb373) (o := .cells #[.int .i64 t365, .slice Ao38 t366.length co38] 24 (0, 0)) (by (with_reducible repeat (first | refine blk_drewN ?_ _ | refine blk_drew ?_ | refine blk_alloc ?_ _)); exact BK373.out) k_ hk⟩))
                (case aO => exact (by (with_reducible repeat (first | apply Kd.N_alloc | apply Kd.N_drewN | apply Kd.N_drew)); exact Kd.N_mono HO379.out (fun _ hk => ⟨hk.1, hk.2.2⟩)))
                (case aS => exact (below_size (by repeat (first | (with_reducible first | exact HB.out | apply below_alloc | apply pw_below_drewN | apply below_drew1 | refine below_set ?_ GE373.out) | exact HB.out))))
                (case aL => have := LMc33.out; omega)
                intro v381 w45 ho hb hg hat
                rw [← Ny380.out] at ho
                have n0_ := Aside0.mk (Kd.N_afterv (ok := (fun k_ => some k_ ≠ (.slice Ao38 t366.length co38 : Value).ownBlock ∧ some k_ ≠ (.slice Ao44 t369.length co44 : Value).ownBlock ∧ k_ ≠ gb373)) (by (with_reducible repeat (first | apply Kd.N_alloc | apply Kd.N_drewN | apply Kd.N_drew)); exact HO_5.out) hg hat)
                have n1_ := Aside0.mk (Kd.N_afterv (ok := (fun k_ => some k_ ≠ (.slice Ao34 x5_1.length co34 : Value).ownBlock ∧ some k_ ≠ (.slice Ao44 t369.length co44 : Value).ownBlock ∧ k_ ≠ gb373)) (by (with_reducible repeat (first | apply Kd.N_alloc | apply Kd.N_drewN | apply Kd.N_drew)); exact HO368.out) hg hat)
                have n2_ := Aside0.mk (Kd.N_afterv (ok := (fun k_ => some k_ ≠ (.slice Ao34 x5_1.length co34 : Value).ownBlock ∧ some k_ ≠ (.slice Ao38 t366.length co38 : Value).ownBlock ∧ k_ ≠ gb373)) (by (with_reducible repeat (first | apply Kd.N_alloc | apply Kd.N_drewN | apply Kd.N_drew)); exact HO371.out) hg hat)
                have n3_ := Aside0.mk (blk_grown (g := gb373) (o := .cells #[.int .i64 t365, .slice Ao38 t366.length co38] 24 (0, 0)) (by (with_reducible repeat (first | refine blk_drewN ?_ _ | refine blk_drew ?_ | refine blk_alloc ?_ _)); exact BK373.out) hg (Kd.N_ne HO379.out BK373.out (by decide)))
                have n4_ := Aside0.mk (hb)
                have n5_ := Aside0.mk (ho)
                clear HO_5
                clear HO368
                clear HO371
                clear BK373
                clear HB
                clear HO379
                have HO_5 := n0_
                have HO368 := n1_
                have HO371 := n2_
                have BK373 := n3_
                have HB := n4_
                have HO382 := n5_
                clear n0_ n1_ n2_ n3_ n4_ n5_
                clear ho hb hg hat
                refine hK.out _ _ ⟨(blk_cell BK373.out 0).trans rfl, (blk_cell BK373.out 1).trans rfl⟩ (fun hHeld => ?_)
                clear hK K
                refine norm_ (a' := ?_) ?_ ?_
                rotate_left
                · show Act.put _ (some 71) _ = _
                  simp only [Act.put, List.setIfInBounds_toArray, List.set_cons_zero, List.set_cons_succ, i64_w, i32_w]
                  rfl
                refine pure_ (i := 6) (N := some 12) (v := ?_) (a' := ?_) #[true, true, true, true, true, true, true] rfl rfl (by kernel_rfl) (fun _ _ _ h => h) (Or.inl ⟨by rfl, ?_⟩) ?_ ?_
                rotate_left
                · intro w'
                  go_simp
                  with_reducible rfl
                rotate_left
                · simp only [Act.put, List.setIfInBounds_toArray, List.set_cons_zero, List.set_cons_succ, i64_w, i32_w]
                  rfl
                refine done_ (by kernel_rfl) ?_
                try go_wp2
                go_loopg [13, 14] kj2 (fun kq v13 v14 w' => ∃ (x13_3 : Int) (x14_3 : Int), v13 = .int .i64 x13_3 ∧ v14 = .int .i64 x14_3 ∧ Aside0 (selfstablaw41_ChannelOrder.l1 kq (wrap64 (1 + (Int.tmod (wrap64 ((Int.tmod a0 8) + 8)) 8))) x6_1 t372 y380 x13_3 x14_3 t365 t366 = some r) ∧ Aside0 (kq ≤ kj2) ∧ Aside0 (Kd.N (Kd.slice 3 (Kd.int .i64)) 25 w' w.heap.size (fun k_ => k_ ≠ gb373) v381 y380) ∧ Aside0 (Kd.N (Kd.slice 3 (Kd.int .i64)) 25 w' w.heap.size (fun k_ => some k_ ≠ (v381 : Value).ownBlock ∧ k_ ≠ gb373) (.slice Ao38 t366.length co38) t366) ∧ Aside0 (w'.heap[gb373]? = some (.cells #[.int .i64 t365, (.slice Ao38 t366.length co38)] 24 (0, 0))) ∧ Aside0 (Below w.heap.size w w'))
                case atStart => exact ⟨((-1)), (0), (by first | rfl | (simp; done) | (simp [*]; done)), (by first | rfl | (simp; done) | (simp [*]; done)), H', ⟨Nat.le_refl _⟩, ⟨by (with_reducible repeat (first | apply Kd.N_alloc | apply Kd.N_drewN | apply Kd.N_drew)); exact Kd.N_mono HO382.out (fun _ hk => hk.2)⟩, ⟨by (with_reducible repeat (first | apply Kd.N_alloc | apply Kd.N_drewN | apply Kd.N_drew)); exact Kd.N_mono HO368.out (fun _ hk => ⟨hk.2, hk.1.2.2⟩)⟩, ⟨by (with_reducible repeat (first | refine blk_drewN ?_ _ | refine blk_drew ?_ | refine blk_alloc ?_ _)); exact BK373.out⟩, ⟨by repeat (first | (with_reducible first | exact HB.out | apply below_alloc | apply pw_below_drewN | apply below_drew1 | refine below_set ?_ GE373.out) | exact HB.out)⟩⟩
                case round =>
                  clear H'
                  try clear c1
                  try clear c2
                  try clear p2
                  try clear c3
                  try clear p3
                  try clear q3
                  try clear hx3
                  try clear c5
                  try clear c6
                  try clear p6
                  try clear c7
                  try clear c8
                  try clear c8b0
                  try clear c8b1
                  try clear c9
                  try clear c19
                  try clear c23
                  try clear c32
                  try clear c33
                  try clear p35
                  try clear q35
                  try clear hx35
                  try clear hcz15_0
                  try clear hcz15_1
                  try clear hcz15_2
                  try clear hcz19_0
                  try clear hcz19_1
                  try clear hcz19_2
                  try clear hcz21_0
                  try clear hcz21_1
                  try clear hcz21_2
                  try clear hcz29_0
                  try clear hcz29_1
                  try clear hcz29_2
                  try clear hcz37_0
                  try clear hcz37_1
                  try clear hfz15_0
                  try clear hfz15_1
                  try clear hfz15_2
                  try clear hfz19_0
                  try clear hfz19_1
                  try clear hfz19_2
                  try clear hfz21_0
                  try clear hfz21_1
                  try clear hfz21_2
                  try clear hfz29_0
                  try clear hfz29_1
                  try clear hfz29_2
                  try clear hfz37_0
                  try clear hfz37_1
                  try clear hx353_0
                  try clear hx353_1
                  try clear hx354_0
                  try clear hx354_1
                  try clear p353
                  try clear p354
                  try clear q353
                  try clear q354
                  obtain ⟨x13_3, x14_3, rfl, rfl, HA, HK3, HO_12, HO_374001, BK373, HB⟩ := hrel
                  cases gk with
                  | zero => exact absurd HA.out (by simp [selfstablaw41_ChannelOrder.l1])
                  | succ k3 =>
                    have H := HA.out
                    clear HA
                    simp only [selfstablaw41_ChannelOrder.l1] at H
                    by_cases c46 : x14_3 < (y380.length : Int)
                    · rw [if_pos c46] at H
                      have c46b0 : decide (x14_3 < (y380.length : Int)) = true := decide_eq_true c46
                      clear c46
                      by_cases c47 : 0 ≤ x14_3
                      · rw [if_pos c47] at H
                        have c47b0 : decide (0 ≤ x14_3) = true := decide_eq_true c47
                        clear c47
                        by_cases c48 : ((rd_L1 y380 x14_3).length : Int) = 1
                        · rw [if_pos c48] at H
                          have c48b0 : (((rd_L1 y380 x14_3).length : Int) == 1) = true := beq_iff_eq.mpr c48
                          have c48b1 : (((rd_L1 y380 x14_3).length : Int) != 1) = false := bne_eq_false_iff_eq.mpr c48
                          clear c48
                          by_cases c49 : 0 < ((rd_L1 y380 x14_3).length : Int)
                          · rw [if_pos c49] at H
                            have c49b0 : decide (0 < ((rd_L1 y380 x14_3).length : Int)) = true := decide_eq_true c49
                            have c49b1 : decide (0 < (rd_L1 y380 x14_3).length) = true := decide_eq_true (by omega)
                            clear c49
                            by_cases c50 : (rd (rd_L1 y380 x14_3) 0) ≤ x13_3
                            · rw [if_pos c50] at H
                              exact absurd H (by simp)
                            · rw [if_neg c50] at H
                              have c50b0 : decide ((rd (rd_L1 y380 x14_3) 0) ≤ x13_3) = false := decide_eq_false c50
                              clear c50
                              have H' := Aside0.mk H
                              clear H
                              obtain ⟨Ao51, co51, eo51⟩ := Kd.N_slice HO_12.out
                              subst eo51
                              have p383 : 0 ≤ (x14_3 : Int) := of_decide_eq_true (by first | (with_reducible assumption) | assumption)
                              have q383 : x14_3 < (y380.length : Int) := of_decide_eq_true (by first | (with_reducible assumption) | assumption)
                              (try (obtain ⟨Az383, cz383, ez383⟩ := Kd.N_slice HO_12.out; subst ez383))
                              obtain ⟨ad383, A383_0, c383_0, e383, hx383_0, hl383_0, hi383_0⟩ := at_L1 (Kd.N_reads' HO_12.out).2.2 x14_3 p383 q383
                              cases e383
                              obtain ⟨ce383, hce383, hMe383, hcc383⟩ := Kd.N_get HO_12.out [] x14_3 p383 (by first | exact q383 | exact of_decide_eq_true (by first | (with_reducible assumption) | assumption) | (have e_ := (Kd.N_reads' HO_12.out).1; omega))
                              obtain ⟨ua383_0, uc383_0, rfl, ul383_0, ge383_0⟩ := Kd.FK_slice_open hMe383
                              have hv383_0 := hcc383 0 _ rfl
                              rw [Nat.add_zero, show ((Kd.slice 3 (Kd.int .i64))).sz = 1 from rfl, Nat.mul_one] at hv383_0
                              replace hv383_0 := Option.some.inj (hv383_0.symm.trans hx383_0)
                              injection hv383_0 with hva_ hvn_ hvc_
                              rw [hva_] at ge383_0
                              rw [hvc_] at ul383_0
                              have HL383_0 := Aside0.mk (show Kd.V (Kd.int .i64) 3 _ w.heap.size _ _ (rd_L1 y380 x14_3) from Kd.V_mk ul383_0 ge383_0)
                              clear hva_ hvn_ hvc_ ge383_0 ul383_0
                              clear hcc383 hce383
                              have HR383_0 := Aside0.mk hi383_0
                              have HC383_0 := Aside0.mk hl383_0
                              clear hi383_0 hl383_0
                              replace p383 := eq_true p383
                              replace q383 := eq_true q383
                              have p384 : 0 ≤ (x14_3 : Int) := of_decide_eq_true (by first | (with_reducible assumption) | assumption)
                              have q384 : x14_3 < (y380.length : Int) := of_decide_eq_true (by first | (with_reducible assumption) | assumption)
                              (try (obtain ⟨Az384, cz384, ez384⟩ := Kd.N_slice HO_12.out; subst ez384))
                              obtain ⟨ad384, A384_0, c384_0, e384, hx384_0, hl384_0, hi384_0⟩ := at_L1 (Kd.N_reads' HO_12.out).2.2 x14_3 p384 q384
                              obtain rfl : ad383 = ad384 := (by injection e384)
                              obtain ⟨ce384, hce384, hMe384, hcc384⟩ := Kd.N_get HO_12.out [] x14_3 p384 (by first | exact q384 | exact of_decide_eq_true (by first | (with_reducible assumption) | assumption) | (have e_ := (Kd.N_reads' HO_12.out).1; omega))
                              obtain ⟨ua384_0, uc384_0, rfl, ul384_0, ge384_0⟩ := Kd.FK_slice_open hMe384
                              have hv384_0 := hcc384 0 _ rfl
                              rw [Nat.add_zero, show ((Kd.slice 3 (Kd.int .i64))).sz = 1 from rfl, Nat.mul_one] at hv384_0
                              replace hv384_0 := Option.some.inj (hv384_0.symm.trans hx384_0)
                              injection hv384_0 with hva_ hvn_ hvc_
                              rw [hva_] at ge384_0
                              rw [hvc_] at ul384_0
                              have HL384_0 := Aside0.mk (show Kd.V (Kd.int .i64) 3 _ w.heap.size _ _ (rd_L1 y380 x14_3) from Kd.V_mk ul384_0 ge384_0)
                              clear hva_ hvn_ hvc_ ge384_0 ul384_0
                              clear hcc384 hce384
                              have HR384_0 := Aside0.mk hi384_0
                              have HC384_0 := Aside0.mk hl384_0
                              clear hi384_0 hl384_0
                              replace p384 := eq_true p384
                              replace q384 := eq_true q384
                              have ea_ := Option.some.inj (hx383_0.symm.trans hx384_0)
                              injection ea_ with ea_ en_ ec_
                              subst ea_
                              subst ec_
                              clear en_
                              have p385 : 0 ≤ (0 : Int) := (by omega)
                              have q385 : 0 < ((rd_L1 y380 x14_3).length : Int) := of_decide_eq_true (by first | (with_reducible assumption) | assumption)
                              obtain ⟨ad385, e385, hx385_0⟩ := Kd.at_int (by repeat (first | (with_reducible exact HR384_0.out) | (with_reducible refine Kd.C_alloc ?_ _) | (with_reducible refine Kd.C_drewN ?_ _) | (with_reducible refine Kd.C_drew ?_) | exact HR384_0.out)) 0 p385 q385
                              cases e385
                              have qi385 : (0 < (rd_L1 y380 x14_3).length) = True := eq_true (by omega)
                              (try rw [show ((0 : Int)).toNat = 0 from rfl] at hx385_0)
                              (try rw [Addr.add_zero'] at hx385_0)
                              replace p385 := eq_true p385
                              replace q385 := eq_true q385
                              have p386 : 0 ≤ (x14_3 : Int) := of_decide_eq_true (by first | (with_reducible assumption) | assumption)
                              have q386 : x14_3 < (y380.length : Int) := of_decide_eq_true (by first | (with_reducible assumption) | assumption)
                              (try (obtain ⟨Az386, cz386, ez386⟩ := Kd.N_slice HO_12.out; subst ez386))
                              obtain ⟨ad386, A386_0, c386_0, e386, hx386_0, hl386_0, hi386_0⟩ := at_L1 (Kd.N_reads' HO_12.out).2.2 x14_3 p386 q386
                              obtain rfl : ad383 = ad386 := (by injection e386)
                              obtain ⟨ce386, hce386, hMe386, hcc386⟩ := Kd.N_get HO_12.out [] x14_3 p386 (by first | exact q386 | exact of_decide_eq_true (by first | (with_reducible assumption) | assumption) | (have e_ := (Kd.N_reads' HO_12.out).1; omega))
                              obtain ⟨ua386_0, uc386_0, rfl, ul386_0, ge386_0⟩ := Kd.FK_slice_open hMe386
                              have hv386_0 := hcc386 0 _ rfl
                              rw [Nat.add_zero, show ((Kd.slice 3 (Kd.int .i64))).sz = 1 from rfl, Nat.mul_one] at hv386_0
                              replace hv386_0 := Option.some.inj (hv386_0.symm.trans hx386_0)
                              injection hv386_0 with hva_ hvn_ hvc_
                              rw [hva_] at ge386_0
                              rw [hvc_] at ul386_0
                              have HL386_0 := Aside0.mk (show Kd.V (Kd.int .i64) 3 _ w.heap.size _ _ (rd_L1 y380 x14_3) from Kd.V_mk ul386_0 ge386_0)
                              clear hva_ hvn_ hvc_ ge386_0 ul386_0
                              clear hcc386 hce386
                              have HR386_0 := Aside0.mk hi386_0
                              have HC386_0 := Aside0.mk hl386_0
                              clear hi386_0 hl386_0
                              replace p386 := eq_true p386
                              replace q386 := eq_true q386
                              have ea_ := Option.some.inj (hx383_0.symm.trans hx386_0)
                              injection ea_ with ea_ en_ ec_
                              subst ea_
                              subst ec_
                              clear en_
                              have p387 : 0 ≤ (0 : Int) := (by omega)
                              have q387 : 0 < ((rd_L1 y380 x14_3).length : Int) := of_decide_eq_true (by first | (with_reducible assumption) | assumption)
                              obtain ⟨ad387, e387, hx387_0⟩ := Kd.at_int (by repeat (first | (with_reducible exact HR386_0.out) | (with_reducible refine Kd.C_alloc ?_ _) | (with_reducible refine Kd.C_drewN ?_ _) | (with_reducible refine Kd.C_drew ?_) | exact HR386_0.out)) 0 p387 q387
                              cases e387
                              have qi387 : (0 < (rd_L1 y380 x14_3).length) = True := eq_true (by omega)
                              (try rw [show ((0 : Int)).toNat = 0 from rfl] at hx387_0)
                              (try rw [Addr.add_zero'] at hx387_0)
                              replace p387 := eq_true p387
                              replace q387 := eq_true q387
                              go_wp2
                              go_roundg k3
                              case measure => have := HK1.out; have := HJ2.out; have := HK3.out; omega
                              case rel => exact ⟨(rd (rd_L1 y380 x14_3) 0), (wrap64 (x14_3 + 1)), (by first | rfl | (simp; done) | (simp [*]; done)), (by first | rfl | (simp; done) | (simp [*]; done)), H', ⟨by have := HK1.out; have := HJ2.out; have := HK3.out; omega⟩, ⟨by (with_reducible repeat (first | apply Kd.N_alloc | apply Kd.N_drewN | apply Kd.N_drew)); exact HO_12.out⟩, ⟨by (with_reducible repeat (first | apply Kd.N_alloc | apply Kd.N_drewN | apply Kd.N_drew)); exact HO_374001.out⟩, ⟨by (with_reducible repeat (first | refine blk_drewN ?_ _ | refine blk_drew ?_ | refine blk_alloc ?_ _)); exact BK373.out⟩, ⟨by repeat (first | (with_reducible first | exact HB.out | apply below_alloc | apply pw_below_drewN | apply below_drew1 | refine below_set ?_ GE373.out) | exact HB.out)⟩⟩
                          · rw [if_neg c49] at H
                            exact absurd H (by simp)
                        · rw [if_neg c48] at H
                          exact absurd H (by simp)
                      · rw [if_neg c47] at H
                        exact absurd H (by simp)
                    · rw [if_neg c46] at H
                      have c46b0 : decide (x14_3 < (y380.length : Int)) = false := decide_eq_false c46
                      clear c46
                      replace H := Option.bind_eq_some_iff.mp H
                      obtain ⟨t388, A520, H⟩ := H
                      replace H : (if t388 = true then (if (wrap64 ((y380.length : Int) + t372)) = x6_1 then (if x13_3 < x6_1 then (some (decide ((t366.length : Int) ≤ (wrap64 (1 + (Int.tmod (wrap64 ((Int.tmod a0 8) + 8)) 8)))))) else (none)) else (none)) else (none)) = some r := H
                      have A52 := Aside0.mk A520
                      clear A520
                      by_cases c53 : t388 = true
                      · subst c53
                        have H1 : (if (wrap64 ((y380.length : Int) + t372)) = x6_1 then (if x13_3 < x6_1 then (some (decide ((t366.length : Int) ≤ (wrap64 (1 + (Int.tmod (wrap64 ((Int.tmod a0 8) + 8)) 8)))))) else (none)) else (none)) = some r := by rw [if_pos rfl] at H; exact H
                        clear H
                        have H := H1
                        clear H1
                        by_cases c54 : (wrap64 ((y380.length : Int) + t372)) = x6_1
                        · rw [if_pos c54] at H
                          have c54b0 : ((wrap64 ((y380.length : Int) + t372)) == x6_1) = true := beq_iff_eq.mpr c54
                          have c54b1 : ((wrap64 ((y380.length : Int) + t372)) != x6_1) = false := bne_eq_false_iff_eq.mpr c54
                          clear c54
                          by_cases c55 : x13_3 < x6_1
                          · rw [if_pos c55] at H
                            have c55b0 : decide (x13_3 < x6_1) = true := decide_eq_true c55
                            clear c55
                            obtain rfl := Option.some.inj H
                            obtain ⟨Ao56, co56, eo56⟩ := Kd.N_slice HO_12.out
                            subst eo56
                            go_wp2_with (first | ((with_reducible refine gate_callee (f := 8) rfl ?_); refine goesL_ (some 100) rfl rfl Try.func8 (by kernel_rfl) rfl #[] rfl (by (try simp only [List.map_toArray, List.map_cons, List.map_nil]); first | done | rfl | (simp only [List.length_drop, List.length_take]; rfl)) ?_; (with_reducible refine (selfstablaw41_known.calls k3  true _ A52.out).mono ?_); rintro e w57 ⟨rfl, hb⟩; refine ⟨_, rfl, ?_⟩; have n0_ := Aside0.mk (Kd.N_below (by (with_reducible repeat (first | apply Kd.N_alloc | apply Kd.N_drewN | apply Kd.N_drew)); exact HO_12.out) hb); have n1_ := Aside0.mk (Kd.N_below (by (with_reducible repeat (first | apply Kd.N_alloc | apply Kd.N_drewN | apply Kd.N_drew)); exact HO_374001.out) hb); have n2_ := Aside0.mk (blk_below (g := gb373) (o := .cells #[.int .i64 t365, .slice Ao38 t366.length co38] 24 (0, 0)) (by (with_reducible repeat (first | refine blk_drewN ?_ _ | refine blk_drew ?_ | refine blk_alloc ?_ _)); exact BK373.out) hb); have n3_ := Aside0.mk (below_step (by repeat (first | (with_reducible first | exact HB.out | apply below_alloc | apply pw_below_drewN | apply below_drew1 | refine below_set ?_ GE373.out) | exact HB.out)) hb); clear HO_12; clear HO_374001; clear BK373; clear HB; have HO_12 := n0_; have HO_374001 := n1_; have BK373 := n2_; have HB := n3_; clear n0_ n1_ n2_ n3_; (try clear hb); (try clear hb2); (try clear hk); (try clear hi); have hcz58_0 : w57.cell? ⟨gb373, 0, none⟩ = some (.int .i64 t365) := (blk_cell BK373.out 0).trans rfl; have hcz58_1 : w57.cell? ⟨gb373, 1, none⟩ = some (.slice Ao38 t366.length co38) := (blk_cell BK373.out 1).trans rfl; have hfz58_0 := blk_frozen BK373.out 0; have hfz58_1 := blk_frozen BK373.out 1))
                            go_ret
                            exact ⟨by first | rfl | (simp [errW_none, errW_some] <;> rfl) | (simp [*, errW_none, errW_some] <;> rfl), by repeat (first | (with_reducible first | exact HB.out | apply below_alloc | apply pw_below_drewN | apply below_drew1 | refine below_set ?_ GE373.out) | exact HB.out)⟩
                          · rw [if_neg c55] at H
                            exact absurd H (by simp)
                        · rw [if_neg c54] at H
                          exact absurd H (by simp)
                      · replace c53 := Bool.eq_false_iff.mpr c53
                        subst c53
                        have H1 : (none) = some r := by rw [if_neg (show ¬ (false = true) by decide)] at H; exact H
                        clear H
                        have H := H1
                        clear H1
                        exact absurd H (by simp)
              · rw [if_neg c33] at H
                exact absurd H (by simp)
            · rw [if_neg c32] at H
              exact absurd H (by simp)

end Go.Proofs.Ytcpkbgfemohlmaa.P
