-- By a program of this session (wip/tools/myprint.py over the kit's printer). Not trusted: Lean checks it.
import Derived.Test.YtbpolpagcaacoaaP0
import Derived.Test.YtbpolpagcaacoaaP2
namespace Go.Proofs.Ytbpolpagcaacoaa.P
open Go.RowKit Go.Proofs.YtbpolpagcaacoaaW.PrintWords Go.Proofs.YtbpolpagcaacoaaW.PrintLast Go.Proofs.YtbpolpagcaacoaaW.PrintMore
attribute [local go_sem] max2_int min2_int max_two min_two max_three min_three max_four min_four   -- for this text's walks alone
set_option linter.unusedVariables false
set_option linter.unusedSimpArgs false

/-! ### selfstabref01_Size: function 32 -/
def selfstabref01_Size.l0 : Nat → Int → Int → List Int → List (List (S32)) → Option (Int × Int)
  | 0, _, _, _, _ => none
  | k + 1, x4, x5, x306000, x306001 => if x5 < (x306001.length : Int) then (if 0 ≤ x5 then (selfstabref01_Size.l0 k (wrap64 (x4 + ((rd_L2 x306001 x5).length : Int))) (wrap64 (x5 + 1)) x306000 x306001) else (none)) else (some ((x306001.length : Int), wrap64 (Int.tdiv x4 2)))
def selfstabref01_Size.f (k : Nat) (l0_0 : List Int) (l0_1 : List (List (S32))) : Option (Int × Int) := (selfstabref01_Valid.f k l0_0 l0_1).bind fun t306 => (if t306 = true then (selfstabref01_Size.l0 k 0 0 l0_0 l0_1) else (some (0, 0)))
theorem selfstabref01_Size.mono_l : ∀ k, (∀ y0 y1 y2 y3, LeO (selfstabref01_Size.l0 k y0 y1 y2 y3) (selfstabref01_Size.l0 (k + 1) y0 y1 y2 y3))
  | 0 => fun _ _ _ _ r h => by simp [selfstabref01_Size.l0] at h
  | k + 1 => by
    have ih0 := selfstabref01_Size.mono_l k
    · intro y0 y1 y2 y3
      unfold selfstabref01_Size.l0
      repeat' first
      | (with_reducible exact ih0 _ _ _ _)
      | (with_reducible exact selfstabref01_Valid.mono _ _ _)
      | (with_reducible exact LeO.refl _)
      | (with_reducible exact LeO.none _)
      | (with_reducible refine LeO.ite ?_ ?_)
      | (with_reducible refine LeO.bind ?_ (fun _ => ?_))
      | exact ih0 _ _ _ _
      | exact selfstabref01_Valid.mono _ _ _
      | exact LeO.none _
      | refine LeO.ite ?_ ?_
      | refine LeO.bind ?_ (fun _ => ?_)
theorem selfstabref01_Size.mono : ∀ a0 a1 k, LeO (selfstabref01_Size.f k a0 a1) (selfstabref01_Size.f (k + 1) a0 a1) := by
  intro a0 a1 k
  have ih0 := selfstabref01_Size.mono_l k
  unfold selfstabref01_Size.f
  repeat' first
      | (with_reducible exact ih0 _ _ _ _)
      | (with_reducible exact selfstabref01_Valid.mono _ _ _)
      | (with_reducible exact LeO.refl _)
      | (with_reducible exact LeO.none _)
      | (with_reducible refine LeO.ite ?_ ?_)
      | (with_reducible refine LeO.bind ?_ (fun _ => ?_))
      | exact ih0 _ _ _ _
      | exact selfstabref01_Valid.mono _ _ _
      | exact LeO.none _
      | refine LeO.ite ?_ ?_
      | refine LeO.bind ?_ (fun _ => ?_)
set_option maxHeartbeats 8000000 in
set_option maxRecDepth 100000 in
theorem selfstabref01_Size.calls (k : Nat) (A0_0 : Option Addr) (c0_0 : Nat) (l0_0 : List Int) (A0_1 : Option Addr) (c0_1 : Nat) (l0_1 : List (List (S32))) (r1 : Int) (r2 : Int) (w : World) (hr0_0 : Kd.C (Kd.int .i64) w A0_0 l0_0.length l0_0) (hc0_0 : l0_0.length ≤ c0_0) (hr0_1 : Kd.C (Kd.slice 32 k32) w A0_1 l0_1.length l0_1) (hc0_1 : l0_1.length ≤ c0_1) (h : selfstabref01_Size.f k l0_0 l0_1 = some (r1, r2)) :
    Calls Try.prog 32 #[.agg #[.slice A0_0 l0_0.length c0_0, .slice A0_1 l0_1.length c0_1]] w fun e w' => e = .returned (.tuple #[.int .i64 r1, .int .i64 r2]) ∧ Below w.heap.size w w' := by
  have hu25 := Try.underlying25
  have HR0_0 := Aside0.mk hr0_0
  have HC0_0 := Aside0.mk hc0_0
  clear hr0_0 hc0_0
  have HR0_1 := Aside0.mk hr0_1
  have HC0_1 := Aside0.mk hc0_1
  clear hr0_1 hc0_1
  have HB := Aside0.mk (Below.refl w.heap.size w)
  have H : ((selfstabref01_Valid.f k l0_0 l0_1).bind fun t306 => (if t306 = true then (selfstabref01_Size.l0 k 0 0 l0_0 l0_1) else (some (0, 0)))) = some (r1, r2) := h
  clear h
  replace H := Option.bind_eq_some_iff.mp H
  obtain ⟨t306, A20, H⟩ := H
  replace H : (if t306 = true then (selfstabref01_Size.l0 k 0 0 l0_0 l0_1) else (some (0, 0))) = some (r1, r2) := H
  have A2 := Aside0.mk A20
  clear A20
  by_cases c3 : t306 = true
  · subst c3
    have H1 : (selfstabref01_Size.l0 k 0 0 l0_0 l0_1) = some (r1, r2) := by rw [if_pos rfl] at H; exact H
    clear H
    have H := H1
    clear H1
    have H' := Aside0.mk H
    clear H
    go_enter Try.func32, Try.ntmps32
    go_wp2_with (first | ((with_reducible refine gate_dst (N := 1) rfl ?_); refine box_event ?hg (N := 1) ?hd (cs := #[.slice A0_0 l0_0.length c0_0, .slice A0_1 l0_1.length c0_1]) (t := 25) ?hr ?_; (case hd => rfl); (case hg => rfl); (case hr => first | (go_simp; done) | (go_simp; rfl)); intro gb305 hg w4 hbox hb; have n0_ := Aside0.mk (below_step (by repeat (first | (with_reducible first | exact HB.out | apply below_alloc | apply pw_below_drewN | apply below_drew1) | exact HB.out)) hb); have n1_ := Aside0.mk (hbox); have n2_ := Aside0.mk ((by rw [hg]; exact (below_size (by repeat (first | (with_reducible first | exact HB.out | apply below_alloc | apply pw_below_drewN | apply below_drew1) | exact HB.out))) : w.heap.size ≤ gb305)); have n3_ := Aside0.mk ((by rw [hg]; exact (below_size (by repeat (first | (with_reducible first | exact HB.out | apply below_alloc | apply pw_below_drewN | apply below_drew1) | exact HB.out))) : w.heap.size ≤ gb305)); clear HB; have HB := n0_; have BK305 := n1_; have GW305 := n2_; have GE305 := n3_; clear n0_ n1_ n2_ n3_; clear hb hbox hg; have hcz5_0 : w4.cell? ⟨gb305, 0, none⟩ = some (.slice A0_0 l0_0.length c0_0) := (blk_cell BK305.out 0).trans rfl; have hcz5_1 : w4.cell? ⟨gb305, 1, none⟩ = some (.slice A0_1 l0_1.length c0_1) := (blk_cell BK305.out 1).trans rfl; have hfz5_0 := blk_frozen BK305.out 0; have hfz5_1 := blk_frozen BK305.out 1) | ((with_reducible refine gate_callee (f := 34) rfl ?_); refine goesL_ (some 7) rfl rfl Try.func34 (by kernel_rfl) rfl #[.agg #[.slice A0_0 l0_0.length c0_0, .slice A0_1 l0_1.length c0_1]] rfl (by (try simp only [List.map_toArray, List.map_cons, List.map_nil]); first | done | rfl | (simp only [List.length_drop, List.length_take]; rfl)) ?_; (with_reducible refine (selfstabref01_Valid.calls k _ _ l0_0 _ _ l0_1 true _ ?side1 ?side2 ?side3 ?side4 A2.out).mono ?_); (case side1 => repeat (first | exact (Kd.C_below HR0_0.out HB.out) | (with_reducible refine Kd.C_alloc ?_ _) | (with_reducible refine Kd.C_drewN ?_ _) | (with_reducible refine Kd.C_drew ?_))); (case side2 => exact HC0_0.out); (case side3 => repeat (first | exact (Kd.C_below HR0_1.out HB.out) | (with_reducible refine Kd.C_alloc ?_ _) | (with_reducible refine Kd.C_drewN ?_ _) | (with_reducible refine Kd.C_drew ?_))); (case side4 => exact HC0_1.out); rintro e w6 ⟨rfl, hb⟩; refine ⟨_, rfl, ?_⟩; have n0_ := Aside0.mk (blk_below (g := gb305) (o := .cells #[.slice A0_0 l0_0.length c0_0, .slice A0_1 l0_1.length c0_1] 25 (0, 0)) (by (with_reducible repeat (first | refine blk_drewN ?_ _ | refine blk_drew ?_ | refine blk_alloc ?_ _)); exact BK305.out) hb); have n1_ := Aside0.mk (below_step (by repeat (first | (with_reducible first | exact HB.out | apply below_alloc | apply pw_below_drewN | apply below_drew1 | refine below_set ?_ GE305.out) | exact HB.out)) hb); clear BK305; clear HB; have BK305 := n0_; have HB := n1_; clear n0_ n1_; (try clear hb); (try clear hb2); (try clear hk); (try clear hi)))
    go_loopg [4, 5] k (fun kq v4 v5 w' => ∃ (x4_1 : Int) (x5_1 : Int), v4 = .int .i64 x4_1 ∧ v5 = .int .i64 x5_1 ∧ Aside0 (selfstabref01_Size.l0 kq x4_1 x5_1 l0_0 l0_1 = some (r1, r2)) ∧ Aside0 (kq ≤ k) ∧ Aside0 (w'.heap[gb305]? = some (.cells #[(.slice A0_0 l0_0.length c0_0), (.slice A0_1 l0_1.length c0_1)] 25 (0, 0))) ∧ Aside0 (Below w.heap.size w w'))
    case atStart => exact ⟨(0), (0), (by first | rfl | (simp; done) | (simp [*]; done)), (by first | rfl | (simp; done) | (simp [*]; done)), H', ⟨Nat.le_refl _⟩, ⟨by (with_reducible repeat (first | refine blk_drewN ?_ _ | refine blk_drew ?_ | refine blk_alloc ?_ _)); exact BK305.out⟩, ⟨by repeat (first | (with_reducible first | exact HB.out | apply below_alloc | apply pw_below_drewN | apply below_drew1 | refine below_set ?_ GE305.out) | exact HB.out)⟩⟩
    case round =>
      clear H'
      try clear p2
      try clear c3
      try clear hcz5_0
      try clear hcz5_1
      try clear hfz5_0
      try clear hfz5_1
      obtain ⟨x4_1, x5_1, rfl, rfl, HA, HK1, BK305, HB⟩ := hrel
      cases gk with
      | zero => exact absurd HA.out (by simp [selfstabref01_Size.l0])
      | succ k1 =>
        have H := HA.out
        clear HA
        simp only [selfstabref01_Size.l0] at H
        by_cases c7 : x5_1 < (l0_1.length : Int)
        · rw [if_pos c7] at H
          have c7b0 : decide (x5_1 < (l0_1.length : Int)) = true := decide_eq_true c7
          clear c7
          by_cases c8 : 0 ≤ x5_1
          · rw [if_pos c8] at H
            have c8b0 : decide (0 ≤ x5_1) = true := decide_eq_true c8
            clear c8
            have H' := Aside0.mk H
            clear H
            have hcz9_0 : wr.cell? ⟨gb305, 0, none⟩ = some (.slice A0_0 l0_0.length c0_0) := (blk_cell BK305.out 0).trans rfl
            have hcz9_1 : wr.cell? ⟨gb305, 1, none⟩ = some (.slice A0_1 l0_1.length c0_1) := (blk_cell BK305.out 1).trans rfl
            have hfz9_0 := blk_frozen BK305.out 0
            have hfz9_1 := blk_frozen BK305.out 1
            have p307 : 0 ≤ (x5_1 : Int) := of_decide_eq_true (by first | (with_reducible assumption) | assumption)
            have q307 : x5_1 < (l0_1.length : Int) := of_decide_eq_true (by first | (with_reducible assumption) | assumption)
            obtain ⟨ad307, A307_0, c307_0, e307, hx307_0, hl307_0, hi307_0⟩ := at_L2 HR0_1.out x5_1 p307 q307
            cases e307
            replace hx307_0 := (HB.out.cell (World.block_lt_of_cell? w _ hx307_0)).trans hx307_0
            have HR307_0 := Aside0.mk hi307_0
            have HC307_0 := Aside0.mk hl307_0
            clear hi307_0 hl307_0
            replace p307 := eq_true p307
            replace q307 := eq_true q307
            go_wp2
            go_roundg k1
            case measure => have := HK1.out; omega
            case rel => exact ⟨(wrap64 (x4_1 + ((rd_L2 l0_1 x5_1).length : Int))), (wrap64 (x5_1 + 1)), (by first | rfl | (simp; done) | (simp [*]; done)), (by first | rfl | (simp; done) | (simp [*]; done)), H', ⟨by have := HK1.out; omega⟩, ⟨by (with_reducible repeat (first | refine blk_drewN ?_ _ | refine blk_drew ?_ | refine blk_alloc ?_ _)); exact BK305.out⟩, ⟨by repeat (first | (with_reducible first | exact HB.out | apply below_alloc | apply pw_below_drewN | apply below_drew1 | refine below_set ?_ GE305.out) | exact HB.out)⟩⟩
          · rw [if_neg c8] at H
            exact absurd H (by simp)
        · rw [if_neg c7] at H
          have c7b0 : decide (x5_1 < (l0_1.length : Int)) = false := decide_eq_false c7
          clear c7
          simp only [Option.some.injEq, Prod.mk.injEq] at H
          obtain ⟨rfl, rfl⟩ := H
          have hcz10_0 : wr.cell? ⟨gb305, 0, none⟩ = some (.slice A0_0 l0_0.length c0_0) := (blk_cell BK305.out 0).trans rfl
          have hcz10_1 : wr.cell? ⟨gb305, 1, none⟩ = some (.slice A0_1 l0_1.length c0_1) := (blk_cell BK305.out 1).trans rfl
          have hfz10_0 := blk_frozen BK305.out 0
          have hfz10_1 := blk_frozen BK305.out 1
          go_wp2
          go_ret2
          exact ⟨by first | rfl | (simp [errW_none, errW_some] <;> rfl) | (simp [*, errW_none, errW_some] <;> rfl), by repeat (first | (with_reducible first | exact HB.out | apply below_alloc | apply pw_below_drewN | apply below_drew1 | refine below_set ?_ GE305.out) | exact HB.out)⟩
  · replace c3 := Bool.eq_false_iff.mpr c3
    subst c3
    have H1 : (some (0, 0)) = some (r1, r2) := by rw [if_neg (show ¬ (false = true) by decide)] at H; exact H
    clear H
    have H := H1
    clear H1
    simp only [Option.some.injEq, Prod.mk.injEq] at H
    obtain ⟨rfl, rfl⟩ := H
    go_enter Try.func32, Try.ntmps32
    go_wp2_with (first | ((with_reducible refine gate_dst (N := 1) rfl ?_); refine box_event ?hg (N := 1) ?hd (cs := #[.slice A0_0 l0_0.length c0_0, .slice A0_1 l0_1.length c0_1]) (t := 25) ?hr ?_; (case hd => rfl); (case hg => rfl); (case hr => first | (go_simp; done) | (go_simp; rfl)); intro gb305 hg w11 hbox hb; have n0_ := Aside0.mk (below_step (by repeat (first | (with_reducible first | exact HB.out | apply below_alloc | apply pw_below_drewN | apply below_drew1) | exact HB.out)) hb); have n1_ := Aside0.mk (hbox); have n2_ := Aside0.mk ((by rw [hg]; exact (below_size (by repeat (first | (with_reducible first | exact HB.out | apply below_alloc | apply pw_below_drewN | apply below_drew1) | exact HB.out))) : w.heap.size ≤ gb305)); have n3_ := Aside0.mk ((by rw [hg]; exact (below_size (by repeat (first | (with_reducible first | exact HB.out | apply below_alloc | apply pw_below_drewN | apply below_drew1) | exact HB.out))) : w.heap.size ≤ gb305)); clear HB; have HB := n0_; have BK305 := n1_; have GW305 := n2_; have GE305 := n3_; clear n0_ n1_ n2_ n3_; clear hb hbox hg; have hcz12_0 : w11.cell? ⟨gb305, 0, none⟩ = some (.slice A0_0 l0_0.length c0_0) := (blk_cell BK305.out 0).trans rfl; have hcz12_1 : w11.cell? ⟨gb305, 1, none⟩ = some (.slice A0_1 l0_1.length c0_1) := (blk_cell BK305.out 1).trans rfl; have hfz12_0 := blk_frozen BK305.out 0; have hfz12_1 := blk_frozen BK305.out 1) | ((with_reducible refine gate_callee (f := 34) rfl ?_); refine goesL_ (some 7) rfl rfl Try.func34 (by kernel_rfl) rfl #[.agg #[.slice A0_0 l0_0.length c0_0, .slice A0_1 l0_1.length c0_1]] rfl (by (try simp only [List.map_toArray, List.map_cons, List.map_nil]); first | done | rfl | (simp only [List.length_drop, List.length_take]; rfl)) ?_; (with_reducible refine (selfstabref01_Valid.calls k _ _ l0_0 _ _ l0_1 false _ ?side1 ?side2 ?side3 ?side4 A2.out).mono ?_); (case side1 => repeat (first | exact (Kd.C_below HR0_0.out HB.out) | (with_reducible refine Kd.C_alloc ?_ _) | (with_reducible refine Kd.C_drewN ?_ _) | (with_reducible refine Kd.C_drew ?_))); (case side2 => exact HC0_0.out); (case side3 => repeat (first | exact (Kd.C_below HR0_1.out HB.out) | (with_reducible refine Kd.C_alloc ?_ _) | (with_reducible refine Kd.C_drewN ?_ _) | (with_reducible refine Kd.C_drew ?_))); (case side4 => exact HC0_1.out); rintro e w13 ⟨rfl, hb⟩; refine ⟨_, rfl, ?_⟩; have n0_ := Aside0.mk (blk_below (g := gb305) (o := .cells #[.slice A0_0 l0_0.length c0_0, .slice A0_1 l0_1.length c0_1] 25 (0, 0)) (by (with_reducible repeat (first | refine blk_drewN ?_ _ | refine blk_drew ?_ | refine blk_alloc ?_ _)); exact BK305.out) hb); have n1_ := Aside0.mk (below_step (by repeat (first | (with_reducible first | exact HB.out | apply below_alloc | apply pw_below_drewN | apply below_drew1 | refine below_set ?_ GE305.out) | exact HB.out)) hb); clear BK305; clear HB; have BK305 := n0_; have HB := n1_; clear n0_ n1_; (try clear hb); (try clear hb2); (try clear hk); (try clear hi)))
    go_ret2
    exact ⟨by first | rfl | (simp [errW_none, errW_some] <;> rfl) | (simp [*, errW_none, errW_some] <;> rfl), by repeat (first | (with_reducible first | exact HB.out | apply below_alloc | apply pw_below_drewN | apply below_drew1 | refine below_set ?_ GE305.out) | exact HB.out)⟩

end Go.Proofs.Ytbpolpagcaacoaa.P
