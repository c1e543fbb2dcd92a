-- By a program of this session (wip/tools/myprint.py over the kit's printer). Not trusted: Lean checks it.
import Derived.Test.YtdhkplfkbdldfaaP0
namespace Go.Proofs.Ytdhkplfkbdldfaa.P
open Go.RowKit Go.Proofs.YtdhkplfkbdldfaaW.PrintWords Go.Proofs.YtdhkplfkbdldfaaW.PrintLast Go.Proofs.YtdhkplfkbdldfaaW.PrintMore
attribute [local go_sem] max2_int min2_int max_two min_two max_three min_three max_four min_four   -- for this text's walks alone
set_option linter.unusedVariables false
set_option linter.unusedSimpArgs false

/-! ### selfstabref01_In: function 28 -/
def selfstabref01_In.f (a0 : Int) (a1 : Int) (a2 : Int) : Option (Bool) := if a0 ≥ a1 then (some (decide (a0 ≤ a2))) else (some false)
set_option maxHeartbeats 8000000 in
set_option maxRecDepth 100000 in
theorem selfstabref01_In.calls (a0 : Int) (a1 : Int) (a2 : Int) (r : Bool) (w : World) (h : selfstabref01_In.f a0 a1 a2 = some r) :
    Calls Try.prog 28 #[.int .i64 a0, .int .i64 a1, .int .i64 a2] w fun e w' => e = .returned (.bool r) ∧ Drawn0 w w' := by
  have H : (if a0 ≥ a1 then (some (decide (a0 ≤ a2))) else (some false)) = some r := h
  clear h
  by_cases c4 : a0 ≥ a1
  · rw [if_pos c4] at H
    have c4b0 : decide (a1 ≤ a0) = true := decide_eq_true c4
    clear c4
    obtain rfl := Option.some.inj H
    go_enter Try.func28, Try.ntmps28
    go_wp2
    go_ret
    exact ⟨by first | rfl | (simp; done) | (simp [*]; done), by repeat (first | exact Drawn0.refl _ | apply Drawn0.step)⟩
  · rw [if_neg c4] at H
    have c4b0 : decide (a1 ≤ a0) = false := decide_eq_false c4
    clear c4
    obtain rfl := Option.some.inj H
    go_enter Try.func28, Try.ntmps28
    go_wp2
    go_ret
    exact ⟨by first | rfl | (simp; done) | (simp [*]; done), by repeat (first | exact Drawn0.refl _ | apply Drawn0.step)⟩

/-! ### selfstabref42_Valid: function 20 -/
mutual
def selfstabref42_Valid.j0 : Nat → Bool → Int → Int → Int → Int → Int → List (S46) → List Int → Option (Bool)
  | 0, _, _, _, _, _, _, _, _ => none
  | k + 1, x58, x154000, x154001, x154002, x154003, x154004, x154005, x154006 => if x58 = true then (some false) else (selfstabref42_Valid.l0 k 0 x154000 x154001 x154002 x154003 x154004 x154005 x154006)
def selfstabref42_Valid.l0 : Nat → Int → Int → Int → Int → Int → Int → List (S46) → List Int → Option (Bool)
  | 0, _, _, _, _, _, _, _, _ => none
  | k + 1, x3, x154000, x154001, x154002, x154003, x154004, x154005, x154006 => if x3 < (x154005.length : Int) then (if 0 ≤ x3 then ((selfstabref01_In.f ((rd_T46 x154005 x3).f0) 0 (wrap64 (x154001 - 1))).bind fun t160 => (if t160 = true then ((selfstabref01_In.f ((rd_T46 x154005 x3).f1) (-1073741824) 1073741824).bind fun t162 => (if t162 = true then (selfstabref42_Valid.l0 k (wrap64 (x3 + 1)) x154000 x154001 x154002 x154003 x154004 x154005 x154006) else (some false))) else (some false))) else (none)) else (selfstabref42_Valid.l1 k 0 x154000 x154001 x154002 x154003 x154004 x154005 x154006)
def selfstabref42_Valid.l1 : Nat → Int → Int → Int → Int → Int → Int → List (S46) → List Int → Option (Bool)
  | 0, _, _, _, _, _, _, _, _ => none
  | k + 1, x4, x154000, x154001, x154002, x154003, x154004, x154005, x154006 => if x4 < (x154006.length : Int) then (if 0 ≤ x4 then ((selfstabref01_In.f (rd x154006 x4) 0 (wrap64 (x154001 - 1))).bind fun t164 => (if t164 = true then (selfstabref42_Valid.l1 k (wrap64 (x4 + 1)) x154000 x154001 x154002 x154003 x154004 x154005 x154006) else (some false))) else (none)) else (some true)
end
def selfstabref42_Valid.f (k : Nat) (a0_0 : Int) (a0_1 : Int) (a0_2 : Int) (a0_3 : Int) (a0_4 : Int) (l0_5 : List (S46)) (l0_6 : List Int) : Option (Bool) := (selfstabref01_In.f a0_0 1 8).bind fun t154 => (if t154 = true then ((selfstabref01_In.f a0_1 (wrap64 ((wrap64 (2 * a0_0)) + 2)) 64).bind fun t155 => (if t155 = true then ((selfstabref01_In.f a0_2 0 (wrap64 (a0_1 - 1))).bind fun t156 => (if t156 = true then ((selfstabref01_In.f a0_4 0 (wrap64 (a0_1 - 1))).bind fun t157 => (if t157 = true then ((selfstabref01_In.f a0_3 0 1073741824).bind fun t158 => (if t158 = true then (if (l0_5.length : Int) > a0_0 then (selfstabref42_Valid.j0 k true a0_0 a0_1 a0_2 a0_3 a0_4 l0_5 l0_6) else (selfstabref42_Valid.j0 k (decide ((l0_6.length : Int) > a0_0)) a0_0 a0_1 a0_2 a0_3 a0_4 l0_5 l0_6)) else (selfstabref42_Valid.j0 k true a0_0 a0_1 a0_2 a0_3 a0_4 l0_5 l0_6))) else (selfstabref42_Valid.j0 k true a0_0 a0_1 a0_2 a0_3 a0_4 l0_5 l0_6))) else (selfstabref42_Valid.j0 k true a0_0 a0_1 a0_2 a0_3 a0_4 l0_5 l0_6))) else (selfstabref42_Valid.j0 k true a0_0 a0_1 a0_2 a0_3 a0_4 l0_5 l0_6))) else (selfstabref42_Valid.j0 k true a0_0 a0_1 a0_2 a0_3 a0_4 l0_5 l0_6))
theorem selfstabref42_Valid.mono_l : ∀ k, (∀ y0 y1 y2 y3 y4 y5 y6 y7, LeO (selfstabref42_Valid.j0 k y0 y1 y2 y3 y4 y5 y6 y7) (selfstabref42_Valid.j0 (k + 1) y0 y1 y2 y3 y4 y5 y6 y7)) ∧ (∀ y0 y1 y2 y3 y4 y5 y6 y7, LeO (selfstabref42_Valid.l0 k y0 y1 y2 y3 y4 y5 y6 y7) (selfstabref42_Valid.l0 (k + 1) y0 y1 y2 y3 y4 y5 y6 y7)) ∧ (∀ y0 y1 y2 y3 y4 y5 y6 y7, LeO (selfstabref42_Valid.l1 k y0 y1 y2 y3 y4 y5 y6 y7) (selfstabref42_Valid.l1 (k + 1) y0 y1 y2 y3 y4 y5 y6 y7))
  | 0 => ⟨fun _ _ _ _ _ _ _ _ r h => by simp [selfstabref42_Valid.j0] at h, fun _ _ _ _ _ _ _ _ r h => by simp [selfstabref42_Valid.l0] at h, fun _ _ _ _ _ _ _ _ r h => by simp [selfstabref42_Valid.l1] at h⟩
  | k + 1 => by
    obtain ⟨ih0, ih1, ih2⟩ := selfstabref42_Valid.mono_l k
    refine ⟨?_, ?_, ?_⟩
    · intro y0 y1 y2 y3 y4 y5 y6 y7
      unfold selfstabref42_Valid.j0
      repeat' first
      | (with_reducible exact ih0 _ _ _ _ _ _ _ _)
      | (with_reducible exact ih1 _ _ _ _ _ _ _ _)
      | (with_reducible exact ih2 _ _ _ _ _ _ _ _)
      | (with_reducible exact LeO.refl _)
      | (with_reducible exact LeO.none _)
      | (with_reducible refine LeO.ite ?_ ?_)
      | (with_reducible refine LeO.bind ?_ (fun _ => ?_))
      | exact ih0 _ _ _ _ _ _ _ _
      | exact ih1 _ _ _ _ _ _ _ _
      | exact ih2 _ _ _ _ _ _ _ _
      | exact LeO.none _
      | refine LeO.ite ?_ ?_
      | refine LeO.bind ?_ (fun _ => ?_)
    · intro y0 y1 y2 y3 y4 y5 y6 y7
      unfold selfstabref42_Valid.l0
      repeat' first
      | (with_reducible exact ih0 _ _ _ _ _ _ _ _)
      | (with_reducible exact ih1 _ _ _ _ _ _ _ _)
      | (with_reducible exact ih2 _ _ _ _ _ _ _ _)
      | (with_reducible exact LeO.refl _)
      | (with_reducible exact LeO.none _)
      | (with_reducible refine LeO.ite ?_ ?_)
      | (with_reducible refine LeO.bind ?_ (fun _ => ?_))
      | exact ih0 _ _ _ _ _ _ _ _
      | exact ih1 _ _ _ _ _ _ _ _
      | exact ih2 _ _ _ _ _ _ _ _
      | exact LeO.none _
      | refine LeO.ite ?_ ?_
      | refine LeO.bind ?_ (fun _ => ?_)
    · intro y0 y1 y2 y3 y4 y5 y6 y7
      unfold selfstabref42_Valid.l1
      repeat' first
      | (with_reducible exact ih0 _ _ _ _ _ _ _ _)
      | (with_reducible exact ih1 _ _ _ _ _ _ _ _)
      | (with_reducible exact ih2 _ _ _ _ _ _ _ _)
      | (with_reducible exact LeO.refl _)
      | (with_reducible exact LeO.none _)
      | (with_reducible refine LeO.ite ?_ ?_)
      | (with_reducible refine LeO.bind ?_ (fun _ => ?_))
      | exact ih0 _ _ _ _ _ _ _ _
      | exact ih1 _ _ _ _ _ _ _ _
      | exact ih2 _ _ _ _ _ _ _ _
      | exact LeO.none _
      | refine LeO.ite ?_ ?_
      | refine LeO.bind ?_ (fun _ => ?_)
theorem selfstabref42_Valid.mono : ∀ a0 a1 a2 a3 a4 a5 a6 k, LeO (selfstabref42_Valid.f k a0 a1 a2 a3 a4 a5 a6) (selfstabref42_Valid.f (k + 1) a0 a1 a2 a3 a4 a5 a6) := by
  intro a0 a1 a2 a3 a4 a5 a6 k
  obtain ⟨ih0, ih1, ih2⟩ := selfstabref42_Valid.mono_l k
  unfold selfstabref42_Valid.f
  repeat' first
      | (with_reducible exact ih0 _ _ _ _ _ _ _ _)
      | (with_reducible exact ih1 _ _ _ _ _ _ _ _)
      | (with_reducible exact ih2 _ _ _ _ _ _ _ _)
      | (with_reducible exact LeO.refl _)
      | (with_reducible exact LeO.none _)
      | (with_reducible refine LeO.ite ?_ ?_)
      | (with_reducible refine LeO.bind ?_ (fun _ => ?_))
      | exact ih0 _ _ _ _ _ _ _ _
      | exact ih1 _ _ _ _ _ _ _ _
      | exact ih2 _ _ _ _ _ _ _ _
      | exact LeO.none _
      | refine LeO.ite ?_ ?_
      | refine LeO.bind ?_ (fun _ => ?_)
set_option maxHeartbeats 8000000 in
set_option maxRecDepth 100000 in
theorem selfstabref42_Valid.calls (k : Nat) (a0_0 : Int) (a0_1 : Int) (a0_2 : Int) (a0_3 : Int) (a0_4 : Int) (A0_5 : Option Addr) (c0_5 : Nat) (l0_5 : List (S46)) (A0_6 : Option Addr) (c0_6 : Nat) (l0_6 : List Int) (r : Bool) (w : World) (hr0_5 : Kd.C k46 w A0_5 l0_5.length l0_5) (hc0_5 : l0_5.length ≤ c0_5) (hr0_6 : Kd.C (Kd.int .i64) w A0_6 l0_6.length l0_6) (hc0_6 : l0_6.length ≤ c0_6) (h : selfstabref42_Valid.f k a0_0 a0_1 a0_2 a0_3 a0_4 l0_5 l0_6 = some r) :
    Calls Try.prog 20 #[.agg #[.int .i64 a0_0, .int .i64 a0_1, .int .i64 a0_2, .int .i64 a0_3, .int .i64 a0_4, .slice A0_5 l0_5.length c0_5, .slice A0_6 l0_6.length c0_6]] w fun e w' => e = .returned (.bool r) ∧ Below w.heap.size w w' := by
  have hu29 := Try.underlying29
  have HR0_5 := Aside0.mk hr0_5
  have HC0_5 := Aside0.mk hc0_5
  clear hr0_5 hc0_5
  have HR0_6 := Aside0.mk hr0_6
  have HC0_6 := Aside0.mk hc0_6
  clear hr0_6 hc0_6
  have HB := Aside0.mk (Below.refl w.heap.size w)
  have H : ((selfstabref01_In.f a0_0 1 8).bind fun t154 => (if t154 = true then ((selfstabref01_In.f a0_1 (wrap64 ((wrap64 (2 * a0_0)) + 2)) 64).bind fun t155 => (if t155 = true then ((selfstabref01_In.f a0_2 0 (wrap64 (a0_1 - 1))).bind fun t156 => (if t156 = true then ((selfstabref01_In.f a0_4 0 (wrap64 (a0_1 - 1))).bind fun t157 => (if t157 = true then ((selfstabref01_In.f a0_3 0 1073741824).bind fun t158 => (if t158 = true then (if (l0_5.length : Int) > a0_0 then (selfstabref42_Valid.j0 k true a0_0 a0_1 a0_2 a0_3 a0_4 l0_5 l0_6) else (selfstabref42_Valid.j0 k (decide ((l0_6.length : Int) > a0_0)) a0_0 a0_1 a0_2 a0_3 a0_4 l0_5 l0_6)) else (selfstabref42_Valid.j0 k true a0_0 a0_1 a0_2 a0_3 a0_4 l0_5 l0_6))) else (selfstabref42_Valid.j0 k true a0_0 a0_1 a0_2 a0_3 a0_4 l0_5 l0_6))) else (selfstabref42_Valid.j0 k true a0_0 a0_1 a0_2 a0_3 a0_4 l0_5 l0_6))) else (selfstabref42_Valid.j0 k true a0_0 a0_1 a0_2 a0_3 a0_4 l0_5 l0_6))) else (selfstabref42_Valid.j0 k true a0_0 a0_1 a0_2 a0_3 a0_4 l0_5 l0_6))) = some r := h
  clear h
  have HC2 := Aside0.mk H
  clear H
  go_enter Try.func20, Try.ntmps20
  go_upto_region 1 with (first | ((with_reducible refine gate_dst (N := 1) rfl ?_); (try (refine gate_guard (by rfl) ?_; dsimp only)); refine box_event ?hg (N := 1) ?hd (cs := #[.int .i64 a0_0, .int .i64 a0_1, .int .i64 a0_2, .int .i64 a0_3, .int .i64 a0_4, .slice A0_5 l0_5.length c0_5, .slice A0_6 l0_6.length c0_6]) (t := 29) ?hr ?_; (case hd => rfl); (case hg => rfl); (case hr => first | (go_simp; done) | (go_simp; rfl)); intro gb153 hg w3 hbox hb; have n0_ := Aside0.mk (below_step (by repeat (first | (with_reducible first | exact HB.out | apply below_alloc | apply pw_below_drewN | apply below_drew1) | exact HB.out)) hb); have n1_ := Aside0.mk (hbox); have n2_ := Aside0.mk ((by rw [hg]; exact (below_size (by repeat (first | (with_reducible first | exact HB.out | apply below_alloc | apply pw_below_drewN | apply below_drew1) | exact HB.out))) : w.heap.size ≤ gb153)); have n3_ := Aside0.mk ((by rw [hg]; exact (below_size (by repeat (first | (with_reducible first | exact HB.out | apply below_alloc | apply pw_below_drewN | apply below_drew1) | exact HB.out))) : w.heap.size ≤ gb153)); clear HB; have HB := n0_; have BK153 := n1_; have GW153 := n2_; have GE153 := n3_; clear n0_ n1_ n2_ n3_; clear hb hbox hg))
  repeat (go_quiet (first | ((with_reducible refine gate_dst (N := 1) rfl ?_); (try (refine gate_guard (by rfl) ?_; dsimp only)); refine box_event ?hg (N := 1) ?hd (cs := #[.int .i64 a0_0, .int .i64 a0_1, .int .i64 a0_2, .int .i64 a0_3, .int .i64 a0_4, .slice A0_5 l0_5.length c0_5, .slice A0_6 l0_6.length c0_6]) (t := 29) ?hr ?_; (case hd => rfl); (case hg => rfl); (case hr => first | (go_simp; done) | (go_simp; rfl)); intro gb153 hg w3 hbox hb; have n0_ := Aside0.mk (below_step (by repeat (first | (with_reducible first | exact HB.out | apply below_alloc | apply pw_below_drewN | apply below_drew1) | exact HB.out)) hb); have n1_ := Aside0.mk (hbox); have n2_ := Aside0.mk ((by rw [hg]; exact (below_size (by repeat (first | (with_reducible first | exact HB.out | apply below_alloc | apply pw_below_drewN | apply below_drew1) | exact HB.out))) : w.heap.size ≤ gb153)); have n3_ := Aside0.mk ((by rw [hg]; exact (below_size (by repeat (first | (with_reducible first | exact HB.out | apply below_alloc | apply pw_below_drewN | apply below_drew1) | exact HB.out))) : w.heap.size ≤ gb153)); clear HB; have HB := n0_; have BK153 := n1_; have GW153 := n2_; have GE153 := n3_; clear n0_ n1_ n2_ n3_; clear hb hbox hg)); go_upto_region 1 with (first | ((with_reducible refine gate_dst (N := 1) rfl ?_); (try (refine gate_guard (by rfl) ?_; dsimp only)); refine box_event ?hg (N := 1) ?hd (cs := #[.int .i64 a0_0, .int .i64 a0_1, .int .i64 a0_2, .int .i64 a0_3, .int .i64 a0_4, .slice A0_5 l0_5.length c0_5, .slice A0_6 l0_6.length c0_6]) (t := 29) ?hr ?_; (case hd => rfl); (case hg => rfl); (case hr => first | (go_simp; done) | (go_simp; rfl)); intro gb153 hg w3 hbox hb; have n0_ := Aside0.mk (below_step (by repeat (first | (with_reducible first | exact HB.out | apply below_alloc | apply pw_below_drewN | apply below_drew1) | exact HB.out)) hb); have n1_ := Aside0.mk (hbox); have n2_ := Aside0.mk ((by rw [hg]; exact (below_size (by repeat (first | (with_reducible first | exact HB.out | apply below_alloc | apply pw_below_drewN | apply below_drew1) | exact HB.out))) : w.heap.size ≤ gb153)); have n3_ := Aside0.mk ((by rw [hg]; exact (below_size (by repeat (first | (with_reducible first | exact HB.out | apply below_alloc | apply pw_below_drewN | apply below_drew1) | exact HB.out))) : w.heap.size ≤ gb153)); clear HB; have HB := n0_; have BK153 := n1_; have GW153 := n2_; have GE153 := n3_; clear n0_ n1_ n2_ n3_; clear hb hbox hg)))
  (try simp only [Act.put, List.setIfInBounds_toArray, List.set_cons_zero, List.set_cons_succ])
  go_cut [58] (fun v58 wc => ∃ (kq : Nat) (x58_1 : Bool), v58 = .bool x58_1 ∧ Aside0 (selfstabref42_Valid.j0 kq x58_1 a0_0 a0_1 a0_2 a0_3 a0_4 l0_5 l0_6 = some r) ∧ Aside0 (kq ≤ k) ∧ Aside0 (wc.heap[gb153]? = some (.cells #[.int .i64 a0_0, .int .i64 a0_1, .int .i64 a0_2, .int .i64 a0_3, .int .i64 a0_4, (.slice A0_5 l0_5.length c0_5), (.slice A0_6 l0_6.length c0_6)] 29 (0, 0))) ∧ Aside0 (Below w.heap.size w wc))
  case first =>
    have H := HC2.out
    clear HC2
    replace H := Option.bind_eq_some_iff.mp H
    obtain ⟨t154, A40, H⟩ := H
    replace H : (if t154 = true then ((selfstabref01_In.f a0_1 (wrap64 ((wrap64 (2 * a0_0)) + 2)) 64).bind fun t155 => (if t155 = true then ((selfstabref01_In.f a0_2 0 (wrap64 (a0_1 - 1))).bind fun t156 => (if t156 = true then ((selfstabref01_In.f a0_4 0 (wrap64 (a0_1 - 1))).bind fun t157 => (if t157 = true then ((selfstabref01_In.f a0_3 0 1073741824).bind fun t158 => (if t158 = true then (if (l0_5.length : Int) > a0_0 then (selfstabref42_Valid.j0 k true a0_0 a0_1 a0_2 a0_3 a0_4 l0_5 l0_6) else (selfstabref42_Valid.j0 k (decide ((l0_6.length : Int) > a0_0)) a0_0 a0_1 a0_2 a0_3 a0_4 l0_5 l0_6)) else (selfstabref42_Valid.j0 k true a0_0 a0_1 a0_2 a0_3 a0_4 l0_5 l0_6))) else (selfstabref42_Valid.j0 k true a0_0 a0_1 a0_2 a0_3 a0_4 l0_5 l0_6))) else (selfstabref42_Valid.j0 k true a0_0 a0_1 a0_2 a0_3 a0_4 l0_5 l0_6))) else (selfstabref42_Valid.j0 k true a0_0 a0_1 a0_2 a0_3 a0_4 l0_5 l0_6))) else (selfstabref42_Valid.j0 k true a0_0 a0_1 a0_2 a0_3 a0_4 l0_5 l0_6)) = some r := H
    have A4 := Aside0.mk A40
    clear A40
    by_cases c5 : t154 = true
    · subst c5
      have H1 : ((selfstabref01_In.f a0_1 (wrap64 ((wrap64 (2 * a0_0)) + 2)) 64).bind fun t155 => (if t155 = true then ((selfstabref01_In.f a0_2 0 (wrap64 (a0_1 - 1))).bind fun t156 => (if t156 = true then ((selfstabref01_In.f a0_4 0 (wrap64 (a0_1 - 1))).bind fun t157 => (if t157 = true then ((selfstabref01_In.f a0_3 0 1073741824).bind fun t158 => (if t158 = true then (if (l0_5.length : Int) > a0_0 then (selfstabref42_Valid.j0 k true a0_0 a0_1 a0_2 a0_3 a0_4 l0_5 l0_6) else (selfstabref42_Valid.j0 k (decide ((l0_6.length : Int) > a0_0)) a0_0 a0_1 a0_2 a0_3 a0_4 l0_5 l0_6)) else (selfstabref42_Valid.j0 k true a0_0 a0_1 a0_2 a0_3 a0_4 l0_5 l0_6))) else (selfstabref42_Valid.j0 k true a0_0 a0_1 a0_2 a0_3 a0_4 l0_5 l0_6))) else (selfstabref42_Valid.j0 k true a0_0 a0_1 a0_2 a0_3 a0_4 l0_5 l0_6))) else (selfstabref42_Valid.j0 k true a0_0 a0_1 a0_2 a0_3 a0_4 l0_5 l0_6))) = some r := by rw [if_pos rfl] at H; exact H
      clear H
      have H := H1
      clear H1
      replace H := Option.bind_eq_some_iff.mp H
      obtain ⟨t155, A60, H⟩ := H
      replace H : (if t155 = true then ((selfstabref01_In.f a0_2 0 (wrap64 (a0_1 - 1))).bind fun t156 => (if t156 = true then ((selfstabref01_In.f a0_4 0 (wrap64 (a0_1 - 1))).bind fun t157 => (if t157 = true then ((selfstabref01_In.f a0_3 0 1073741824).bind fun t158 => (if t158 = true then (if (l0_5.length : Int) > a0_0 then (selfstabref42_Valid.j0 k true a0_0 a0_1 a0_2 a0_3 a0_4 l0_5 l0_6) else (selfstabref42_Valid.j0 k (decide ((l0_6.length : Int) > a0_0)) a0_0 a0_1 a0_2 a0_3 a0_4 l0_5 l0_6)) else (selfstabref42_Valid.j0 k true a0_0 a0_1 a0_2 a0_3 a0_4 l0_5 l0_6))) else (selfstabref42_Valid.j0 k true a0_0 a0_1 a0_2 a0_3 a0_4 l0_5 l0_6))) else (selfstabref42_Valid.j0 k true a0_0 a0_1 a0_2 a0_3 a0_4 l0_5 l0_6))) else (selfstabref42_Valid.j0 k true a0_0 a0_1 a0_2 a0_3 a0_4 l0_5 l0_6)) = some r := H
      have A6 := Aside0.mk A60
      clear A60
      by_cases c7 : t155 = true
      · subst c7
        have H1 : ((selfstabref01_In.f a0_2 0 (wrap64 (a0_1 - 1))).bind fun t156 => (if t156 = true then ((selfstabref01_In.f a0_4 0 (wrap64 (a0_1 - 1))).bind fun t157 => (if t157 = true then ((selfstabref01_In.f a0_3 0 1073741824).bind fun t158 => (if t158 = true then (if (l0_5.length : Int) > a0_0 then (selfstabref42_Valid.j0 k true a0_0 a0_1 a0_2 a0_3 a0_4 l0_5 l0_6) else (selfstabref42_Valid.j0 k (decide ((l0_6.length : Int) > a0_0)) a0_0 a0_1 a0_2 a0_3 a0_4 l0_5 l0_6)) else (selfstabref42_Valid.j0 k true a0_0 a0_1 a0_2 a0_3 a0_4 l0_5 l0_6))) else (selfstabref42_Valid.j0 k true a0_0 a0_1 a0_2 a0_3 a0_4 l0_5 l0_6))) else (selfstabref42_Valid.j0 k true a0_0 a0_1 a0_2 a0_3 a0_4 l0_5 l0_6))) = some r := by rw [if_pos rfl] at H; exact H
        clear H
        have H := H1
        clear H1
        replace H := Option.bind_eq_some_iff.mp H
        obtain ⟨t156, A80, H⟩ := H
        replace H : (if t156 = true then ((selfstabref01_In.f a0_4 0 (wrap64 (a0_1 - 1))).bind fun t157 => (if t157 = true then ((selfstabref01_In.f a0_3 0 1073741824).bind fun t158 => (if t158 = true then (if (l0_5.length : Int) > a0_0 then (selfstabref42_Valid.j0 k true a0_0 a0_1 a0_2 a0_3 a0_4 l0_5 l0_6) else (selfstabref42_Valid.j0 k (decide ((l0_6.length : Int) > a0_0)) a0_0 a0_1 a0_2 a0_3 a0_4 l0_5 l0_6)) else (selfstabref42_Valid.j0 k true a0_0 a0_1 a0_2 a0_3 a0_4 l0_5 l0_6))) else (selfstabref42_Valid.j0 k true a0_0 a0_1 a0_2 a0_3 a0_4 l0_5 l0_6))) else (selfstabref42_Valid.j0 k true a0_0 a0_1 a0_2 a0_3 a0_4 l0_5 l0_6)) = some r := H
        have A8 := Aside0.mk A80
        clear A80
        by_cases c9 : t156 = true
        · subst c9
          have H1 : ((selfstabref01_In.f a0_4 0 (wrap64 (a0_1 - 1))).bind fun t157 => (if t157 = true then ((selfstabref01_In.f a0_3 0 1073741824).bind fun t158 => (if t158 = true then (if (l0_5.length : Int) > a0_0 then (selfstabref42_Valid.j0 k true a0_0 a0_1 a0_2 a0_3 a0_4 l0_5 l0_6) else (selfstabref42_Valid.j0 k (decide ((l0_6.length : Int) > a0_0)) a0_0 a0_1 a0_2 a0_3 a0_4 l0_5 l0_6)) else (selfstabref42_Valid.j0 k true a0_0 a0_1 a0_2 a0_3 a0_4 l0_5 l0_6))) else (selfstabref42_Valid.j0 k true a0_0 a0_1 a0_2 a0_3 a0_4 l0_5 l0_6))) = some r := by rw [if_pos rfl] at H; exact H
          clear H
          have H := H1
          clear H1
          replace H := Option.bind_eq_some_iff.mp H
          obtain ⟨t157, A100, H⟩ := H
          replace H : (if t157 = true then ((selfstabref01_In.f a0_3 0 1073741824).bind fun t158 => (if t158 = true then (if (l0_5.length : Int) > a0_0 then (selfstabref42_Valid.j0 k true a0_0 a0_1 a0_2 a0_3 a0_4 l0_5 l0_6) else (selfstabref42_Valid.j0 k (decide ((l0_6.length : Int) > a0_0)) a0_0 a0_1 a0_2 a0_3 a0_4 l0_5 l0_6)) else (selfstabref42_Valid.j0 k true a0_0 a0_1 a0_2 a0_3 a0_4 l0_5 l0_6))) else (selfstabref42_Valid.j0 k true a0_0 a0_1 a0_2 a0_3 a0_4 l0_5 l0_6)) = some r := H
          have A10 := Aside0.mk A100
          clear A100
          by_cases c11 : t157 = true
          · subst c11
            have H1 : ((selfstabref01_In.f a0_3 0 1073741824).bind fun t158 => (if t158 = true then (if (l0_5.length : Int) > a0_0 then (selfstabref42_Valid.j0 k true a0_0 a0_1 a0_2 a0_3 a0_4 l0_5 l0_6) else (selfstabref42_Valid.j0 k (decide ((l0_6.length : Int) > a0_0)) a0_0 a0_1 a0_2 a0_3 a0_4 l0_5 l0_6)) else (selfstabref42_Valid.j0 k true a0_0 a0_1 a0_2 a0_3 a0_4 l0_5 l0_6))) = some r := by rw [if_pos rfl] at H; exact H
            clear H
            have H := H1
            clear H1
            replace H := Option.bind_eq_some_iff.mp H
            obtain ⟨t158, A120, H⟩ := H
            replace H : (if t158 = true then (if (l0_5.length : Int) > a0_0 then (selfstabref42_Valid.j0 k true a0_0 a0_1 a0_2 a0_3 a0_4 l0_5 l0_6) else (selfstabref42_Valid.j0 k (decide ((l0_6.length : Int) > a0_0)) a0_0 a0_1 a0_2 a0_3 a0_4 l0_5 l0_6)) else (selfstabref42_Valid.j0 k true a0_0 a0_1 a0_2 a0_3 a0_4 l0_5 l0_6)) = some r := H
            have A12 := Aside0.mk A120
            clear A120
            by_cases c13 : t158 = true
            · subst c13
              have H1 : (if (l0_5.length : Int) > a0_0 then (selfstabref42_Valid.j0 k true a0_0 a0_1 a0_2 a0_3 a0_4 l0_5 l0_6) else (selfstabref42_Valid.j0 k (decide ((l0_6.length : Int) > a0_0)) a0_0 a0_1 a0_2 a0_3 a0_4 l0_5 l0_6)) = some r := by rw [if_pos rfl] at H; exact H
              clear H
              have H := H1
              clear H1
              by_cases c14 : (l0_5.length : Int) > a0_0
              · rw [if_pos c14] at H
                have c14b0 : decide (a0_0 < (l0_5.length : Int)) = true := decide_eq_true c14
                clear c14
                (first | rw [c14b0] | (simp only [i64_w, i32_w]; rw [c14b0]) | skip)
                have H' := Aside0.mk H
                clear H
                have hcz15_0 : w3.cell? ⟨gb153, 0, none⟩ = some (.int .i64 a0_0) := (blk_cell BK153.out 0).trans rfl
                have hcz15_1 : w3.cell? ⟨gb153, 1, none⟩ = some (.int .i64 a0_1) := (blk_cell BK153.out 1).trans rfl
                have hcz15_2 : w3.cell? ⟨gb153, 2, none⟩ = some (.int .i64 a0_2) := (blk_cell BK153.out 2).trans rfl
                have hcz15_3 : w3.cell? ⟨gb153, 3, none⟩ = some (.int .i64 a0_3) := (blk_cell BK153.out 3).trans rfl
                have hcz15_4 : w3.cell? ⟨gb153, 4, none⟩ = some (.int .i64 a0_4) := (blk_cell BK153.out 4).trans rfl
                have hcz15_5 : w3.cell? ⟨gb153, 5, none⟩ = some (.slice A0_5 l0_5.length c0_5) := (blk_cell BK153.out 5).trans rfl
                have hcz15_6 : w3.cell? ⟨gb153, 6, none⟩ = some (.slice A0_6 l0_6.length c0_6) := (blk_cell BK153.out 6).trans rfl
                have hfz15_0 := blk_frozen BK153.out 0
                have hfz15_1 := blk_frozen BK153.out 1
                have hfz15_2 := blk_frozen BK153.out 2
                have hfz15_3 := blk_frozen BK153.out 3
                have hfz15_4 := blk_frozen BK153.out 4
                have hfz15_5 := blk_frozen BK153.out 5
                have hfz15_6 := blk_frozen BK153.out 6
                go_wp2_with (first | (go_at_call 28; (with_reducible refine (selfstabref01_In.calls a0_0 1 8 true _ A4.out).mono ?_); rintro e w' ⟨rfl, ⟨nd, rfl⟩⟩; (try first | exact ⟨rfl, _, World.drewN_drewN _ _ _⟩ | exact ⟨rfl, _, Eq.trans (World.drewN_drewN _ _ _) (congrArg (World.drewN _) (Nat.add_assoc _ _ _))⟩)) | (go_at_call 28; (with_reducible refine (selfstabref01_In.calls a0_1 (wrap64 ((wrap64 (2 * a0_0)) + 2)) 64 true _ A6.out).mono ?_); rintro e w' ⟨rfl, ⟨nd, rfl⟩⟩; (try first | exact ⟨rfl, _, World.drewN_drewN _ _ _⟩ | exact ⟨rfl, _, Eq.trans (World.drewN_drewN _ _ _) (congrArg (World.drewN _) (Nat.add_assoc _ _ _))⟩)) | (go_at_call 28; (with_reducible refine (selfstabref01_In.calls a0_2 0 (wrap64 (a0_1 - 1)) true _ A8.out).mono ?_); rintro e w' ⟨rfl, ⟨nd, rfl⟩⟩; (try first | exact ⟨rfl, _, World.drewN_drewN _ _ _⟩ | exact ⟨rfl, _, Eq.trans (World.drewN_drewN _ _ _) (congrArg (World.drewN _) (Nat.add_assoc _ _ _))⟩)) | (go_at_call 28; (with_reducible refine (selfstabref01_In.calls a0_4 0 (wrap64 (a0_1 - 1)) true _ A10.out).mono ?_); rintro e w' ⟨rfl, ⟨nd, rfl⟩⟩; (try first | exact ⟨rfl, _, World.drewN_drewN _ _ _⟩ | exact ⟨rfl, _, Eq.trans (World.drewN_drewN _ _ _) (congrArg (World.drewN _) (Nat.add_assoc _ _ _))⟩)) | (go_at_call 28; (with_reducible refine (selfstabref01_In.calls a0_3 0 1073741824 true _ A12.out).mono ?_); rintro e w' ⟨rfl, ⟨nd, rfl⟩⟩; (try first | exact ⟨rfl, _, World.drewN_drewN _ _ _⟩ | exact ⟨rfl, _, Eq.trans (World.drewN_drewN _ _ _) (congrArg (World.drewN _) (Nat.add_assoc _ _ _))⟩)))
                repeat (go_quiet (first | (go_at_call 28; (with_reducible refine (selfstabref01_In.calls a0_0 1 8 true _ A4.out).mono ?_); rintro e w' ⟨rfl, ⟨nd, rfl⟩⟩; (try first | exact ⟨rfl, _, World.drewN_drewN _ _ _⟩ | exact ⟨rfl, _, Eq.trans (World.drewN_drewN _ _ _) (congrArg (World.drewN _) (Nat.add_assoc _ _ _))⟩)) | (go_at_call 28; (with_reducible refine (selfstabref01_In.calls a0_1 (wrap64 ((wrap64 (2 * a0_0)) + 2)) 64 true _ A6.out).mono ?_); rintro e w' ⟨rfl, ⟨nd, rfl⟩⟩; (try first | exact ⟨rfl, _, World.drewN_drewN _ _ _⟩ | exact ⟨rfl, _, Eq.trans (World.drewN_drewN _ _ _) (congrArg (World.drewN _) (Nat.add_assoc _ _ _))⟩)) | (go_at_call 28; (with_reducible refine (selfstabref01_In.calls a0_2 0 (wrap64 (a0_1 - 1)) true _ A8.out).mono ?_); rintro e w' ⟨rfl, ⟨nd, rfl⟩⟩; (try first | exact ⟨rfl, _, World.drewN_drewN _ _ _⟩ | exact ⟨rfl, _, Eq.trans (World.drewN_drewN _ _ _) (congrArg (World.drewN _) (Nat.add_assoc _ _ _))⟩)) | (go_at_call 28; (with_reducible refine (selfstabref01_In.calls a0_4 0 (wrap64 (a0_1 - 1)) true _ A10.out).mono ?_); rintro e w' ⟨rfl, ⟨nd, rfl⟩⟩; (try first | exact ⟨rfl, _, World.drewN_drewN _ _ _⟩ | exact ⟨rfl, _, Eq.trans (World.drewN_drewN _ _ _) (congrArg (World.drewN _) (Nat.add_assoc _ _ _))⟩)) | (go_at_call 28; (with_reducible refine (selfstabref01_In.calls a0_3 0 1073741824 true _ A12.out).mono ?_); rintro e w' ⟨rfl, ⟨nd, rfl⟩⟩; (try first | exact ⟨rfl, _, World.drewN_drewN _ _ _⟩ | exact ⟨rfl, _, Eq.trans (World.drewN_drewN _ _ _) (congrArg (World.drewN _) (Nat.add_assoc _ _ _))⟩))); try go_wp2_with (first | (go_at_call 28; (with_reducible refine (selfstabref01_In.calls a0_0 1 8 true _ A4.out).mono ?_); rintro e w' ⟨rfl, ⟨nd, rfl⟩⟩; (try first | exact ⟨rfl, _, World.drewN_drewN _ _ _⟩ | exact ⟨rfl, _, Eq.trans (World.drewN_drewN _ _ _) (congrArg (World.drewN _) (Nat.add_assoc _ _ _))⟩)) | (go_at_call 28; (with_reducible refine (selfstabref01_In.calls a0_1 (wrap64 ((wrap64 (2 * a0_0)) + 2)) 64 true _ A6.out).mono ?_); rintro e w' ⟨rfl, ⟨nd, rfl⟩⟩; (try first | exact ⟨rfl, _, World.drewN_drewN _ _ _⟩ | exact ⟨rfl, _, Eq.trans (World.drewN_drewN _ _ _) (congrArg (World.drewN _) (Nat.add_assoc _ _ _))⟩)) | (go_at_call 28; (with_reducible refine (selfstabref01_In.calls a0_2 0 (wrap64 (a0_1 - 1)) true _ A8.out).mono ?_); rintro e w' ⟨rfl, ⟨nd, rfl⟩⟩; (try first | exact ⟨rfl, _, World.drewN_drewN _ _ _⟩ | exact ⟨rfl, _, Eq.trans (World.drewN_drewN _ _ _) (congrArg (World.drewN _) (Nat.add_assoc _ _ _))⟩)) | (go_at_call 28; (with_reducible refine (selfstabref01_In.calls a0_4 0 (wrap64 (a0_1 - 1)) true _ A10.out).mono ?_); rintro e w' ⟨rfl, ⟨nd, rfl⟩⟩; (try first | exact ⟨rfl, _, World.drewN_drewN _ _ _⟩ | exact ⟨rfl, _, Eq.trans (World.drewN_drewN _ _ _) (congrArg (World.drewN _) (Nat.add_assoc _ _ _))⟩)) | (go_at_call 28; (with_reducible refine (selfstabref01_In.calls a0_3 0 1073741824 true _ A12.out).mono ?_); rintro e w' ⟨rfl, ⟨nd, rfl⟩⟩; (try first | exact ⟨rfl, _, World.drewN_drewN _ _ _⟩ | exact ⟨rfl, _, Eq.trans (World.drewN_drewN _ _ _) (congrArg (World.drewN _) (Nat.add_assoc _ _ _))⟩))))
                go_meet
                case rel => exact ⟨_, (true), (by first | rfl | (simp; done) | (simp [*]; done)), H', ⟨by first | omega | exact Nat.le_refl _⟩, ⟨by (with_reducible repeat (first | refine blk_drewN ?_ _ | refine blk_drew ?_ | refine blk_alloc ?_ _)); exact BK153.out⟩, ⟨by repeat (first | (with_reducible first | exact HB.out | apply below_alloc | apply pw_below_drewN | apply below_drew1 | refine below_set ?_ GE153.out) | exact HB.out)⟩⟩
              · rw [if_neg c14] at H
                have c14b0 : decide (a0_0 < (l0_5.length : Int)) = false := decide_eq_false c14
                clear c14
                (first | rw [c14b0] | (simp only [i64_w, i32_w]; rw [c14b0]) | skip)
                have H' := Aside0.mk H
                clear H
                have hcz16_0 : w3.cell? ⟨gb153, 0, none⟩ = some (.int .i64 a0_0) := (blk_cell BK153.out 0).trans rfl
                have hcz16_1 : w3.cell? ⟨gb153, 1, none⟩ = some (.int .i64 a0_1) := (blk_cell BK153.out 1).trans rfl
                have hcz16_2 : w3.cell? ⟨gb153, 2, none⟩ = some (.int .i64 a0_2) := (blk_cell BK153.out 2).trans rfl
                have hcz16_3 : w3.cell? ⟨gb153, 3, none⟩ = some (.int .i64 a0_3) := (blk_cell BK153.out 3).trans rfl
                have hcz16_4 : w3.cell? ⟨gb153, 4, none⟩ = some (.int .i64 a0_4) := (blk_cell BK153.out 4).trans rfl
                have hcz16_5 : w3.cell? ⟨gb153, 5, none⟩ = some (.slice A0_5 l0_5.length c0_5) := (blk_cell BK153.out 5).trans rfl
                have hcz16_6 : w3.cell? ⟨gb153, 6, none⟩ = some (.slice A0_6 l0_6.length c0_6) := (blk_cell BK153.out 6).trans rfl
                have hfz16_0 := blk_frozen BK153.out 0
                have hfz16_1 := blk_frozen BK153.out 1
                have hfz16_2 := blk_frozen BK153.out 2
                have hfz16_3 := blk_frozen BK153.out 3
                have hfz16_4 := blk_frozen BK153.out 4
                have hfz16_5 := blk_frozen BK153.out 5
                have hfz16_6 := blk_frozen BK153.out 6
                go_wp2_with (first | (go_at_call 28; (with_reducible refine (selfstabref01_In.calls a0_0 1 8 true _ A4.out).mono ?_); rintro e w' ⟨rfl, ⟨nd, rfl⟩⟩; (try first | exact ⟨rfl, _, World.drewN_drewN _ _ _⟩ | exact ⟨rfl, _, Eq.trans (World.drewN_drewN _ _ _) (congrArg (World.drewN _) (Nat.add_assoc _ _ _))⟩)) | (go_at_call 28; (with_reducible refine (selfstabref01_In.calls a0_1 (wrap64 ((wrap64 (2 * a0_0)) + 2)) 64 true _ A6.out).mono ?_); rintro e w' ⟨rfl, ⟨nd, rfl⟩⟩; (try first | exact ⟨rfl, _, World.drewN_drewN _ _ _⟩ | exact ⟨rfl, _, Eq.trans (World.drewN_drewN _ _ _) (congrArg (World.drewN _) (Nat.add_assoc _ _ _))⟩)) | (go_at_call 28; (with_reducible refine (selfstabref01_In.calls a0_2 0 (wrap64 (a0_1 - 1)) true _ A8.out).mono ?_); rintro e w' ⟨rfl, ⟨nd, rfl⟩⟩; (try first | exact ⟨rfl, _, World.drewN_drewN _ _ _⟩ | exact ⟨rfl, _, Eq.trans (World.drewN_drewN _ _ _) (congrArg (World.drewN _) (Nat.add_assoc _ _ _))⟩)) | (go_at_call 28; (with_reducible refine (selfstabref01_In.calls a0_4 0 (wrap64 (a0_1 - 1)) true _ A10.out).mono ?_); rintro e w' ⟨rfl, ⟨nd, rfl⟩⟩; (try first | exact ⟨rfl, _, World.drewN_drewN _ _ _⟩ | exact ⟨rfl, _, Eq.trans (World.drewN_drewN _ _ _) (congrArg (World.drewN _) (Nat.add_assoc _ _ _))⟩)) | (go_at_call 28; (with_reducible refine (selfstabref01_In.calls a0_3 0 1073741824 true _ A12.out).mono ?_); rintro e w' ⟨rfl, ⟨nd, rfl⟩⟩; (try first | exact ⟨rfl, _, World.drewN_drewN _ _ _⟩ | exact ⟨rfl, _, Eq.trans (World.drewN_drewN _ _ _) (congrArg (World.drewN _) (Nat.add_assoc _ _ _))⟩)))
                repeat (go_quiet (first | (go_at_call 28; (with_reducible refine (selfstabref01_In.calls a0_0 1 8 true _ A4.out).mono ?_); rintro e w' ⟨rfl, ⟨nd, rfl⟩⟩; (try first | exact ⟨rfl, _, World.drewN_drewN _ _ _⟩ | exact ⟨rfl, _, Eq.trans (World.drewN_drewN _ _ _) (congrArg (World.drewN _) (Nat.add_assoc _ _ _))⟩)) | (go_at_call 28; (with_reducible refine (selfstabref01_In.calls a0_1 (wrap64 ((wrap64 (2 * a0_0)) + 2)) 64 true _ A6.out).mono ?_); rintro e w' ⟨rfl, ⟨nd, rfl⟩⟩; (try first | exact ⟨rfl, _, World.drewN_drewN _ _ _⟩ | exact ⟨rfl, _, Eq.trans (World.drewN_drewN _ _ _) (congrArg (World.drewN _) (Nat.add_assoc _ _ _))⟩)) | (go_at_call 28; (with_reducible refine (selfstabref01_In.calls a0_2 0 (wrap64 (a0_1 - 1)) true _ A8.out).mono ?_); rintro e w' ⟨rfl, ⟨nd, rfl⟩⟩; (try first | exact ⟨rfl, _, World.drewN_drewN _ _ _⟩ | exact ⟨rfl, _, Eq.trans (World.drewN_drewN _ _ _) (congrArg (World.drewN _) (Nat.add_assoc _ _ _))⟩)) | (go_at_call 28; (with_reducible refine (selfstabref01_In.calls a0_4 0 (wrap64 (a0_1 - 1)) true _ A10.out).mono ?_); rintro e w' ⟨rfl, ⟨nd, rfl⟩⟩; (try first | exact ⟨rfl, _, World.drewN_drewN _ _ _⟩ | exact ⟨rfl, _, Eq.trans (World.drewN_drewN _ _ _) (congrArg (World.drewN _) (Nat.add_assoc _ _ _))⟩)) | (go_at_call 28; (with_reducible refine (selfstabref01_In.calls a0_3 0 1073741824 true _ A12.out).mono ?_); rintro e w' ⟨rfl, ⟨nd, rfl⟩⟩; (try first | exact ⟨rfl, _, World.drewN_drewN _ _ _⟩ | exact ⟨rfl, _, Eq.trans (World.drewN_drewN _ _ _) (congrArg (World.drewN _) (Nat.add_assoc _ _ _))⟩))); try go_wp2_with (first | (go_at_call 28; (with_reducible refine (selfstabref01_In.calls a0_0 1 8 true _ A4.out).mono ?_); rintro e w' ⟨rfl, ⟨nd, rfl⟩⟩; (try first | exact ⟨rfl, _, World.drewN_drewN _ _ _⟩ | exact ⟨rfl, _, Eq.trans (World.drewN_drewN _ _ _) (congrArg (World.drewN _) (Nat.add_assoc _ _ _))⟩)) | (go_at_call 28; (with_reducible refine (selfstabref01_In.calls a0_1 (wrap64 ((wrap64 (2 * a0_0)) + 2)) 64 true _ A6.out).mono ?_); rintro e w' ⟨rfl, ⟨nd, rfl⟩⟩; (try first | exact ⟨rfl, _, World.drewN_drewN _ _ _⟩ | exact ⟨rfl, _, Eq.trans (World.drewN_drewN _ _ _) (congrArg (World.drewN _) (Nat.add_assoc _ _ _))⟩)) | (go_at_call 28; (with_reducible refine (selfstabref01_In.calls a0_2 0 (wrap64 (a0_1 - 1)) true _ A8.out).mono ?_); rintro e w' ⟨rfl, ⟨nd, rfl⟩⟩; (try first | exact ⟨rfl, _, World.drewN_drewN _ _ _⟩ | exact ⟨rfl, _, Eq.trans (World.drewN_drewN _ _ _) (congrArg (World.drewN _) (Nat.add_assoc _ _ _))⟩)) | (go_at_call 28; (with_reducible refine (selfstabref01_In.calls a0_4 0 (wrap64 (a0_1 - 1)) true _ A10.out).mono ?_); rintro e w' ⟨rfl, ⟨nd, rfl⟩⟩; (try first | exact ⟨rfl, _, World.drewN_drewN _ _ _⟩ | exact ⟨rfl, _, Eq.trans (World.drewN_drewN _ _ _) (congrArg (World.drewN _) (Nat.add_assoc _ _ _))⟩)) | (go_at_call 28; (with_reducible refine (selfstabref01_In.calls a0_3 0 1073741824 true _ A12.out).mono ?_); rintro e w' ⟨rfl, ⟨nd, rfl⟩⟩; (try first | exact ⟨rfl, _, World.drewN_drewN _ _ _⟩ | exact ⟨rfl, _, Eq.trans (World.drewN_drewN _ _ _) (congrArg (World.drewN _) (Nat.add_assoc _ _ _))⟩))))
                go_meet
                case rel => exact ⟨_, (decide ((l0_6.length : Int) > a0_0)), (by first | rfl | (simp; done) | (simp [*]; done)), H', ⟨by first | omega | exact Nat.le_refl _⟩, ⟨by (with_reducible repeat (first | refine blk_drewN ?_ _ | refine blk_drew ?_ | refine blk_alloc ?_ _)); exact BK153.out⟩, ⟨by repeat (first | (with_reducible first | exact HB.out | apply below_alloc | apply pw_below_drewN | apply below_drew1 | refine below_set ?_ GE153.out) | exact HB.out)⟩⟩
            · replace c13 := Bool.eq_false_iff.mpr c13
              subst c13
              have H1 : (selfstabref42_Valid.j0 k true a0_0 a0_1 a0_2 a0_3 a0_4 l0_5 l0_6) = some r := by rw [if_neg (show ¬ (false = true) by decide)] at H; exact H
              clear H
              have H := H1
              clear H1
              have H' := Aside0.mk H
              clear H
              have hcz17_0 : w3.cell? ⟨gb153, 0, none⟩ = some (.int .i64 a0_0) := (blk_cell BK153.out 0).trans rfl
              have hcz17_1 : w3.cell? ⟨gb153, 1, none⟩ = some (.int .i64 a0_1) := (blk_cell BK153.out 1).trans rfl
              have hcz17_2 : w3.cell? ⟨gb153, 2, none⟩ = some (.int .i64 a0_2) := (blk_cell BK153.out 2).trans rfl
              have hcz17_3 : w3.cell? ⟨gb153, 3, none⟩ = some (.int .i64 a0_3) := (blk_cell BK153.out 3).trans rfl
              have hcz17_4 : w3.cell? ⟨gb153, 4, none⟩ = some (.int .i64 a0_4) := (blk_cell BK153.out 4).trans rfl
              have hcz17_5 : w3.cell? ⟨gb153, 5, none⟩ = some (.slice A0_5 l0_5.length c0_5) := (blk_cell BK153.out 5).trans rfl
              have hcz17_6 : w3.cell? ⟨gb153, 6, none⟩ = some (.slice A0_6 l0_6.length c0_6) := (blk_cell BK153.out 6).trans rfl
              have hfz17_0 := blk_frozen BK153.out 0
              have hfz17_1 := blk_frozen BK153.out 1
              have hfz17_2 := blk_frozen BK153.out 2
              have hfz17_3 := blk_frozen BK153.out 3
              have hfz17_4 := blk_frozen BK153.out 4
              have hfz17_5 := blk_frozen BK153.out 5
              have hfz17_6 := blk_frozen BK153.out 6
              go_wp2_with (first | (go_at_call 28; (with_reducible refine (selfstabref01_In.calls a0_0 1 8 true _ A4.out).mono ?_); rintro e w' ⟨rfl, ⟨nd, rfl⟩⟩; (try first | exact ⟨rfl, _, World.drewN_drewN _ _ _⟩ | exact ⟨rfl, _, Eq.trans (World.drewN_drewN _ _ _) (congrArg (World.drewN _) (Nat.add_assoc _ _ _))⟩)) | (go_at_call 28; (with_reducible refine (selfstabref01_In.calls a0_1 (wrap64 ((wrap64 (2 * a0_0)) + 2)) 64 true _ A6.out).mono ?_); rintro e w' ⟨rfl, ⟨nd, rfl⟩⟩; (try first | exact ⟨rfl, _, World.drewN_drewN _ _ _⟩ | exact ⟨rfl, _, Eq.trans (World.drewN_drewN _ _ _) (congrArg (World.drewN _) (Nat.add_assoc _ _ _))⟩)) | (go_at_call 28; (with_reducible refine (selfstabref01_In.calls a0_2 0 (wrap64 (a0_1 - 1)) true _ A8.out).mono ?_); rintro e w' ⟨rfl, ⟨nd, rfl⟩⟩; (try first | exact ⟨rfl, _, World.drewN_drewN _ _ _⟩ | exact ⟨rfl, _, Eq.trans (World.drewN_drewN _ _ _) (congrArg (World.drewN _) (Nat.add_assoc _ _ _))⟩)) | (go_at_call 28; (with_reducible refine (selfstabref01_In.calls a0_4 0 (wrap64 (a0_1 - 1)) true _ A10.out).mono ?_); rintro e w' ⟨rfl, ⟨nd, rfl⟩⟩; (try first | exact ⟨rfl, _, World.drewN_drewN _ _ _⟩ | exact ⟨rfl, _, Eq.trans (World.drewN_drewN _ _ _) (congrArg (World.drewN _) (Nat.add_assoc _ _ _))⟩)) | (go_at_call 28; (with_reducible refine (selfstabref01_In.calls a0_3 0 1073741824 false _ A12.out).mono ?_); rintro e w' ⟨rfl, ⟨nd, rfl⟩⟩; (try first | exact ⟨rfl, _, World.drewN_drewN _ _ _⟩ | exact ⟨rfl, _, Eq.trans (World.drewN_drewN _ _ _) (congrArg (World.drewN _) (Nat.add_assoc _ _ _))⟩)))
              repeat (go_quiet (first | (go_at_call 28; (with_reducible refine (selfstabref01_In.calls a0_0 1 8 true _ A4.out).mono ?_); rintro e w' ⟨rfl, ⟨nd, rfl⟩⟩; (try first | exact ⟨rfl, _, World.drewN_drewN _ _ _⟩ | exact ⟨rfl, _, Eq.trans (World.drewN_drewN _ _ _) (congrArg (World.drewN _) (Nat.add_assoc _ _ _))⟩)) | (go_at_call 28; (with_reducible refine (selfstabref01_In.calls a0_1 (wrap64 ((wrap64 (2 * a0_0)) + 2)) 64 true _ A6.out).mono ?_); rintro e w' ⟨rfl, ⟨nd, rfl⟩⟩; (try first | exact ⟨rfl, _, World.drewN_drewN _ _ _⟩ | exact ⟨rfl, _, Eq.trans (World.drewN_drewN _ _ _) (congrArg (World.drewN _) (Nat.add_assoc _ _ _))⟩)) | (go_at_call 28; (with_reducible refine (selfstabref01_In.calls a0_2 0 (wrap64 (a0_1 - 1)) true _ A8.out).mono ?_); rintro e w' ⟨rfl, ⟨nd, rfl⟩⟩; (try first | exact ⟨rfl, _, World.drewN_drewN _ _ _⟩ | exact ⟨rfl, _, Eq.trans (World.drewN_drewN _ _ _) (congrArg (World.drewN _) (Nat.add_assoc _ _ _))⟩)) | (go_at_call 28; (with_reducible refine (selfstabref01_In.calls a0_4 0 (wrap64 (a0_1 - 1)) true _ A10.out).mono ?_); rintro e w' ⟨rfl, ⟨nd, rfl⟩⟩; (try first | exact ⟨rfl, _, World.drewN_drewN _ _ _⟩ | exact ⟨rfl, _, Eq.trans (World.drewN_drewN _ _ _) (congrArg (World.drewN _) (Nat.add_assoc _ _ _))⟩)) | (go_at_call 28; (with_reducible refine (selfstabref01_In.calls a0_3 0 1073741824 false _ A12.out).mono ?_); rintro e w' ⟨rfl, ⟨nd, rfl⟩⟩; (try first | exact ⟨rfl, _, World.drewN_drewN _ _ _⟩ | exact ⟨rfl, _, Eq.trans (World.drewN_drewN _ _ _) (congrArg (World.drewN _) (Nat.add_assoc _ _ _))⟩))); try go_wp2_with (first | (go_at_call 28; (with_reducible refine (selfstabref01_In.calls a0_0 1 8 true _ A4.out).mono ?_); rintro e w' ⟨rfl, ⟨nd, rfl⟩⟩; (try first | exact ⟨rfl, _, World.drewN_drewN _ _ _⟩ | exact ⟨rfl, _, Eq.trans (World.drewN_drewN _ _ _) (congrArg (World.drewN _) (Nat.add_assoc _ _ _))⟩)) | (go_at_call 28; (with_reducible refine (selfstabref01_In.calls a0_1 (wrap64 ((wrap64 (2 * a0_0)) + 2)) 64 true _ A6.out).mono ?_); rintro e w' ⟨rfl, ⟨nd, rfl⟩⟩; (try first | exact ⟨rfl, _, World.drewN_drewN _ _ _⟩ | exact ⟨rfl, _, Eq.trans (World.drewN_drewN _ _ _) (congrArg (World.drewN _) (Nat.add_assoc _ _ _))⟩)) | (go_at_call 28; (with_reducible refine (selfstabref01_In.calls a0_2 0 (wrap64 (a0_1 - 1)) true _ A8.out).mono ?_); rintro e w' ⟨rfl, ⟨nd, rfl⟩⟩; (try first | exact ⟨rfl, _, World.drewN_drewN _ _ _⟩ | exact ⟨rfl, _, Eq.trans (World.drewN_drewN _ _ _) (congrArg (World.drewN _) (Nat.add_assoc _ _ _))⟩)) | (go_at_call 28; (with_reducible refine (selfstabref01_In.calls a0_4 0 (wrap64 (a0_1 - 1)) true _ A10.out).mono ?_); rintro e w' ⟨rfl, ⟨nd, rfl⟩⟩; (try first | exact ⟨rfl, _, World.drewN_drewN _ _ _⟩ | exact ⟨rfl, _, Eq.trans (World.drewN_drewN _ _ _) (congrArg (World.drewN _) (Nat.add_assoc _ _ _))⟩)) | (go_at_call 28; (with_reducible refine (selfstabref01_In.calls a0_3 0 1073741824 false _ A12.out).mono ?_); rintro e w' ⟨rfl, ⟨nd, rfl⟩⟩; (try first | exact ⟨rfl, _, World.drewN_drewN _ _ _⟩ | exact ⟨rfl, _, Eq.trans (World.drewN_drewN _ _ _) (congrArg (World.drewN _) (Nat.add_assoc _ _ _))⟩))))
              go_meet
              case rel => exact ⟨_, (true), (by first | rfl | (simp; done) | (simp [*]; done)), H', ⟨by first | omega | exact Nat.le_refl _⟩, ⟨by (with_reducible repeat (first | refine blk_drewN ?_ _ | refine blk_drew ?_ | refine blk_alloc ?_ _)); exact BK153.out⟩, ⟨by repeat (first | (with_reducible first | exact HB.out | apply below_alloc | apply pw_below_drewN | apply below_drew1 | refine below_set ?_ GE153.out) | exact HB.out)⟩⟩
          · replace c11 := Bool.eq_false_iff.mpr c11
            subst c11
            have H1 : (selfstabref42_Valid.j0 k true a0_0 a0_1 a0_2 a0_3 a0_4 l0_5 l0_6) = some r := by rw [if_neg (show ¬ (false = true) by decide)] at H; exact H
            clear H
            have H := H1
            clear H1
            have H' := Aside0.mk H
            clear H
            have hcz18_0 : w3.cell? ⟨gb153, 0, none⟩ = some (.int .i64 a0_0) := (blk_cell BK153.out 0).trans rfl
            have hcz18_1 : w3.cell? ⟨gb153, 1, none⟩ = some (.int .i64 a0_1) := (blk_cell BK153.out 1).trans rfl
            have hcz18_2 : w3.cell? ⟨gb153, 2, none⟩ = some (.int .i64 a0_2) := (blk_cell BK153.out 2).trans rfl
            have hcz18_3 : w3.cell? ⟨gb153, 3, none⟩ = some (.int .i64 a0_3) := (blk_cell BK153.out 3).trans rfl
            have hcz18_4 : w3.cell? ⟨gb153, 4, none⟩ = some (.int .i64 a0_4) := (blk_cell BK153.out 4).trans rfl
            have hcz18_5 : w3.cell? ⟨gb153, 5, none⟩ = some (.slice A0_5 l0_5.length c0_5) := (blk_cell BK153.out 5).trans rfl
            have hcz18_6 : w3.cell? ⟨gb153, 6, none⟩ = some (.slice A0_6 l0_6.length c0_6) := (blk_cell BK153.out 6).trans rfl
            have hfz18_0 := blk_frozen BK153.out 0
            have hfz18_1 := blk_frozen BK153.out 1
            have hfz18_2 := blk_frozen BK153.out 2
            have hfz18_3 := blk_frozen BK153.out 3
            have hfz18_4 := blk_frozen BK153.out 4
            have hfz18_5 := blk_frozen BK153.out 5
            have hfz18_6 := blk_frozen BK153.out 6
            go_wp2_with (first | (go_at_call 28; (with_reducible refine (selfstabref01_In.calls a0_0 1 8 true _ A4.out).mono ?_); rintro e w' ⟨rfl, ⟨nd, rfl⟩⟩; (try first | exact ⟨rfl, _, World.drewN_drewN _ _ _⟩ | exact ⟨rfl, _, Eq.trans (World.drewN_drewN _ _ _) (congrArg (World.drewN _) (Nat.add_assoc _ _ _))⟩)) | (go_at_call 28; (with_reducible refine (selfstabref01_In.calls a0_1 (wrap64 ((wrap64 (2 * a0_0)) + 2)) 64 true _ A6.out).mono ?_); rintro e w' ⟨rfl, ⟨nd, rfl⟩⟩; (try first | exact ⟨rfl, _, World.drewN_drewN _ _ _⟩ | exact ⟨rfl, _, Eq.trans (World.drewN_drewN _ _ _) (congrArg (World.drewN _) (Nat.add_assoc _ _ _))⟩)) | (go_at_call 28; (with_reducible refine (selfstabref01_In.calls a0_2 0 (wrap64 (a0_1 - 1)) true _ A8.out).mono ?_); rintro e w' ⟨rfl, ⟨nd, rfl⟩⟩; (try first | exact ⟨rfl, _, World.drewN_drewN _ _ _⟩ | exact ⟨rfl, _, Eq.trans (World.drewN_drewN _ _ _) (congrArg (World.drewN _) (Nat.add_assoc _ _ _))⟩)) | (go_at_call 28; (with_reducible refine (selfstabref01_In.calls a0_4 0 (wrap64 (a0_1 - 1)) false _ A10.out).mono ?_); rintro e w' ⟨rfl, ⟨nd, rfl⟩⟩; (try first | exact ⟨rfl, _, World.drewN_drewN _ _ _⟩ | exact ⟨rfl, _, Eq.trans (World.drewN_drewN _ _ _) (congrArg (World.drewN _) (Nat.add_assoc _ _ _))⟩)))
            repeat (go_quiet (first | (go_at_call 28; (with_reducible refine (selfstabref01_In.calls a0_0 1 8 true _ A4.out).mono ?_); rintro e w' ⟨rfl, ⟨nd, rfl⟩⟩; (try first | exact ⟨rfl, _, World.drewN_drewN _ _ _⟩ | exact ⟨rfl, _, Eq.trans (World.drewN_drewN _ _ _) (congrArg (World.drewN _) (Nat.add_assoc _ _ _))⟩)) | (go_at_call 28; (with_reducible refine (selfstabref01_In.calls a0_1 (wrap64 ((wrap64 (2 * a0_0)) + 2)) 64 true _ A6.out).mono ?_); rintro e w' ⟨rfl, ⟨nd, rfl⟩⟩; (try first | exact ⟨rfl, _, World.drewN_drewN _ _ _⟩ | exact ⟨rfl, _, Eq.trans (World.drewN_drewN _ _ _) (congrArg (World.drewN _) (Nat.add_assoc _ _ _))⟩)) | (go_at_call 28; (with_reducible refine (selfstabref01_In.calls a0_2 0 (wrap64 (a0_1 - 1)) true _ A8.out).mono ?_); rintro e w' ⟨rfl, ⟨nd, rfl⟩⟩; (try first | exact ⟨rfl, _, World.drewN_drewN _ _ _⟩ | exact ⟨rfl, _, Eq.trans (World.drewN_drewN _ _ _) (congrArg (World.drewN _) (Nat.add_assoc _ _ _))⟩)) | (go_at_call 28; (with_reducible refine (selfstabref01_In.calls a0_4 0 (wrap64 (a0_1 - 1)) false _ A10.out).mono ?_); rintro e w' ⟨rfl, ⟨nd, rfl⟩⟩; (try first | exact ⟨rfl, _, World.drewN_drewN _ _ _⟩ | exact ⟨rfl, _, Eq.trans (World.drewN_drewN _ _ _) (congrArg (World.drewN _) (Nat.add_assoc _ _ _))⟩))); try go_wp2_with (first | (go_at_call 28; (with_reducible refine (selfstabref01_In.calls a0_0 1 8 true _ A4.out).mono ?_); rintro e w' ⟨rfl, ⟨nd, rfl⟩⟩; (try first | exact ⟨rfl, _, World.drewN_drewN _ _ _⟩ | exact ⟨rfl, _, Eq.trans (World.drewN_drewN _ _ _) (congrArg (World.drewN _) (Nat.add_assoc _ _ _))⟩)) | (go_at_call 28; (with_reducible refine (selfstabref01_In.calls a0_1 (wrap64 ((wrap64 (2 * a0_0)) + 2)) 64 true _ A6.out).mono ?_); rintro e w' ⟨rfl, ⟨nd, rfl⟩⟩; (try first | exact ⟨rfl, _, World.drewN_drewN _ _ _⟩ | exact ⟨rfl, _, Eq.trans (World.drewN_drewN _ _ _) (congrArg (World.drewN _) (Nat.add_assoc _ _ _))⟩)) | (go_at_call 28; (with_reducible refine (selfstabref01_In.calls a0_2 0 (wrap64 (a0_1 - 1)) true _ A8.out).mono ?_); rintro e w' ⟨rfl, ⟨nd, rfl⟩⟩; (try first | exact ⟨rfl, _, World.drewN_drewN _ _ _⟩ | exact ⟨rfl, _, Eq.trans (World.drewN_drewN _ _ _) (congrArg (World.drewN _) (Nat.add_assoc _ _ _))⟩)) | (go_at_call 28; (with_reducible refine (selfstabref01_In.calls a0_4 0 (wrap64 (a0_1 - 1)) false _ A10.out).mono ?_); rintro e w' ⟨rfl, ⟨nd, rfl⟩⟩; (try first | exact ⟨rfl, _, World.drewN_drewN _ _ _⟩ | exact ⟨rfl, _, Eq.trans (World.drewN_drewN _ _ _) (congrArg (World.drewN _) (Nat.add_assoc _ _ _))⟩))))
            go_meet
            case rel => exact ⟨_, (true), (by first | rfl | (simp; done) | (simp [*]; done)), H', ⟨by first | omega | exact Nat.le_refl _⟩, ⟨by (with_reducible repeat (first | refine blk_drewN ?_ _ | refine blk_drew ?_ | refine blk_alloc ?_ _)); exact BK153.out⟩, ⟨by repeat (first | (with_reducible first | exact HB.out | apply below_alloc | apply pw_below_drewN | apply below_drew1 | refine below_set ?_ GE153.out) | exact HB.out)⟩⟩
        · replace c9 := Bool.eq_false_iff.mpr c9
          subst c9
          have H1 : (selfstabref42_Valid.j0 k true a0_0 a0_1 a0_2 a0_3 a0_4 l0_5 l0_6) = some r := by rw [if_neg (show ¬ (false = true) by decide)] at H; exact H
          clear H
          have H := H1
          clear H1
          have H' := Aside0.mk H
          clear H
          have hcz19_0 : w3.cell? ⟨gb153, 0, none⟩ = some (.int .i64 a0_0) := (blk_cell BK153.out 0).trans rfl
          have hcz19_1 : w3.cell? ⟨gb153, 1, none⟩ = some (.int .i64 a0_1) := (blk_cell BK153.out 1).trans rfl
          have hcz19_2 : w3.cell? ⟨gb153, 2, none⟩ = some (.int .i64 a0_2) := (blk_cell BK153.out 2).trans rfl
          have hcz19_3 : w3.cell? ⟨gb153, 3, none⟩ = some (.int .i64 a0_3) := (blk_cell BK153.out 3).trans rfl
          have hcz19_4 : w3.cell? ⟨gb153, 4, none⟩ = some (.int .i64 a0_4) := (blk_cell BK153.out 4).trans rfl
          have hcz19_5 : w3.cell? ⟨gb153, 5, none⟩ = some (.slice A0_5 l0_5.length c0_5) := (blk_cell BK153.out 5).trans rfl
          have hcz19_6 : w3.cell? ⟨gb153, 6, none⟩ = some (.slice A0_6 l0_6.length c0_6) := (blk_cell BK153.out 6).trans rfl
          have hfz19_0 := blk_frozen BK153.out 0
          have hfz19_1 := blk_frozen BK153.out 1
          have hfz19_2 := blk_frozen BK153.out 2
          have hfz19_3 := blk_frozen BK153.out 3
          have hfz19_4 := blk_frozen BK153.out 4
          have hfz19_5 := blk_frozen BK153.out 5
          have hfz19_6 := blk_frozen BK153.out 6
          go_wp2_with (first | (go_at_call 28; (with_reducible refine (selfstabref01_In.calls a0_0 1 8 true _ A4.out).mono ?_); rintro e w' ⟨rfl, ⟨nd, rfl⟩⟩; (try first | exact ⟨rfl, _, World.drewN_drewN _ _ _⟩ | exact ⟨rfl, _, Eq.trans (World.drewN_drewN _ _ _) (congrArg (World.drewN _) (Nat.add_assoc _ _ _))⟩)) | (go_at_call 28; (with_reducible refine (selfstabref01_In.calls a0_1 (wrap64 ((wrap64 (2 * a0_0)) + 2)) 64 true _ A6.out).mono ?_); rintro e w' ⟨rfl, ⟨nd, rfl⟩⟩; (try first | exact ⟨rfl, _, World.drewN_drewN _ _ _⟩ | exact ⟨rfl, _, Eq.trans (World.drewN_drewN _ _ _) (congrArg (World.drewN _) (Nat.add_assoc _ _ _))⟩)) | (go_at_call 28; (with_reducible refine (selfstabref01_In.calls a0_2 0 (wrap64 (a0_1 - 1)) false _ A8.out).mono ?_); rintro e w' ⟨rfl, ⟨nd, rfl⟩⟩; (try first | exact ⟨rfl, _, World.drewN_drewN _ _ _⟩ | exact ⟨rfl, _, Eq.trans (World.drewN_drewN _ _ _) (congrArg (World.drewN _) (Nat.add_assoc _ _ _))⟩)))
          repeat (go_quiet (first | (go_at_call 28; (with_reducible refine (selfstabref01_In.calls a0_0 1 8 true _ A4.out).mono ?_); rintro e w' ⟨rfl, ⟨nd, rfl⟩⟩; (try first | exact ⟨rfl, _, World.drewN_drewN _ _ _⟩ | exact ⟨rfl, _, Eq.trans (World.drewN_drewN _ _ _) (congrArg (World.drewN _) (Nat.add_assoc _ _ _))⟩)) | (go_at_call 28; (with_reducible refine (selfstabref01_In.calls a0_1 (wrap64 ((wrap64 (2 * a0_0)) + 2)) 64 true _ A6.out).mono ?_); rintro e w' ⟨rfl, ⟨nd, rfl⟩⟩; (try first | exact ⟨rfl, _, World.drewN_drewN _ _ _⟩ | exact ⟨rfl, _, Eq.trans (World.drewN_drewN _ _ _) (congrArg (World.drewN _) (Nat.add_assoc _ _ _))⟩)) | (go_at_call 28; (with_reducible refine (selfstabref01_In.calls a0_2 0 (wrap64 (a0_1 - 1)) false _ A8.out).mono ?_); rintro e w' ⟨rfl, ⟨nd, rfl⟩⟩; (try first | exact ⟨rfl, _, World.drewN_drewN _ _ _⟩ | exact ⟨rfl, _, Eq.trans (World.drewN_drewN _ _ _) (congrArg (World.drewN _) (Nat.add_assoc _ _ _))⟩))); try go_wp2_with (first | (go_at_call 28; (with_reducible refine (selfstabref01_In.calls a0_0 1 8 true _ A4.out).mono ?_); rintro e w' ⟨rfl, ⟨nd, rfl⟩⟩; (try first | exact ⟨rfl, _, World.drewN_drewN _ _ _⟩ | exact ⟨rfl, _, Eq.trans (World.drewN_drewN _ _ _) (congrArg (World.drewN _) (Nat.add_assoc _ _ _))⟩)) | (go_at_call 28; (with_reducible refine (selfstabref01_In.calls a0_1 (wrap64 ((wrap64 (2 * a0_0)) + 2)) 64 true _ A6.out).mono ?_); rintro e w' ⟨rfl, ⟨nd, rfl⟩⟩; (try first | exact ⟨rfl, _, World.drewN_drewN _ _ _⟩ | exact ⟨rfl, _, Eq.trans (World.drewN_drewN _ _ _) (congrArg (World.drewN _) (Nat.add_assoc _ _ _))⟩)) | (go_at_call 28; (with_reducible refine (selfstabref01_In.calls a0_2 0 (wrap64 (a0_1 - 1)) false _ A8.out).mono ?_); rintro e w' ⟨rfl, ⟨nd, rfl⟩⟩; (try first | exact ⟨rfl, _, World.drewN_drewN _ _ _⟩ | exact ⟨rfl, _, Eq.trans (World.drewN_drewN _ _ _) (congrArg (World.drewN _) (Nat.add_assoc _ _ _))⟩))))
          go_meet
          case rel => exact ⟨_, (true), (by first | rfl | (simp; done) | (simp [*]; done)), H', ⟨by first | omega | exact Nat.le_refl _⟩, ⟨by (with_reducible repeat (first | refine blk_drewN ?_ _ | refine blk_drew ?_ | refine blk_alloc ?_ _)); exact BK153.out⟩, ⟨by repeat (first | (with_reducible first | exact HB.out | apply below_alloc | apply pw_below_drewN | apply below_drew1 | refine below_set ?_ GE153.out) | exact HB.out)⟩⟩
      · replace c7 := Bool.eq_false_iff.mpr c7
        subst c7
        have H1 : (selfstabref42_Valid.j0 k true a0_0 a0_1 a0_2 a0_3 a0_4 l0_5 l0_6) = some r := by rw [if_neg (show ¬ (false = true) by decide)] at H; exact H
        clear H
        have H := H1
        clear H1
        have H' := Aside0.mk H
        clear H
        have hcz20_0 : w3.cell? ⟨gb153, 0, none⟩ = some (.int .i64 a0_0) := (blk_cell BK153.out 0).trans rfl
        have hcz20_1 : w3.cell? ⟨gb153, 1, none⟩ = some (.int .i64 a0_1) := (blk_cell BK153.out 1).trans rfl
        have hcz20_2 : w3.cell? ⟨gb153, 2, none⟩ = some (.int .i64 a0_2) := (blk_cell BK153.out 2).trans rfl
        have hcz20_3 : w3.cell? ⟨gb153, 3, none⟩ = some (.int .i64 a0_3) := (blk_cell BK153.out 3).trans rfl
        have hcz20_4 : w3.cell? ⟨gb153, 4, none⟩ = some (.int .i64 a0_4) := (blk_cell BK153.out 4).trans rfl
        have hcz20_5 : w3.cell? ⟨gb153, 5, none⟩ = some (.slice A0_5 l0_5.length c0_5) := (blk_cell BK153.out 5).trans rfl
        have hcz20_6 : w3.cell? ⟨gb153, 6, none⟩ = some (.slice A0_6 l0_6.length c0_6) := (blk_cell BK153.out 6).trans rfl
        have hfz20_0 := blk_frozen BK153.out 0
        have hfz20_1 := blk_frozen BK153.out 1
        have hfz20_2 := blk_frozen BK153.out 2
        have hfz20_3 := blk_frozen BK153.out 3
        have hfz20_4 := blk_frozen BK153.out 4
        have hfz20_5 := blk_frozen BK153.out 5
        have hfz20_6 := blk_frozen BK153.out 6
        go_wp2_with (first | (go_at_call 28; (with_reducible refine (selfstabref01_In.calls a0_0 1 8 true _ A4.out).mono ?_); rintro e w' ⟨rfl, ⟨nd, rfl⟩⟩; (try first | exact ⟨rfl, _, World.drewN_drewN _ _ _⟩ | exact ⟨rfl, _, Eq.trans (World.drewN_drewN _ _ _) (congrArg (World.drewN _) (Nat.add_assoc _ _ _))⟩)) | (go_at_call 28; (with_reducible refine (selfstabref01_In.calls a0_1 (wrap64 ((wrap64 (2 * a0_0)) + 2)) 64 false _ A6.out).mono ?_); rintro e w' ⟨rfl, ⟨nd, rfl⟩⟩; (try first | exact ⟨rfl, _, World.drewN_drewN _ _ _⟩ | exact ⟨rfl, _, Eq.trans (World.drewN_drewN _ _ _) (congrArg (World.drewN _) (Nat.add_assoc _ _ _))⟩)))
        repeat (go_quiet (first | (go_at_call 28; (with_reducible refine (selfstabref01_In.calls a0_0 1 8 true _ A4.out).mono ?_); rintro e w' ⟨rfl, ⟨nd, rfl⟩⟩; (try first | exact ⟨rfl, _, World.drewN_drewN _ _ _⟩ | exact ⟨rfl, _, Eq.trans (World.drewN_drewN _ _ _) (congrArg (World.drewN _) (Nat.add_assoc _ _ _))⟩)) | (go_at_call 28; (with_reducible refine (selfstabref01_In.calls a0_1 (wrap64 ((wrap64 (2 * a0_0)) + 2)) 64 false _ A6.out).mono ?_); rintro e w' ⟨rfl, ⟨nd, rfl⟩⟩; (try first | exact ⟨rfl, _, World.drewN_drewN _ _ _⟩ | exact ⟨rfl, _, Eq.trans (World.drewN_drewN _ _ _) (congrArg (World.drewN _) (Nat.add_assoc _ _ _))⟩))); try go_wp2_with (first | (go_at_call 28; (with_reducible refine (selfstabref01_In.calls a0_0 1 8 true _ A4.out).mono ?_); rintro e w' ⟨rfl, ⟨nd, rfl⟩⟩; (try first | exact ⟨rfl, _, World.drewN_drewN _ _ _⟩ | exact ⟨rfl, _, Eq.trans (World.drewN_drewN _ _ _) (congrArg (World.drewN _) (Nat.add_assoc _ _ _))⟩)) | (go_at_call 28; (with_reducible refine (selfstabref01_In.calls a0_1 (wrap64 ((wrap64 (2 * a0_0)) + 2)) 64 false _ A6.out).mono ?_); rintro e w' ⟨rfl, ⟨nd, rfl⟩⟩; (try first | exact ⟨rfl, _, World.drewN_drewN _ _ _⟩ | exact ⟨rfl, _, Eq.trans (World.drewN_drewN _ _ _) (congrArg (World.drewN _) (Nat.add_assoc _ _ _))⟩))))
        go_meet
        case rel => exact ⟨_, (true), (by first | rfl | (simp; done) | (simp [*]; done)), H', ⟨by first | omega | exact Nat.le_refl _⟩, ⟨by (with_reducible repeat (first | refine blk_drewN ?_ _ | refine blk_drew ?_ | refine blk_alloc ?_ _)); exact BK153.out⟩, ⟨by repeat (first | (with_reducible first | exact HB.out | apply below_alloc | apply pw_below_drewN | apply below_drew1 | refine below_set ?_ GE153.out) | exact HB.out)⟩⟩
    · replace c5 := Bool.eq_false_iff.mpr c5
      subst c5
      have H1 : (selfstabref42_Valid.j0 k true a0_0 a0_1 a0_2 a0_3 a0_4 l0_5 l0_6) = some r := by rw [if_neg (show ¬ (false = true) by decide)] at H; exact H
      clear H
      have H := H1
      clear H1
      have H' := Aside0.mk H
      clear H
      have hcz21_0 : w3.cell? ⟨gb153, 0, none⟩ = some (.int .i64 a0_0) := (blk_cell BK153.out 0).trans rfl
      have hcz21_1 : w3.cell? ⟨gb153, 1, none⟩ = some (.int .i64 a0_1) := (blk_cell BK153.out 1).trans rfl
      have hcz21_2 : w3.cell? ⟨gb153, 2, none⟩ = some (.int .i64 a0_2) := (blk_cell BK153.out 2).trans rfl
      have hcz21_3 : w3.cell? ⟨gb153, 3, none⟩ = some (.int .i64 a0_3) := (blk_cell BK153.out 3).trans rfl
      have hcz21_4 : w3.cell? ⟨gb153, 4, none⟩ = some (.int .i64 a0_4) := (blk_cell BK153.out 4).trans rfl
      have hcz21_5 : w3.cell? ⟨gb153, 5, none⟩ = some (.slice A0_5 l0_5.length c0_5) := (blk_cell BK153.out 5).trans rfl
      have hcz21_6 : w3.cell? ⟨gb153, 6, none⟩ = some (.slice A0_6 l0_6.length c0_6) := (blk_cell BK153.out 6).trans rfl
      have hfz21_0 := blk_frozen BK153.out 0
      have hfz21_1 := blk_frozen BK153.out 1
      have hfz21_2 := blk_frozen BK153.out 2
      have hfz21_3 := blk_frozen BK153.out 3
      have hfz21_4 := blk_frozen BK153.out 4
      have hfz21_5 := blk_frozen BK153.out 5
      have hfz21_6 := blk_frozen BK153.out 6
      go_wp2_with (first | (go_at_call 28; (with_reducible refine (selfstabref01_In.calls a0_0 1 8 false _ A4.out).mono ?_); rintro e w' ⟨rfl, ⟨nd, rfl⟩⟩; (try first | exact ⟨rfl, _, World.drewN_drewN _ _ _⟩ | exact ⟨rfl, _, Eq.trans (World.drewN_drewN _ _ _) (congrArg (World.drewN _) (Nat.add_assoc _ _ _))⟩)))
      repeat (go_quiet (first | (go_at_call 28; (with_reducible refine (selfstabref01_In.calls a0_0 1 8 false _ A4.out).mono ?_); rintro e w' ⟨rfl, ⟨nd, rfl⟩⟩; (try first | exact ⟨rfl, _, World.drewN_drewN _ _ _⟩ | exact ⟨rfl, _, Eq.trans (World.drewN_drewN _ _ _) (congrArg (World.drewN _) (Nat.add_assoc _ _ _))⟩))); try go_wp2_with (first | (go_at_call 28; (with_reducible refine (selfstabref01_In.calls a0_0 1 8 false _ A4.out).mono ?_); rintro e w' ⟨rfl, ⟨nd, rfl⟩⟩; (try first | exact ⟨rfl, _, World.drewN_drewN _ _ _⟩ | exact ⟨rfl, _, Eq.trans (World.drewN_drewN _ _ _) (congrArg (World.drewN _) (Nat.add_assoc _ _ _))⟩))))
      go_meet
      case rel => exact ⟨_, (true), (by first | rfl | (simp; done) | (simp [*]; done)), H', ⟨by first | omega | exact Nat.le_refl _⟩, ⟨by (with_reducible repeat (first | refine blk_drewN ?_ _ | refine blk_drew ?_ | refine blk_alloc ?_ _)); exact BK153.out⟩, ⟨by repeat (first | (with_reducible first | exact HB.out | apply below_alloc | apply pw_below_drewN | apply below_drew1 | refine below_set ?_ GE153.out) | exact HB.out)⟩⟩
  case rest =>
    clear HC2
    try clear c1
    try clear c2
    try clear p2
    try clear c5
    try clear p6
    try clear c7
    try clear c9
    try clear c11
    try clear c13
    try clear c14
    try clear c14b0
    try clear c20
    try clear hcz15_0
    try clear hcz15_1
    try clear hcz15_2
    try clear hcz15_3
    try clear hcz15_4
    try clear hcz15_5
    try clear hcz15_6
    try clear hcz16_0
    try clear hcz16_1
    try clear hcz16_2
    try clear hcz16_3
    try clear hcz16_4
    try clear hcz16_5
    try clear hcz16_6
    try clear hcz17_0
    try clear hcz17_1
    try clear hcz17_2
    try clear hcz17_3
    try clear hcz17_4
    try clear hcz17_5
    try clear hcz17_6
    try clear hcz18_0
    try clear hcz18_1
    try clear hcz18_2
    try clear hcz18_3
    try clear hcz18_4
    try clear hcz18_5
    try clear hcz18_6
    try clear hcz19_0
    try clear hcz19_1
    try clear hcz19_2
    try clear hcz19_3
    try clear hcz19_4
    try clear hcz19_5
    try clear hcz19_6
    try clear hcz20_0
    try clear hcz20_1
    try clear hcz20_2
    try clear hcz20_3
    try clear hcz20_4
    try clear hcz20_5
    try clear hcz20_6
    try clear hcz21_0
    try clear hcz21_1
    try clear hcz21_2
    try clear hcz21_3
    try clear hcz21_4
    try clear hcz21_5
    try clear hcz21_6
    try clear hfz15_0
    try clear hfz15_1
    try clear hfz15_2
    try clear hfz15_3
    try clear hfz15_4
    try clear hfz15_5
    try clear hfz15_6
    try clear hfz16_0
    try clear hfz16_1
    try clear hfz16_2
    try clear hfz16_3
    try clear hfz16_4
    try clear hfz16_5
    try clear hfz16_6
    try clear hfz17_0
    try clear hfz17_1
    try clear hfz17_2
    try clear hfz17_3
    try clear hfz17_4
    try clear hfz17_5
    try clear hfz17_6
    try clear hfz18_0
    try clear hfz18_1
    try clear hfz18_2
    try clear hfz18_3
    try clear hfz18_4
    try clear hfz18_5
    try clear hfz18_6
    try clear hfz19_0
    try clear hfz19_1
    try clear hfz19_2
    try clear hfz19_3
    try clear hfz19_4
    try clear hfz19_5
    try clear hfz19_6
    try clear hfz20_0
    try clear hfz20_1
    try clear hfz20_2
    try clear hfz20_3
    try clear hfz20_4
    try clear hfz20_5
    try clear hfz20_6
    try clear hfz21_0
    try clear hfz21_1
    try clear hfz21_2
    try clear hfz21_3
    try clear hfz21_4
    try clear hfz21_5
    try clear hfz21_6
    obtain ⟨kq, x58_1, rfl, HA, HJ1, BK153, HB⟩ := hcut
    cases kq with
    | zero => exact absurd HA.out (by simp [selfstabref42_Valid.j0])
    | succ kj1 =>
      have H := HA.out
      clear HA
      simp only [selfstabref42_Valid.j0] at H
      by_cases c22 : x58_1 = true
      · subst c22
        have H1 : (some false) = some r := by rw [if_pos rfl] at H; exact H
        clear H
        have H := H1
        clear H1
        obtain rfl := Option.some.inj H
        go_wp2
        repeat (go_quiet (fail); try go_wp2)
        go_ret
        exact ⟨by first | rfl | (simp [errW_none, errW_some] <;> rfl) | (simp [*, errW_none, errW_some] <;> rfl), by repeat (first | (with_reducible first | exact HB.out | apply below_alloc | apply pw_below_drewN | apply below_drew1 | refine below_set ?_ GE153.out) | exact HB.out)⟩
      · replace c22 := Bool.eq_false_iff.mpr c22
        subst c22
        have H1 : (selfstabref42_Valid.l0 kj1 0 a0_0 a0_1 a0_2 a0_3 a0_4 l0_5 l0_6) = some r := by rw [if_neg (show ¬ (false = true) by decide)] at H; exact H
        clear H
        have H := H1
        clear H1
        have H' := Aside0.mk H
        clear H
        go_wp2
        repeat (go_quiet (fail); try go_wp2)
        go_loopg [3] kj1 (fun kq v3 w' => ∃ (x3_2 : Int), v3 = .int .i64 x3_2 ∧ Aside0 (selfstabref42_Valid.l0 kq x3_2 a0_0 a0_1 a0_2 a0_3 a0_4 l0_5 l0_6 = some r) ∧ Aside0 (kq ≤ kj1) ∧ Aside0 (w'.heap[gb153]? = some (.cells #[.int .i64 a0_0, .int .i64 a0_1, .int .i64 a0_2, .int .i64 a0_3, .int .i64 a0_4, (.slice A0_5 l0_5.length c0_5), (.slice A0_6 l0_6.length c0_6)] 29 (0, 0))) ∧ Aside0 (Below w.heap.size w w'))
        case atStart => exact ⟨(0), (by first | rfl | (simp; done) | (simp [*]; done)), H', ⟨Nat.le_refl _⟩, ⟨by (with_reducible repeat (first | refine blk_drewN ?_ _ | refine blk_drew ?_ | refine blk_alloc ?_ _)); exact BK153.out⟩, ⟨by repeat (first | (with_reducible first | exact HB.out | apply below_alloc | apply pw_below_drewN | apply below_drew1 | refine below_set ?_ GE153.out) | exact HB.out)⟩⟩
        case round =>
          clear H'
          try clear c1
          try clear c2
          try clear p2
          try clear c5
          try clear p6
          try clear c7
          try clear c9
          try clear c11
          try clear c13
          try clear c14
          try clear c14b0
          try clear c20
          try clear c22
          try clear hcz15_0
          try clear hcz15_1
          try clear hcz15_2
          try clear hcz15_3
          try clear hcz15_4
          try clear hcz15_5
          try clear hcz15_6
          try clear hcz16_0
          try clear hcz16_1
          try clear hcz16_2
          try clear hcz16_3
          try clear hcz16_4
          try clear hcz16_5
          try clear hcz16_6
          try clear hcz17_0
          try clear hcz17_1
          try clear hcz17_2
          try clear hcz17_3
          try clear hcz17_4
          try clear hcz17_5
          try clear hcz17_6
          try clear hcz18_0
          try clear hcz18_1
          try clear hcz18_2
          try clear hcz18_3
          try clear hcz18_4
          try clear hcz18_5
          try clear hcz18_6
          try clear hcz19_0
          try clear hcz19_1
          try clear hcz19_2
          try clear hcz19_3
          try clear hcz19_4
          try clear hcz19_5
          try clear hcz19_6
          try clear hcz20_0
          try clear hcz20_1
          try clear hcz20_2
          try clear hcz20_3
          try clear hcz20_4
          try clear hcz20_5
          try clear hcz20_6
          try clear hcz21_0
          try clear hcz21_1
          try clear hcz21_2
          try clear hcz21_3
          try clear hcz21_4
          try clear hcz21_5
          try clear hcz21_6
          try clear hfz15_0
          try clear hfz15_1
          try clear hfz15_2
          try clear hfz15_3
          try clear hfz15_4
          try clear hfz15_5
          try clear hfz15_6
          try clear hfz16_0
          try clear hfz16_1
          try clear hfz16_2
          try clear hfz16_3
          try clear hfz16_4
          try clear hfz16_5
          try clear hfz16_6
          try clear hfz17_0
          try clear hfz17_1
          try clear hfz17_2
          try clear hfz17_3
          try clear hfz17_4
          try clear hfz17_5
          try clear hfz17_6
          try clear hfz18_0
          try clear hfz18_1
          try clear hfz18_2
          try clear hfz18_3
          try clear hfz18_4
          try clear hfz18_5
          try clear hfz18_6
          try clear hfz19_0
          try clear hfz19_1
          try clear hfz19_2
          try clear hfz19_3
          try clear hfz19_4
          try clear hfz19_5
          try clear hfz19_6
          try clear hfz20_0
          try clear hfz20_1
          try clear hfz20_2
          try clear hfz20_3
          try clear hfz20_4
          try clear hfz20_5
          try clear hfz20_6
          try clear hfz21_0
          try clear hfz21_1
          try clear hfz21_2
          try clear hfz21_3
          try clear hfz21_4
          try clear hfz21_5
          try clear hfz21_6
          try clear p2
          try clear p6
          obtain ⟨x3_2, rfl, HA, HK2, BK153, HB⟩ := hrel
          cases gk with
          | zero => exact absurd HA.out (by simp [selfstabref42_Valid.l0])
          | succ k2 =>
            have H := HA.out
            clear HA
            simp only [selfstabref42_Valid.l0] at H
            by_cases c23 : x3_2 < (l0_5.length : Int)
            · rw [if_pos c23] at H
              have c23b0 : decide (x3_2 < (l0_5.length : Int)) = true := decide_eq_true c23
              clear c23
              by_cases c24 : 0 ≤ x3_2
              · rw [if_pos c24] at H
                have c24b0 : decide (0 ≤ x3_2) = true := decide_eq_true c24
                clear c24
                replace H := Option.bind_eq_some_iff.mp H
                obtain ⟨t160, A250, H⟩ := H
                replace H : (if t160 = true then ((selfstabref01_In.f ((rd_T46 l0_5 x3_2).f1) (-1073741824) 1073741824).bind fun t162 => (if t162 = true then (selfstabref42_Valid.l0 k2 (wrap64 (x3_2 + 1)) a0_0 a0_1 a0_2 a0_3 a0_4 l0_5 l0_6) else (some false))) else (some false)) = some r := H
                have A25 := Aside0.mk A250
                clear A250
                by_cases c26 : t160 = true
                · subst c26
                  have H1 : ((selfstabref01_In.f ((rd_T46 l0_5 x3_2).f1) (-1073741824) 1073741824).bind fun t162 => (if t162 = true then (selfstabref42_Valid.l0 k2 (wrap64 (x3_2 + 1)) a0_0 a0_1 a0_2 a0_3 a0_4 l0_5 l0_6) else (some false))) = some r := by rw [if_pos rfl] at H; exact H
                  clear H
                  have H := H1
                  clear H1
                  replace H := Option.bind_eq_some_iff.mp H
                  obtain ⟨t162, A270, H⟩ := H
                  replace H : (if t162 = true then (selfstabref42_Valid.l0 k2 (wrap64 (x3_2 + 1)) a0_0 a0_1 a0_2 a0_3 a0_4 l0_5 l0_6) else (some false)) = some r := H
                  have A27 := Aside0.mk A270
                  clear A270
                  by_cases c28 : t162 = true
                  · subst c28
                    have H1 : (selfstabref42_Valid.l0 k2 (wrap64 (x3_2 + 1)) a0_0 a0_1 a0_2 a0_3 a0_4 l0_5 l0_6) = some r := by rw [if_pos rfl] at H; exact H
                    clear H
                    have H := H1
                    clear H1
                    have H' := Aside0.mk H
                    clear H
                    have hcz29_0 : wr.cell? ⟨gb153, 0, none⟩ = some (.int .i64 a0_0) := (blk_cell BK153.out 0).trans rfl
                    have hcz29_1 : wr.cell? ⟨gb153, 1, none⟩ = some (.int .i64 a0_1) := (blk_cell BK153.out 1).trans rfl
                    have hcz29_2 : wr.cell? ⟨gb153, 2, none⟩ = some (.int .i64 a0_2) := (blk_cell BK153.out 2).trans rfl
                    have hcz29_3 : wr.cell? ⟨gb153, 3, none⟩ = some (.int .i64 a0_3) := (blk_cell BK153.out 3).trans rfl
                    have hcz29_4 : wr.cell? ⟨gb153, 4, none⟩ = some (.int .i64 a0_4) := (blk_cell BK153.out 4).trans rfl
                    have hcz29_5 : wr.cell? ⟨gb153, 5, none⟩ = some (.slice A0_5 l0_5.length c0_5) := (blk_cell BK153.out 5).trans rfl
                    have hcz29_6 : wr.cell? ⟨gb153, 6, none⟩ = some (.slice A0_6 l0_6.length c0_6) := (blk_cell BK153.out 6).trans rfl
                    have hfz29_0 := blk_frozen BK153.out 0
                    have hfz29_1 := blk_frozen BK153.out 1
                    have hfz29_2 := blk_frozen BK153.out 2
                    have hfz29_3 := blk_frozen BK153.out 3
                    have hfz29_4 := blk_frozen BK153.out 4
                    have hfz29_5 := blk_frozen BK153.out 5
                    have hfz29_6 := blk_frozen BK153.out 6
                    have p159 : 0 ≤ (x3_2 : Int) := of_decide_eq_true (by first | (with_reducible assumption) | assumption)
                    have q159 : x3_2 < (l0_5.length : Int) := of_decide_eq_true (by first | (with_reducible assumption) | assumption)
                    obtain ⟨ad159, e159, hx159_0, hx159_1⟩ := at_T46 HR0_5.out x3_2 p159 q159
                    cases e159
                    replace hx159_0 := (HB.out.cell (World.block_lt_of_cell? w _ hx159_0)).trans hx159_0
                    replace hx159_1 := (HB.out.cell (World.block_lt_of_cell? w _ hx159_1)).trans hx159_1
                    replace p159 := eq_true p159
                    replace q159 := eq_true q159
                    go_wp2_with (first | (go_at_call 28; (with_reducible refine (selfstabref01_In.calls ((rd_T46 l0_5 x3_2).f0) 0 (wrap64 (a0_1 - 1)) true _ A25.out).mono ?_); rintro e w' ⟨rfl, ⟨nd, rfl⟩⟩; (first | exact ⟨rfl, _, World.drewN_drewN _ _ _⟩ | exact ⟨rfl, _, Eq.trans (World.drewN_drewN _ _ _) (congrArg (World.drewN _) (Nat.add_assoc _ _ _))⟩ | (have p161 : 0 ≤ (x3_2 : Int) := of_decide_eq_true (by first | (with_reducible assumption) | assumption); have q161 : x3_2 < (l0_5.length : Int) := of_decide_eq_true (by first | (with_reducible assumption) | assumption); obtain ⟨ad161, e161, hx161_0, hx161_1⟩ := at_T46 HR0_5.out x3_2 p161 q161; obtain rfl : ad159 = ad161 := (by injection e161); replace hx161_0 := (HB.out.cell (World.block_lt_of_cell? w _ hx161_0)).trans hx161_0; replace hx161_1 := (HB.out.cell (World.block_lt_of_cell? w _ hx161_1)).trans hx161_1; replace p161 := eq_true p161; replace q161 := eq_true q161))) | (go_at_call 28; (with_reducible refine (selfstabref01_In.calls ((rd_T46 l0_5 x3_2).f1) (-1073741824) 1073741824 true _ A27.out).mono ?_); rintro e w' ⟨rfl, ⟨nd, rfl⟩⟩; (try first | exact ⟨rfl, _, World.drewN_drewN _ _ _⟩ | exact ⟨rfl, _, Eq.trans (World.drewN_drewN _ _ _) (congrArg (World.drewN _) (Nat.add_assoc _ _ _))⟩)))
                    repeat (go_quiet (first | (go_at_call 28; (with_reducible refine (selfstabref01_In.calls ((rd_T46 l0_5 x3_2).f0) 0 (wrap64 (a0_1 - 1)) true _ A25.out).mono ?_); rintro e w' ⟨rfl, ⟨nd, rfl⟩⟩; (first | exact ⟨rfl, _, World.drewN_drewN _ _ _⟩ | exact ⟨rfl, _, Eq.trans (World.drewN_drewN _ _ _) (congrArg (World.drewN _) (Nat.add_assoc _ _ _))⟩ | (have p161 : 0 ≤ (x3_2 : Int) := of_decide_eq_true (by first | (with_reducible assumption) | assumption); have q161 : x3_2 < (l0_5.length : Int) := of_decide_eq_true (by first | (with_reducible assumption) | assumption); obtain ⟨ad161, e161, hx161_0, hx161_1⟩ := at_T46 HR0_5.out x3_2 p161 q161; obtain rfl : ad159 = ad161 := (by injection e161); replace hx161_0 := (HB.out.cell (World.block_lt_of_cell? w _ hx161_0)).trans hx161_0; replace hx161_1 := (HB.out.cell (World.block_lt_of_cell? w _ hx161_1)).trans hx161_1; replace p161 := eq_true p161; replace q161 := eq_true q161))) | (go_at_call 28; (with_reducible refine (selfstabref01_In.calls ((rd_T46 l0_5 x3_2).f1) (-1073741824) 1073741824 true _ A27.out).mono ?_); rintro e w' ⟨rfl, ⟨nd, rfl⟩⟩; (try first | exact ⟨rfl, _, World.drewN_drewN _ _ _⟩ | exact ⟨rfl, _, Eq.trans (World.drewN_drewN _ _ _) (congrArg (World.drewN _) (Nat.add_assoc _ _ _))⟩))); try go_wp2_with (first | (go_at_call 28; (with_reducible refine (selfstabref01_In.calls ((rd_T46 l0_5 x3_2).f0) 0 (wrap64 (a0_1 - 1)) true _ A25.out).mono ?_); rintro e w' ⟨rfl, ⟨nd, rfl⟩⟩; (first | exact ⟨rfl, _, World.drewN_drewN _ _ _⟩ | exact ⟨rfl, _, Eq.trans (World.drewN_drewN _ _ _) (congrArg (World.drewN _) (Nat.add_assoc _ _ _))⟩ | (have p161 : 0 ≤ (x3_2 : Int) := of_decide_eq_true (by first | (with_reducible assumption) | assumption); have q161 : x3_2 < (l0_5.length : Int) := of_decide_eq_true (by first | (with_reducible assumption) | assumption); obtain ⟨ad161, e161, hx161_0, hx161_1⟩ := at_T46 HR0_5.out x3_2 p161 q161; obtain rfl : ad159 = ad161 := (by injection e161); replace hx161_0 := (HB.out.cell (World.block_lt_of_cell? w _ hx161_0)).trans hx161_0; replace hx161_1 := (HB.out.cell (World.block_lt_of_cell? w _ hx161_1)).trans hx161_1; replace p161 := eq_true p161; replace q161 := eq_true q161))) | (go_at_call 28; (with_reducible refine (selfstabref01_In.calls ((rd_T46 l0_5 x3_2).f1) (-1073741824) 1073741824 true _ A27.out).mono ?_); rintro e w' ⟨rfl, ⟨nd, rfl⟩⟩; (try first | exact ⟨rfl, _, World.drewN_drewN _ _ _⟩ | exact ⟨rfl, _, Eq.trans (World.drewN_drewN _ _ _) (congrArg (World.drewN _) (Nat.add_assoc _ _ _))⟩))))
                    go_roundg k2
                    case measure => have := HJ1.out; have := HK2.out; omega
                    case rel => exact ⟨(wrap64 (x3_2 + 1)), (by first | rfl | (simp; done) | (simp [*]; done)), H', ⟨by have := HJ1.out; have := HK2.out; omega⟩, ⟨by (with_reducible repeat (first | refine blk_drewN ?_ _ | refine blk_drew ?_ | refine blk_alloc ?_ _)); exact BK153.out⟩, ⟨by repeat (first | (with_reducible first | exact HB.out | apply below_alloc | apply pw_below_drewN | apply below_drew1 | refine below_set ?_ GE153.out) | exact HB.out)⟩⟩
                  · replace c28 := Bool.eq_false_iff.mpr c28
                    subst c28
                    have H1 : (some false) = some r := by rw [if_neg (show ¬ (false = true) by decide)] at H; exact H
                    clear H
                    have H := H1
                    clear H1
                    obtain rfl := Option.some.inj H
                    have hcz30_0 : wr.cell? ⟨gb153, 0, none⟩ = some (.int .i64 a0_0) := (blk_cell BK153.out 0).trans rfl
                    have hcz30_1 : wr.cell? ⟨gb153, 1, none⟩ = some (.int .i64 a0_1) := (blk_cell BK153.out 1).trans rfl
                    have hcz30_2 : wr.cell? ⟨gb153, 2, none⟩ = some (.int .i64 a0_2) := (blk_cell BK153.out 2).trans rfl
                    have hcz30_3 : wr.cell? ⟨gb153, 3, none⟩ = some (.int .i64 a0_3) := (blk_cell BK153.out 3).trans rfl
                    have hcz30_4 : wr.cell? ⟨gb153, 4, none⟩ = some (.int .i64 a0_4) := (blk_cell BK153.out 4).trans rfl
                    have hcz30_5 : wr.cell? ⟨gb153, 5, none⟩ = some (.slice A0_5 l0_5.length c0_5) := (blk_cell BK153.out 5).trans rfl
                    have hcz30_6 : wr.cell? ⟨gb153, 6, none⟩ = some (.slice A0_6 l0_6.length c0_6) := (blk_cell BK153.out 6).trans rfl
                    have hfz30_0 := blk_frozen BK153.out 0
                    have hfz30_1 := blk_frozen BK153.out 1
                    have hfz30_2 := blk_frozen BK153.out 2
                    have hfz30_3 := blk_frozen BK153.out 3
                    have hfz30_4 := blk_frozen BK153.out 4
                    have hfz30_5 := blk_frozen BK153.out 5
                    have hfz30_6 := blk_frozen BK153.out 6
                    have p159 : 0 ≤ (x3_2 : Int) := of_decide_eq_true (by first | (with_reducible assumption) | assumption)
                    have q159 : x3_2 < (l0_5.length : Int) := of_decide_eq_true (by first | (with_reducible assumption) | assumption)
                    obtain ⟨ad159, e159, hx159_0, hx159_1⟩ := at_T46 HR0_5.out x3_2 p159 q159
                    cases e159
                    replace hx159_0 := (HB.out.cell (World.block_lt_of_cell? w _ hx159_0)).trans hx159_0
                    replace hx159_1 := (HB.out.cell (World.block_lt_of_cell? w _ hx159_1)).trans hx159_1
                    replace p159 := eq_true p159
                    replace q159 := eq_true q159
                    go_wp2_with (first | (go_at_call 28; (with_reducible refine (selfstabref01_In.calls ((rd_T46 l0_5 x3_2).f0) 0 (wrap64 (a0_1 - 1)) true _ A25.out).mono ?_); rintro e w' ⟨rfl, ⟨nd, rfl⟩⟩; (first | exact ⟨rfl, _, World.drewN_drewN _ _ _⟩ | exact ⟨rfl, _, Eq.trans (World.drewN_drewN _ _ _) (congrArg (World.drewN _) (Nat.add_assoc _ _ _))⟩ | (have p161 : 0 ≤ (x3_2 : Int) := of_decide_eq_true (by first | (with_reducible assumption) | assumption); have q161 : x3_2 < (l0_5.length : Int) := of_decide_eq_true (by first | (with_reducible assumption) | assumption); obtain ⟨ad161, e161, hx161_0, hx161_1⟩ := at_T46 HR0_5.out x3_2 p161 q161; obtain rfl : ad159 = ad161 := (by injection e161); replace hx161_0 := (HB.out.cell (World.block_lt_of_cell? w _ hx161_0)).trans hx161_0; replace hx161_1 := (HB.out.cell (World.block_lt_of_cell? w _ hx161_1)).trans hx161_1; replace p161 := eq_true p161; replace q161 := eq_true q161))) | (go_at_call 28; (with_reducible refine (selfstabref01_In.calls ((rd_T46 l0_5 x3_2).f1) (-1073741824) 1073741824 false _ A27.out).mono ?_); rintro e w' ⟨rfl, ⟨nd, rfl⟩⟩; (try first | exact ⟨rfl, _, World.drewN_drewN _ _ _⟩ | exact ⟨rfl, _, Eq.trans (World.drewN_drewN _ _ _) (congrArg (World.drewN _) (Nat.add_assoc _ _ _))⟩)))
                    repeat (go_quiet (first | (go_at_call 28; (with_reducible refine (selfstabref01_In.calls ((rd_T46 l0_5 x3_2).f0) 0 (wrap64 (a0_1 - 1)) true _ A25.out).mono ?_); rintro e w' ⟨rfl, ⟨nd, rfl⟩⟩; (first | exact ⟨rfl, _, World.drewN_drewN _ _ _⟩ | exact ⟨rfl, _, Eq.trans (World.drewN_drewN _ _ _) (congrArg (World.drewN _) (Nat.add_assoc _ _ _))⟩ | (have p161 : 0 ≤ (x3_2 : Int) := of_decide_eq_true (by first | (with_reducible assumption) | assumption); have q161 : x3_2 < (l0_5.length : Int) := of_decide_eq_true (by first | (with_reducible assumption) | assumption); obtain ⟨ad161, e161, hx161_0, hx161_1⟩ := at_T46 HR0_5.out x3_2 p161 q161; obtain rfl : ad159 = ad161 := (by injection e161); replace hx161_0 := (HB.out.cell (World.block_lt_of_cell? w _ hx161_0)).trans hx161_0; replace hx161_1 := (HB.out.cell (World.block_lt_of_cell? w _ hx161_1)).trans hx161_1; replace p161 := eq_true p161; replace q161 := eq_true q161))) | (go_at_call 28; (with_reducible refine (selfstabref01_In.calls ((rd_T46 l0_5 x3_2).f1) (-1073741824) 1073741824 false _ A27.out).mono ?_); rintro e w' ⟨rfl, ⟨nd, rfl⟩⟩; (try first | exact ⟨rfl, _, World.drewN_drewN _ _ _⟩ | exact ⟨rfl, _, Eq.trans (World.drewN_drewN _ _ _) (congrArg (World.drewN _) (Nat.add_assoc _ _ _))⟩))); try go_wp2_with (first | (go_at_call 28; (with_reducible refine (selfstabref01_In.calls ((rd_T46 l0_5 x3_2).f0) 0 (wrap64 (a0_1 - 1)) true _ A25.out).mono ?_); rintro e w' ⟨rfl, ⟨nd, rfl⟩⟩; (first | exact ⟨rfl, _, World.drewN_drewN _ _ _⟩ | exact ⟨rfl, _, Eq.trans (World.drewN_drewN _ _ _) (congrArg (World.drewN _) (Nat.add_assoc _ _ _))⟩ | (have p161 : 0 ≤ (x3_2 : Int) := of_decide_eq_true (by first | (with_reducible assumption) | assumption); have q161 : x3_2 < (l0_5.length : Int) := of_decide_eq_true (by first | (with_reducible assumption) | assumption); obtain ⟨ad161, e161, hx161_0, hx161_1⟩ := at_T46 HR0_5.out x3_2 p161 q161; obtain rfl : ad159 = ad161 := (by injection e161); replace hx161_0 := (HB.out.cell (World.block_lt_of_cell? w _ hx161_0)).trans hx161_0; replace hx161_1 := (HB.out.cell (World.block_lt_of_cell? w _ hx161_1)).trans hx161_1; replace p161 := eq_true p161; replace q161 := eq_true q161))) | (go_at_call 28; (with_reducible refine (selfstabref01_In.calls ((rd_T46 l0_5 x3_2).f1) (-1073741824) 1073741824 false _ A27.out).mono ?_); rintro e w' ⟨rfl, ⟨nd, rfl⟩⟩; (try first | exact ⟨rfl, _, World.drewN_drewN _ _ _⟩ | exact ⟨rfl, _, Eq.trans (World.drewN_drewN _ _ _) (congrArg (World.drewN _) (Nat.add_assoc _ _ _))⟩))))
                    go_ret
                    exact ⟨by first | rfl | (simp [errW_none, errW_some] <;> rfl) | (simp [*, errW_none, errW_some] <;> rfl), by repeat (first | (with_reducible first | exact HB.out | apply below_alloc | apply pw_below_drewN | apply below_drew1 | refine below_set ?_ GE153.out) | exact HB.out)⟩
                · replace c26 := Bool.eq_false_iff.mpr c26
                  subst c26
                  have H1 : (some false) = some r := by rw [if_neg (show ¬ (false = true) by decide)] at H; exact H
                  clear H
                  have H := H1
                  clear H1
                  obtain rfl := Option.some.inj H
                  have hcz31_0 : wr.cell? ⟨gb153, 0, none⟩ = some (.int .i64 a0_0) := (blk_cell BK153.out 0).trans rfl
                  have hcz31_1 : wr.cell? ⟨gb153, 1, none⟩ = some (.int .i64 a0_1) := (blk_cell BK153.out 1).trans rfl
                  have hcz31_2 : wr.cell? ⟨gb153, 2, none⟩ = some (.int .i64 a0_2) := (blk_cell BK153.out 2).trans rfl
                  have hcz31_3 : wr.cell? ⟨gb153, 3, none⟩ = some (.int .i64 a0_3) := (blk_cell BK153.out 3).trans rfl
                  have hcz31_4 : wr.cell? ⟨gb153, 4, none⟩ = some (.int .i64 a0_4) := (blk_cell BK153.out 4).trans rfl
                  have hcz31_5 : wr.cell? ⟨gb153, 5, none⟩ = some (.slice A0_5 l0_5.length c0_5) := (blk_cell BK153.out 5).trans rfl
                  have hcz31_6 : wr.cell? ⟨gb153, 6, none⟩ = some (.slice A0_6 l0_6.length c0_6) := (blk_cell BK153.out 6).trans rfl
                  have hfz31_0 := blk_frozen BK153.out 0
                  have hfz31_1 := blk_frozen BK153.out 1
                  have hfz31_2 := blk_frozen BK153.out 2
                  have hfz31_3 := blk_frozen BK153.out 3
                  have hfz31_4 := blk_frozen BK153.out 4
                  have hfz31_5 := blk_frozen BK153.out 5
                  have hfz31_6 := blk_frozen BK153.out 6
                  have p159 : 0 ≤ (x3_2 : Int) := of_decide_eq_true (by first | (with_reducible assumption) | assumption)
                  have q159 : x3_2 < (l0_5.length : Int) := of_decide_eq_true (by first | (with_reducible assumption) | assumption)
                  obtain ⟨ad159, e159, hx159_0, hx159_1⟩ := at_T46 HR0_5.out x3_2 p159 q159
                  cases e159
                  replace hx159_0 := (HB.out.cell (World.block_lt_of_cell? w _ hx159_0)).trans hx159_0
                  replace hx159_1 := (HB.out.cell (World.block_lt_of_cell? w _ hx159_1)).trans hx159_1
                  replace p159 := eq_true p159
                  replace q159 := eq_true q159
                  go_wp2_with (first | (go_at_call 28; (with_reducible refine (selfstabref01_In.calls ((rd_T46 l0_5 x3_2).f0) 0 (wrap64 (a0_1 - 1)) false _ A25.out).mono ?_); rintro e w' ⟨rfl, ⟨nd, rfl⟩⟩; (try first | exact ⟨rfl, _, World.drewN_drewN _ _ _⟩ | exact ⟨rfl, _, Eq.trans (World.drewN_drewN _ _ _) (congrArg (World.drewN _) (Nat.add_assoc _ _ _))⟩)))
                  repeat (go_quiet (first | (go_at_call 28; (with_reducible refine (selfstabref01_In.calls ((rd_T46 l0_5 x3_2).f0) 0 (wrap64 (a0_1 - 1)) false _ A25.out).mono ?_); rintro e w' ⟨rfl, ⟨nd, rfl⟩⟩; (try first | exact ⟨rfl, _, World.drewN_drewN _ _ _⟩ | exact ⟨rfl, _, Eq.trans (World.drewN_drewN _ _ _) (congrArg (World.drewN _) (Nat.add_assoc _ _ _))⟩))); try go_wp2_with (first | (go_at_call 28; (with_reducible refine (selfstabref01_In.calls ((rd_T46 l0_5 x3_2).f0) 0 (wrap64 (a0_1 - 1)) false _ A25.out).mono ?_); rintro e w' ⟨rfl, ⟨nd, rfl⟩⟩; (try first | exact ⟨rfl, _, World.drewN_drewN _ _ _⟩ | exact ⟨rfl, _, Eq.trans (World.drewN_drewN _ _ _) (congrArg (World.drewN _) (Nat.add_assoc _ _ _))⟩))))
                  go_ret
                  exact ⟨by first | rfl | (simp [errW_none, errW_some] <;> rfl) | (simp [*, errW_none, errW_some] <;> rfl), by repeat (first | (with_reducible first | exact HB.out | apply below_alloc | apply pw_below_drewN | apply below_drew1 | refine below_set ?_ GE153.out) | exact HB.out)⟩
              · rw [if_neg c24] at H
                exact absurd H (by simp)
            · rw [if_neg c23] at H
              have c23b0 : decide (x3_2 < (l0_5.length : Int)) = false := decide_eq_false c23
              clear c23
              have H' := Aside0.mk H
              clear H
              have hcz32_0 : wr.cell? ⟨gb153, 0, none⟩ = some (.int .i64 a0_0) := (blk_cell BK153.out 0).trans rfl
              have hcz32_1 : wr.cell? ⟨gb153, 1, none⟩ = some (.int .i64 a0_1) := (blk_cell BK153.out 1).trans rfl
              have hcz32_2 : wr.cell? ⟨gb153, 2, none⟩ = some (.int .i64 a0_2) := (blk_cell BK153.out 2).trans rfl
              have hcz32_3 : wr.cell? ⟨gb153, 3, none⟩ = some (.int .i64 a0_3) := (blk_cell BK153.out 3).trans rfl
              have hcz32_4 : wr.cell? ⟨gb153, 4, none⟩ = some (.int .i64 a0_4) := (blk_cell BK153.out 4).trans rfl
              have hcz32_5 : wr.cell? ⟨gb153, 5, none⟩ = some (.slice A0_5 l0_5.length c0_5) := (blk_cell BK153.out 5).trans rfl
              have hcz32_6 : wr.cell? ⟨gb153, 6, none⟩ = some (.slice A0_6 l0_6.length c0_6) := (blk_cell BK153.out 6).trans rfl
              have hfz32_0 := blk_frozen BK153.out 0
              have hfz32_1 := blk_frozen BK153.out 1
              have hfz32_2 := blk_frozen BK153.out 2
              have hfz32_3 := blk_frozen BK153.out 3
              have hfz32_4 := blk_frozen BK153.out 4
              have hfz32_5 := blk_frozen BK153.out 5
              have hfz32_6 := blk_frozen BK153.out 6
              go_wp2
              repeat (go_quiet (fail); try go_wp2)
              go_loopg [4] k2 (fun kq v4 w' => ∃ (x4_3 : Int), v4 = .int .i64 x4_3 ∧ Aside0 (selfstabref42_Valid.l1 kq x4_3 a0_0 a0_1 a0_2 a0_3 a0_4 l0_5 l0_6 = some r) ∧ Aside0 (kq ≤ k2) ∧ Aside0 (w'.heap[gb153]? = some (.cells #[.int .i64 a0_0, .int .i64 a0_1, .int .i64 a0_2, .int .i64 a0_3, .int .i64 a0_4, (.slice A0_5 l0_5.length c0_5), (.slice A0_6 l0_6.length c0_6)] 29 (0, 0))) ∧ Aside0 (Below w.heap.size w w'))
              case atStart => exact ⟨(0), (by first | rfl | (simp; done) | (simp [*]; done)), H', ⟨Nat.le_refl _⟩, ⟨by (with_reducible repeat (first | refine blk_drewN ?_ _ | refine blk_drew ?_ | refine blk_alloc ?_ _)); exact BK153.out⟩, ⟨by repeat (first | (with_reducible first | exact HB.out | apply below_alloc | apply pw_below_drewN | apply below_drew1 | refine below_set ?_ GE153.out) | exact HB.out)⟩⟩
              case round =>
                clear H'
                try clear c1
                try clear p1
                try clear q1
                try clear hx1
                try clear c2
                try clear p2
                try clear c5
                try clear p6
                try clear c7
                try clear c9
                try clear c11
                try clear c13
                try clear c14
                try clear c14b0
                try clear p15
                try clear q15
                try clear hx15
                try clear p16
                try clear q16
                try clear hx16
                try clear c20
                try clear c22
                try clear c23
                try clear c23b0
                try clear c24
                try clear c24b0
                try clear c26
                try clear c28
                try clear hcz15_0
                try clear hcz15_1
                try clear hcz15_2
                try clear hcz15_3
                try clear hcz15_4
                try clear hcz15_5
                try clear hcz15_6
                try clear hcz16_0
                try clear hcz16_1
                try clear hcz16_2
                try clear hcz16_3
                try clear hcz16_4
                try clear hcz16_5
                try clear hcz16_6
                try clear hcz17_0
                try clear hcz17_1
                try clear hcz17_2
                try clear hcz17_3
                try clear hcz17_4
                try clear hcz17_5
                try clear hcz17_6
                try clear hcz18_0
                try clear hcz18_1
                try clear hcz18_2
                try clear hcz18_3
                try clear hcz18_4
                try clear hcz18_5
                try clear hcz18_6
                try clear hcz19_0
                try clear hcz19_1
                try clear hcz19_2
                try clear hcz19_3
                try clear hcz19_4
                try clear hcz19_5
                try clear hcz19_6
                try clear hcz20_0
                try clear hcz20_1
                try clear hcz20_2
                try clear hcz20_3
                try clear hcz20_4
                try clear hcz20_5
                try clear hcz20_6
                try clear hcz21_0
                try clear hcz21_1
                try clear hcz21_2
                try clear hcz21_3
                try clear hcz21_4
                try clear hcz21_5
                try clear hcz21_6
                try clear hcz29_0
                try clear hcz29_1
                try clear hcz29_2
                try clear hcz29_3
                try clear hcz29_4
                try clear hcz29_5
                try clear hcz29_6
                try clear hcz30_0
                try clear hcz30_1
                try clear hcz30_2
                try clear hcz30_3
                try clear hcz30_4
                try clear hcz30_5
                try clear hcz30_6
                try clear hcz31_0
                try clear hcz31_1
                try clear hcz31_2
                try clear hcz31_3
                try clear hcz31_4
                try clear hcz31_5
                try clear hcz31_6
                try clear hcz32_0
                try clear hcz32_1
                try clear hcz32_2
                try clear hcz32_3
                try clear hcz32_4
                try clear hcz32_5
                try clear hcz32_6
                try clear hfz15_0
                try clear hfz15_1
                try clear hfz15_2
                try clear hfz15_3
                try clear hfz15_4
                try clear hfz15_5
                try clear hfz15_6
                try clear hfz16_0
                try clear hfz16_1
                try clear hfz16_2
                try clear hfz16_3
                try clear hfz16_4
                try clear hfz16_5
                try clear hfz16_6
                try clear hfz17_0
                try clear hfz17_1
                try clear hfz17_2
                try clear hfz17_3
                try clear hfz17_4
                try clear hfz17_5
                try clear hfz17_6
                try clear hfz18_0
                try clear hfz18_1
                try clear hfz18_2
                try clear hfz18_3
                try clear hfz18_4
                try clear hfz18_5
                try clear hfz18_6
                try clear hfz19_0
                try clear hfz19_1
                try clear hfz19_2
                try clear hfz19_3
                try clear hfz19_4
                try clear hfz19_5
                try clear hfz19_6
                try clear hfz20_0
                try clear hfz20_1
                try clear hfz20_2
                try clear hfz20_3
                try clear hfz20_4
                try clear hfz20_5
                try clear hfz20_6
                try clear hfz21_0
                try clear hfz21_1
                try clear hfz21_2
                try clear hfz21_3
                try clear hfz21_4
                try clear hfz21_5
                try clear hfz21_6
                try clear hfz29_0
                try clear hfz29_1
                try clear hfz29_2
                try clear hfz29_3
                try clear hfz29_4
                try clear hfz29_5
                try clear hfz29_6
                try clear hfz30_0
                try clear hfz30_1
                try clear hfz30_2
                try clear hfz30_3
                try clear hfz30_4
                try clear hfz30_5
                try clear hfz30_6
                try clear hfz31_0
                try clear hfz31_1
                try clear hfz31_2
                try clear hfz31_3
                try clear hfz31_4
                try clear hfz31_5
                try clear hfz31_6
                try clear hfz32_0
                try clear hfz32_1
                try clear hfz32_2
                try clear hfz32_3
                try clear hfz32_4
                try clear hfz32_5
                try clear hfz32_6
                try clear hx159_0
                try clear hx159_1
                try clear hx161_0
                try clear hx161_1
                try clear p159
                try clear p161
                try clear p2
                try clear p6
                try clear q159
                try clear q161
                obtain ⟨x4_3, rfl, HA, HK3, BK153, HB⟩ := hrel
                cases gk with
                | zero => exact absurd HA.out (by simp [selfstabref42_Valid.l1])
                | succ k3 =>
                  have H := HA.out
                  clear HA
                  simp only [selfstabref42_Valid.l1] at H
                  by_cases c33 : x4_3 < (l0_6.length : Int)
                  · rw [if_pos c33] at H
                    have c33b0 : decide (x4_3 < (l0_6.length : Int)) = true := decide_eq_true c33
                    clear c33
                    by_cases c34 : 0 ≤ x4_3
                    · rw [if_pos c34] at H
                      have c34b0 : decide (0 ≤ x4_3) = true := decide_eq_true c34
                      clear c34
                      replace H := Option.bind_eq_some_iff.mp H
                      obtain ⟨t164, A350, H⟩ := H
                      replace H : (if t164 = true then (selfstabref42_Valid.l1 k3 (wrap64 (x4_3 + 1)) a0_0 a0_1 a0_2 a0_3 a0_4 l0_5 l0_6) else (some false)) = some r := H
                      have A35 := Aside0.mk A350
                      clear A350
                      by_cases c36 : t164 = true
                      · subst c36
                        have H1 : (selfstabref42_Valid.l1 k3 (wrap64 (x4_3 + 1)) a0_0 a0_1 a0_2 a0_3 a0_4 l0_5 l0_6) = some r := by rw [if_pos rfl] at H; exact H
                        clear H
                        have H := H1
                        clear H1
                        have H' := Aside0.mk H
                        clear H
                        have hcz37_0 : wr.cell? ⟨gb153, 0, none⟩ = some (.int .i64 a0_0) := (blk_cell BK153.out 0).trans rfl
                        have hcz37_1 : wr.cell? ⟨gb153, 1, none⟩ = some (.int .i64 a0_1) := (blk_cell BK153.out 1).trans rfl
                        have hcz37_2 : wr.cell? ⟨gb153, 2, none⟩ = some (.int .i64 a0_2) := (blk_cell BK153.out 2).trans rfl
                        have hcz37_3 : wr.cell? ⟨gb153, 3, none⟩ = some (.int .i64 a0_3) := (blk_cell BK153.out 3).trans rfl
                        have hcz37_4 : wr.cell? ⟨gb153, 4, none⟩ = some (.int .i64 a0_4) := (blk_cell BK153.out 4).trans rfl
                        have hcz37_5 : wr.cell? ⟨gb153, 5, none⟩ = some (.slice A0_5 l0_5.length c0_5) := (blk_cell BK153.out 5).trans rfl
                        have hcz37_6 : wr.cell? ⟨gb153, 6, none⟩ = some (.slice A0_6 l0_6.length c0_6) := (blk_cell BK153.out 6).trans rfl
                        have hfz37_0 := blk_frozen BK153.out 0
                        have hfz37_1 := blk_frozen BK153.out 1
                        have hfz37_2 := blk_frozen BK153.out 2
                        have hfz37_3 := blk_frozen BK153.out 3
                        have hfz37_4 := blk_frozen BK153.out 4
                        have hfz37_5 := blk_frozen BK153.out 5
                        have hfz37_6 := blk_frozen BK153.out 6
                        have p163 : 0 ≤ (x4_3 : Int) := of_decide_eq_true (by first | (with_reducible assumption) | assumption)
                        have q163 : x4_3 < (l0_6.length : Int) := of_decide_eq_true (by first | (with_reducible assumption) | assumption)
                        obtain ⟨ad163, e163, hx163_0⟩ := Kd.at_int HR0_6.out x4_3 p163 q163
                        cases e163
                        replace hx163_0 := (HB.out.cell (World.block_lt_of_cell? w _ hx163_0)).trans hx163_0
                        replace p163 := eq_true p163
                        replace q163 := eq_true q163
                        go_wp2_with (first | (go_at_call 28; (with_reducible refine (selfstabref01_In.calls (rd l0_6 x4_3) 0 (wrap64 (a0_1 - 1)) true _ A35.out).mono ?_); rintro e w' ⟨rfl, ⟨nd, rfl⟩⟩; (try first | exact ⟨rfl, _, World.drewN_drewN _ _ _⟩ | exact ⟨rfl, _, Eq.trans (World.drewN_drewN _ _ _) (congrArg (World.drewN _) (Nat.add_assoc _ _ _))⟩)))
                        repeat (go_quiet (first | (go_at_call 28; (with_reducible refine (selfstabref01_In.calls (rd l0_6 x4_3) 0 (wrap64 (a0_1 - 1)) true _ A35.out).mono ?_); rintro e w' ⟨rfl, ⟨nd, rfl⟩⟩; (try first | exact ⟨rfl, _, World.drewN_drewN _ _ _⟩ | exact ⟨rfl, _, Eq.trans (World.drewN_drewN _ _ _) (congrArg (World.drewN _) (Nat.add_assoc _ _ _))⟩))); try go_wp2_with (first | (go_at_call 28; (with_reducible refine (selfstabref01_In.calls (rd l0_6 x4_3) 0 (wrap64 (a0_1 - 1)) true _ A35.out).mono ?_); rintro e w' ⟨rfl, ⟨nd, rfl⟩⟩; (try first | exact ⟨rfl, _, World.drewN_drewN _ _ _⟩ | exact ⟨rfl, _, Eq.trans (World.drewN_drewN _ _ _) (congrArg (World.drewN _) (Nat.add_assoc _ _ _))⟩))))
                        go_roundg k3
                        case measure => have := HJ1.out; have := HK2.out; have := HK3.out; omega
                        case rel => exact ⟨(wrap64 (x4_3 + 1)), (by first | rfl | (simp; done) | (simp [*]; done)), H', ⟨by have := HJ1.out; have := HK2.out; have := HK3.out; omega⟩, ⟨by (with_reducible repeat (first | refine blk_drewN ?_ _ | refine blk_drew ?_ | refine blk_alloc ?_ _)); exact BK153.out⟩, ⟨by repeat (first | (with_reducible first | exact HB.out | apply below_alloc | apply pw_below_drewN | apply below_drew1 | refine below_set ?_ GE153.out) | exact HB.out)⟩⟩
                      · replace c36 := Bool.eq_false_iff.mpr c36
                        subst c36
                        have H1 : (some false) = some r := by rw [if_neg (show ¬ (false = true) by decide)] at H; exact H
                        clear H
                        have H := H1
                        clear H1
                        obtain rfl := Option.some.inj H
                        have hcz38_0 : wr.cell? ⟨gb153, 0, none⟩ = some (.int .i64 a0_0) := (blk_cell BK153.out 0).trans rfl
                        have hcz38_1 : wr.cell? ⟨gb153, 1, none⟩ = some (.int .i64 a0_1) := (blk_cell BK153.out 1).trans rfl
                        have hcz38_2 : wr.cell? ⟨gb153, 2, none⟩ = some (.int .i64 a0_2) := (blk_cell BK153.out 2).trans rfl
                        have hcz38_3 : wr.cell? ⟨gb153, 3, none⟩ = some (.int .i64 a0_3) := (blk_cell BK153.out 3).trans rfl
                        have hcz38_4 : wr.cell? ⟨gb153, 4, none⟩ = some (.int .i64 a0_4) := (blk_cell BK153.out 4).trans rfl
                        have hcz38_5 : wr.cell? ⟨gb153, 5, none⟩ = some (.slice A0_5 l0_5.length c0_5) := (blk_cell BK153.out 5).trans rfl
                        have hcz38_6 : wr.cell? ⟨gb153, 6, none⟩ = some (.slice A0_6 l0_6.length c0_6) := (blk_cell BK153.out 6).trans rfl
                        have hfz38_0 := blk_frozen BK153.out 0
                        have hfz38_1 := blk_frozen BK153.out 1
                        have hfz38_2 := blk_frozen BK153.out 2
                        have hfz38_3 := blk_frozen BK153.out 3
                        have hfz38_4 := blk_frozen BK153.out 4
                        have hfz38_5 := blk_frozen BK153.out 5
                        have hfz38_6 := blk_frozen BK153.out 6
                        have p163 : 0 ≤ (x4_3 : Int) := of_decide_eq_true (by first | (with_reducible assumption) | assumption)
                        have q163 : x4_3 < (l0_6.length : Int) := of_decide_eq_true (by first | (with_reducible assumption) | assumption)
                        obtain ⟨ad163, e163, hx163_0⟩ := Kd.at_int HR0_6.out x4_3 p163 q163
                        cases e163
                        replace hx163_0 := (HB.out.cell (World.block_lt_of_cell? w _ hx163_0)).trans hx163_0
                        replace p163 := eq_true p163
                        replace q163 := eq_true q163
                        go_wp2_with (first | (go_at_call 28; (with_reducible refine (selfstabref01_In.calls (rd l0_6 x4_3) 0 (wrap64 (a0_1 - 1)) false _ A35.out).mono ?_); rintro e w' ⟨rfl, ⟨nd, rfl⟩⟩; (try first | exact ⟨rfl, _, World.drewN_drewN _ _ _⟩ | exact ⟨rfl, _, Eq.trans (World.drewN_drewN _ _ _) (congrArg (World.drewN _) (Nat.add_assoc _ _ _))⟩)))
                        repeat (go_quiet (first | (go_at_call 28; (with_reducible refine (selfstabref01_In.calls (rd l0_6 x4_3) 0 (wrap64 (a0_1 - 1)) false _ A35.out).mono ?_); rintro e w' ⟨rfl, ⟨nd, rfl⟩⟩; (try first | exact ⟨rfl, _, World.drewN_drewN _ _ _⟩ | exact ⟨rfl, _, Eq.trans (World.drewN_drewN _ _ _) (congrArg (World.drewN _) (Nat.add_assoc _ _ _))⟩))); try go_wp2_with (first | (go_at_call 28; (with_reducible refine (selfstabref01_In.calls (rd l0_6 x4_3) 0 (wrap64 (a0_1 - 1)) false _ A35.out).mono ?_); rintro e w' ⟨rfl, ⟨nd, rfl⟩⟩; (try first | exact ⟨rfl, _, World.drewN_drewN _ _ _⟩ | exact ⟨rfl, _, Eq.trans (World.drewN_drewN _ _ _) (congrArg (World.drewN _) (Nat.add_assoc _ _ _))⟩))))
                        go_ret
                        exact ⟨by first | rfl | (simp [errW_none, errW_some] <;> rfl) | (simp [*, errW_none, errW_some] <;> rfl), by repeat (first | (with_reducible first | exact HB.out | apply below_alloc | apply pw_below_drewN | apply below_drew1 | refine below_set ?_ GE153.out) | exact HB.out)⟩
                    · rw [if_neg c34] at H
                      exact absurd H (by simp)
                  · rw [if_neg c33] at H
                    have c33b0 : decide (x4_3 < (l0_6.length : Int)) = false := decide_eq_false c33
                    clear c33
                    obtain rfl := Option.some.inj H
                    have hcz39_0 : wr.cell? ⟨gb153, 0, none⟩ = some (.int .i64 a0_0) := (blk_cell BK153.out 0).trans rfl
                    have hcz39_1 : wr.cell? ⟨gb153, 1, none⟩ = some (.int .i64 a0_1) := (blk_cell BK153.out 1).trans rfl
                    have hcz39_2 : wr.cell? ⟨gb153, 2, none⟩ = some (.int .i64 a0_2) := (blk_cell BK153.out 2).trans rfl
                    have hcz39_3 : wr.cell? ⟨gb153, 3, none⟩ = some (.int .i64 a0_3) := (blk_cell BK153.out 3).trans rfl
                    have hcz39_4 : wr.cell? ⟨gb153, 4, none⟩ = some (.int .i64 a0_4) := (blk_cell BK153.out 4).trans rfl
                    have hcz39_5 : wr.cell? ⟨gb153, 5, none⟩ = some (.slice A0_5 l0_5.length c0_5) := (blk_cell BK153.out 5).trans rfl
                    have hcz39_6 : wr.cell? ⟨gb153, 6, none⟩ = some (.slice A0_6 l0_6.length c0_6) := (blk_cell BK153.out 6).trans rfl
                    have hfz39_0 := blk_frozen BK153.out 0
                    have hfz39_1 := blk_frozen BK153.out 1
                    have hfz39_2 := blk_frozen BK153.out 2
                    have hfz39_3 := blk_frozen BK153.out 3
                    have hfz39_4 := blk_frozen BK153.out 4
                    have hfz39_5 := blk_frozen BK153.out 5
                    have hfz39_6 := blk_frozen BK153.out 6
                    go_wp2
                    repeat (go_quiet (fail); try go_wp2)
                    go_ret
                    exact ⟨by first | rfl | (simp [errW_none, errW_some] <;> rfl) | (simp [*, errW_none, errW_some] <;> rfl), by repeat (first | (with_reducible first | exact HB.out | apply below_alloc | apply pw_below_drewN | apply below_drew1 | refine below_set ?_ GE153.out) | exact HB.out)⟩

end Go.Proofs.Ytdhkplfkbdldfaa.P
