-- By a program of this session (wip/tools/myprint.py over the kit's printer). Not trusted: Lean checks it.
import Derived.Test.YtdhkplfkbdldfaaP0
import Derived.Test.YtdhkplfkbdldfaaGDRun
namespace Go.Proofs.Ytdhkplfkbdldfaa.P
open Go.RowKit Go.Proofs.YtdhkplfkbdldfaaW.PrintWords Go.Proofs.YtdhkplfkbdldfaaW.PrintLast Go.Proofs.YtdhkplfkbdldfaaW.PrintMore
attribute [local go_sem] max2_int min2_int max_two min_two max_three min_three max_four min_four   -- for this text's walks alone
set_option linter.unusedVariables false
set_option linter.unusedSimpArgs false

/-! ### selfstabref01_SameInts: function 16 -/
def selfstabref01_SameInts.l0 : Nat → List Int → List Int → Int → Option (Bool)
  | 0, _, _, _ => none
  | k + 1, x0, x1, x5 => if x5 < (x0.length : Int) then (if 0 ≤ x5 then (if x5 < (x1.length : Int) then (if (rd x0 x5) = (rd x1 x5) then (selfstabref01_SameInts.l0 k x0 x1 (wrap64 (x5 + 1))) else (some false)) else (none)) else (none)) else (some true)
def selfstabref01_SameInts.f (k : Nat) (l0 : List Int) (l1 : List Int) : Option (Bool) := if (l0.length : Int) = (l1.length : Int) then (selfstabref01_SameInts.l0 k l0 l1 0) else (some false)
theorem selfstabref01_SameInts.mono_l : ∀ k, (∀ y0 y1 y2, LeO (selfstabref01_SameInts.l0 k y0 y1 y2) (selfstabref01_SameInts.l0 (k + 1) y0 y1 y2))
  | 0 => fun _ _ _ r h => by simp [selfstabref01_SameInts.l0] at h
  | k + 1 => by
    have ih0 := selfstabref01_SameInts.mono_l k
    · intro y0 y1 y2
      unfold selfstabref01_SameInts.l0
      repeat' first
      | (with_reducible exact ih0 _ _ _)
      | (with_reducible exact LeO.refl _)
      | (with_reducible exact LeO.none _)
      | (with_reducible refine LeO.ite ?_ ?_)
      | (with_reducible refine LeO.bind ?_ (fun _ => ?_))
      | exact ih0 _ _ _
      | exact LeO.none _
      | refine LeO.ite ?_ ?_
      | refine LeO.bind ?_ (fun _ => ?_)
theorem selfstabref01_SameInts.mono : ∀ a0 a1 k, LeO (selfstabref01_SameInts.f k a0 a1) (selfstabref01_SameInts.f (k + 1) a0 a1) := by
  intro a0 a1 k
  have ih0 := selfstabref01_SameInts.mono_l k
  unfold selfstabref01_SameInts.f
  repeat' first
      | (with_reducible exact ih0 _ _ _)
      | (with_reducible exact LeO.refl _)
      | (with_reducible exact LeO.none _)
      | (with_reducible refine LeO.ite ?_ ?_)
      | (with_reducible refine LeO.bind ?_ (fun _ => ?_))
      | exact ih0 _ _ _
      | exact LeO.none _
      | refine LeO.ite ?_ ?_
      | refine LeO.bind ?_ (fun _ => ?_)
set_option maxHeartbeats 8000000 in
set_option maxRecDepth 100000 in
theorem selfstabref01_SameInts.calls (k : Nat) (A0 : Option Addr) (c0 : Nat) (l0 : List Int) (A1 : Option Addr) (c1 : Nat) (l1 : List Int) (r : Bool) (w : World) (hr0 : Kd.C (Kd.int .i64) w A0 l0.length l0) (hc0 : l0.length ≤ c0) (hr1 : Kd.C (Kd.int .i64) w A1 l1.length l1) (hc1 : l1.length ≤ c1) (h : selfstabref01_SameInts.f k l0 l1 = some r) :
    Calls Try.prog 16 #[.slice A0 l0.length c0, .slice A1 l1.length c1] w fun e w' => e = .returned (.bool r) ∧ Drawn0 w w' := by
  have HR0 := Aside0.mk hr0
  have HC0 := Aside0.mk hc0
  clear hr0 hc0
  have HR1 := Aside0.mk hr1
  have HC1 := Aside0.mk hc1
  clear hr1 hc1
  have H : (if (l0.length : Int) = (l1.length : Int) then (selfstabref01_SameInts.l0 k l0 l1 0) else (some false)) = some r := h
  clear h
  by_cases c3 : (l0.length : Int) = (l1.length : Int)
  · rw [if_pos c3] at H
    have c3b0 : ((l0.length : Int) == (l1.length : Int)) = true := beq_iff_eq.mpr c3
    have c3b1 : ((l0.length : Int) != (l1.length : Int)) = false := bne_eq_false_iff_eq.mpr c3
    have c3b2 : (l0.length == l1.length) = true := by first | simpa using c3 | (simp at c3 ⊢; omega)
    clear c3
    have H' := Aside0.mk H
    clear H
    go_enter Try.func16, Try.ntmps16
    go_wp2
    repeat (go_quiet (fail); try go_wp2)
    go_loopg [5] k (fun kq v5 w' => ∃ (x5_1 : Int), v5 = .int .i64 x5_1 ∧ Aside0 (selfstabref01_SameInts.l0 kq l0 l1 x5_1 = some r) ∧ Aside0 (kq ≤ k) ∧ Drawn0 w w')
    case atStart => exact ⟨(0), (by first | rfl | (simp; done) | (simp [*]; done)), H', ⟨Nat.le_refl _⟩, by repeat (first | exact Drawn0.refl _ | apply Drawn0.step)⟩
    case round =>
      clear H'
      try clear c1
      try clear p2
      try clear c3
      try clear c3b0
      try clear c3b1
      try clear c3b2
      obtain ⟨x5_1, rfl, HA, HK1, ⟨m1, rfl⟩⟩ := hrel
      cases gk with
      | zero => exact absurd HA.out (by simp [selfstabref01_SameInts.l0])
      | succ k1 =>
        have H := HA.out
        clear HA
        simp only [selfstabref01_SameInts.l0] at H
        by_cases c4 : x5_1 < (l0.length : Int)
        · rw [if_pos c4] at H
          have c4b0 : decide (x5_1 < (l0.length : Int)) = true := decide_eq_true c4
          clear c4
          by_cases c5 : 0 ≤ x5_1
          · rw [if_pos c5] at H
            have c5b0 : decide (0 ≤ x5_1) = true := decide_eq_true c5
            clear c5
            by_cases c6 : x5_1 < (l1.length : Int)
            · rw [if_pos c6] at H
              have c6b0 : decide (x5_1 < (l1.length : Int)) = true := decide_eq_true c6
              clear c6
              by_cases c7 : (rd l0 x5_1) = (rd l1 x5_1)
              · rw [if_pos c7] at H
                have c7b0 : ((rd l0 x5_1) == (rd l1 x5_1)) = true := beq_iff_eq.mpr c7
                have c7b1 : ((rd l0 x5_1) != (rd l1 x5_1)) = false := bne_eq_false_iff_eq.mpr c7
                clear c7
                have H' := Aside0.mk H
                clear H
                have p104 : 0 ≤ (x5_1 : Int) := of_decide_eq_true (by first | (with_reducible assumption) | assumption)
                have q104 : x5_1 < (l0.length : Int) := of_decide_eq_true (by first | (with_reducible assumption) | assumption)
                obtain ⟨ad104, e104, hx104_0⟩ := Kd.at_int HR0.out x5_1 p104 q104
                cases e104
                replace p104 := eq_true p104
                replace q104 := eq_true q104
                have p105 : 0 ≤ (x5_1 : Int) := of_decide_eq_true (by first | (with_reducible assumption) | assumption)
                have q105 : x5_1 < (l1.length : Int) := of_decide_eq_true (by first | (with_reducible assumption) | assumption)
                obtain ⟨ad105, e105, hx105_0⟩ := Kd.at_int HR1.out x5_1 p105 q105
                cases e105
                replace p105 := eq_true p105
                replace q105 := eq_true q105
                go_wp2
                repeat (go_quiet (fail); try go_wp2)
                go_roundg k1
                case measure => have := HK1.out; omega
                case rel => exact ⟨(wrap64 (x5_1 + 1)), (by first | rfl | (simp; done) | (simp [*]; done)), H', ⟨by have := HK1.out; omega⟩, by repeat (first | exact Drawn0.refl _ | apply Drawn0.step)⟩
              · rw [if_neg c7] at H
                have c7b0 : ((rd l0 x5_1) == (rd l1 x5_1)) = false := beq_eq_false_iff_ne.mpr c7
                have c7b1 : ((rd l0 x5_1) != (rd l1 x5_1)) = true := bne_iff_ne.mpr c7
                obtain rfl := Option.some.inj H
                have p104 : 0 ≤ (x5_1 : Int) := of_decide_eq_true (by first | (with_reducible assumption) | assumption)
                have q104 : x5_1 < (l0.length : Int) := of_decide_eq_true (by first | (with_reducible assumption) | assumption)
                obtain ⟨ad104, e104, hx104_0⟩ := Kd.at_int HR0.out x5_1 p104 q104
                cases e104
                replace p104 := eq_true p104
                replace q104 := eq_true q104
                have p105 : 0 ≤ (x5_1 : Int) := of_decide_eq_true (by first | (with_reducible assumption) | assumption)
                have q105 : x5_1 < (l1.length : Int) := of_decide_eq_true (by first | (with_reducible assumption) | assumption)
                obtain ⟨ad105, e105, hx105_0⟩ := Kd.at_int HR1.out x5_1 p105 q105
                cases e105
                replace p105 := eq_true p105
                replace q105 := eq_true q105
                go_wp2
                repeat (go_quiet (fail); try go_wp2)
                go_ret
                exact ⟨by first | rfl | (simp; done) | (simp [*]; done), by repeat (first | exact Drawn0.refl _ | apply Drawn0.step)⟩
            · rw [if_neg c6] at H
              exact absurd H (by simp)
          · rw [if_neg c5] at H
            exact absurd H (by simp)
        · rw [if_neg c4] at H
          have c4b0 : decide (x5_1 < (l0.length : Int)) = false := decide_eq_false c4
          clear c4
          obtain rfl := Option.some.inj H
          go_wp2
          repeat (go_quiet (fail); try go_wp2)
          go_ret
          exact ⟨by first | rfl | (simp; done) | (simp [*]; done), by repeat (first | exact Drawn0.refl _ | apply Drawn0.step)⟩
  · rw [if_neg c3] at H
    have c3b0 : ((l0.length : Int) == (l1.length : Int)) = false := beq_eq_false_iff_ne.mpr c3
    have c3b1 : ((l0.length : Int) != (l1.length : Int)) = true := bne_iff_ne.mpr c3
    have c3b2 : (l0.length == l1.length) = false := by first | simpa using c3 | (simp at c3 ⊢; omega)
    obtain rfl := Option.some.inj H
    go_enter Try.func16, Try.ntmps16
    go_wp2
    repeat (go_quiet (fail); try go_wp2)
    go_ret
    exact ⟨by first | rfl | (simp; done) | (simp [*]; done), by repeat (first | exact Drawn0.refl _ | apply Drawn0.step)⟩

/-! ### selfstablaw42_known: function 9 -/
def selfstablaw42_known.f (k : Nat)  : Option (Bool) := (datalink_Run.f 1 4 0 7 0 ([] : List (S46)) ([] : List Int) (([(⟨1, 0⟩ : S40), (⟨2, 0⟩ : S40), (⟨3, 0⟩ : S40), (⟨1, 0⟩ : S40), (⟨2, 0⟩ : S40)] : List (S40)))).bind fun bt109 => (if bt109.2.2.1 = 1 then (if bt109.2.2.2.1 = 8 then (if bt109.2.2.2.2.1 = 1 then ((selfstabref01_SameInts.f k bt109.2.2.2.2.2.2.2 (([8] : List Int))).bind fun t127 => (if t127 = true then (some ((bt109.2.2.2.2.2.2.1.length : Int) == 1)) else (none))) else (none)) else (none)) else (none))
theorem selfstablaw42_known.mono : ∀ k, LeO (selfstablaw42_known.f k ) (selfstablaw42_known.f (k + 1) ) := by
  intro  k
  unfold selfstablaw42_known.f
  repeat' first
      | (with_reducible exact selfstabref01_SameInts.mono _ _ _)
      | (with_reducible exact LeO.refl _)
      | (with_reducible exact LeO.none _)
      | (with_reducible refine LeO.ite ?_ ?_)
      | (with_reducible refine LeO.bind ?_ (fun _ => ?_))
      | exact selfstabref01_SameInts.mono _ _ _
      | exact LeO.none _
      | refine LeO.ite ?_ ?_
      | refine LeO.bind ?_ (fun _ => ?_)
set_option maxHeartbeats 8000000 in
set_option maxRecDepth 100000 in
theorem selfstablaw42_known.calls (k : Nat)  (r : Bool) (w : World) (h : selfstablaw42_known.f k  = some r) :
    Calls Try.prog 9 #[] w fun e w' => e = .returned (.bool r) ∧ Below w.heap.size w w' := by
  have hu29 := Try.underlying29
  have hu40 := Try.underlying40
  have HB := Aside0.mk (Below.refl w.heap.size w)
  have H : ((datalink_Run.f 1 4 0 7 0 ([] : List (S46)) ([] : List Int) (([(⟨1, 0⟩ : S40), (⟨2, 0⟩ : S40), (⟨3, 0⟩ : S40), (⟨1, 0⟩ : S40), (⟨2, 0⟩ : S40)] : List (S40)))).bind fun bt109 => (if bt109.2.2.1 = 1 then (if bt109.2.2.2.1 = 8 then (if bt109.2.2.2.2.1 = 1 then ((selfstabref01_SameInts.f k bt109.2.2.2.2.2.2.2 (([8] : List Int))).bind fun t127 => (if t127 = true then (some ((bt109.2.2.2.2.2.2.1.length : Int) == 1)) else (none))) else (none)) else (none)) else (none))) = some r := h
  clear h
  obtain ⟨y106, hy106⟩ : ∃ y_ : List (S40), y_ = (([(⟨1, 0⟩ : S40), (⟨2, 0⟩ : S40), (⟨3, 0⟩ : S40), (⟨1, 0⟩ : S40), (⟨2, 0⟩ : S40)] : List (S40))) := ⟨_, rfl⟩
  replace H : ((datalink_Run.f 1 4 0 7 0 ([] : List (S46)) ([] : List Int) y106).bind fun bt109 => (if bt109.2.2.1 = 1 then (if bt109.2.2.2.1 = 8 then (if bt109.2.2.2.2.1 = 1 then ((selfstabref01_SameInts.f k bt109.2.2.2.2.2.2.2 (([8] : List Int))).bind fun t127 => (if t127 = true then (some ((bt109.2.2.2.2.2.2.1.length : Int) == 1)) else (none))) else (none)) else (none)) else (none))) = some r := by first | (rw [hy106]; with_reducible exact H) | (have H2_ := (Option.bind_some _ _).symm.trans H; rw [hy106]; with_reducible exact H2_) | (have H2_ := (Option.bind_some _ _).symm.trans H; with_reducible exact H2_) | with_reducible exact H | (rw [hy106]; exact H) | exact H
  have Ny106 := Aside0.mk hy106
  clear hy106
  replace H := Option.bind_eq_some_iff.mp H
  obtain ⟨⟨t109, t110, t111, t112, t113, t114, t117, t120⟩, A10, H⟩ := H
  replace H : (if t111 = 1 then (if t112 = 8 then (if t113 = 1 then ((selfstabref01_SameInts.f k t120 (([8] : List Int))).bind fun t127 => (if t127 = true then (some ((t117.length : Int) == 1)) else (none))) else (none)) else (none)) else (none)) = some r := H
  have A1 := Aside0.mk A10
  clear A10
  by_cases c2 : t111 = 1
  · rw [if_pos c2] at H
    have c2b0 : (t111 == 1) = true := beq_iff_eq.mpr c2
    have c2b1 : (t111 != 1) = false := bne_eq_false_iff_eq.mpr c2
    clear c2
    by_cases c3 : t112 = 8
    · rw [if_pos c3] at H
      have c3b0 : (t112 == 8) = true := beq_iff_eq.mpr c3
      have c3b1 : (t112 != 8) = false := bne_eq_false_iff_eq.mpr c3
      clear c3
      by_cases c4 : t113 = 1
      · rw [if_pos c4] at H
        have c4b0 : (t113 == 1) = true := beq_iff_eq.mpr c4
        have c4b1 : (t113 != 1) = false := bne_eq_false_iff_eq.mpr c4
        clear c4
        obtain ⟨y124, hy124⟩ : ∃ y_ : List Int, y_ = (([8] : List Int)) := ⟨_, rfl⟩
        replace H : ((selfstabref01_SameInts.f k t120 y124).bind fun t127 => (if t127 = true then (some ((t117.length : Int) == 1)) else (none))) = some r := by first | (rw [hy124]; with_reducible exact H) | (have H2_ := (Option.bind_some _ _).symm.trans H; rw [hy124]; with_reducible exact H2_) | (have H2_ := (Option.bind_some _ _).symm.trans H; with_reducible exact H2_) | with_reducible exact H | (rw [hy124]; exact H) | exact H
        have Ny124 := Aside0.mk hy124
        clear hy124
        replace H := Option.bind_eq_some_iff.mp H
        obtain ⟨t127, A50, H⟩ := H
        replace H : (if t127 = true then (some ((t117.length : Int) == 1)) else (none)) = some r := H
        have A5 := Aside0.mk A50
        clear A50
        by_cases c6 : t127 = true
        · subst c6
          have H1 : (some ((t117.length : Int) == 1)) = some r := by rw [if_pos rfl] at H; exact H
          clear H
          have H := H1
          clear H1
          obtain rfl := Option.some.inj H
          go_enter Try.func9, Try.ntmps9
          go_wp2_with (first | ((with_reducible refine gate_dst (N := 10) rfl ?_); (try (refine gate_guard (by rfl) ?_; dsimp only)); refine Kd.R_lit k40 _ 40 ?hg (N := 10) ?hd (xs := ([(⟨1, 0⟩ : S40), (⟨2, 0⟩ : S40), (⟨3, 0⟩ : S40), (⟨1, 0⟩ : S40), (⟨2, 0⟩ : S40)] : List (S40))) (inner := [.int .i64 1, .int .i64 0, .int .i64 2, .int .i64 0, .int .i64 3, .int .i64 0, .int .i64 1, .int .i64 0, .int .i64 2, .int .i64 0]) (ok := fun _ => True) (okp := fun _ => True) ?hr ?hp (fun _ hk => hk) trivial (Below.refl _ _) (Nat.le_refl _) (by simp) ?_; (case hd => rfl); (case hg => rfl); (case hr => first | (go_simp; done) | (go_simp; rfl)); (case hp => exact (Reps.c2 (show Kd.M k40 _ _ _ (⟨1, 0⟩ : S40) [.int .i64 1, .int .i64 0] from (k40_mkM _ _ _ (⟨1, 0⟩ : S40) )) (Reps.c2 (show Kd.M k40 _ _ _ (⟨2, 0⟩ : S40) [.int .i64 2, .int .i64 0] from (k40_mkM _ _ _ (⟨2, 0⟩ : S40) )) (Reps.c2 (show Kd.M k40 _ _ _ (⟨3, 0⟩ : S40) [.int .i64 3, .int .i64 0] from (k40_mkM _ _ _ (⟨3, 0⟩ : S40) )) (Reps.c2 (show Kd.M k40 _ _ _ (⟨1, 0⟩ : S40) [.int .i64 1, .int .i64 0] from (k40_mkM _ _ _ (⟨1, 0⟩ : S40) )) (Reps.c2 (show Kd.M k40 _ _ _ (⟨2, 0⟩ : S40) [.int .i64 2, .int .i64 0] from (k40_mkM _ _ _ (⟨2, 0⟩ : S40) )) (Reps.none _ _))))))); intro v107 w7 ho8 hb hg_ hnew_; clear hg_ hnew_; (first | rw [← Ny106.out] at ho8 | (simp only [Int.reduceToNat] at ho8; rw [← Ny106.out] at ho8)); have n0_ := Aside0.mk (Kd.R_lower ho8 (below_size (by repeat (first | (with_reducible first | exact HB.out | apply below_alloc | apply pw_below_drewN | apply below_drew1) | exact HB.out)))); have n1_ := Aside0.mk (below_step (by repeat (first | (with_reducible first | exact HB.out | apply below_alloc | apply pw_below_drewN | apply below_drew1) | exact HB.out)) hb); clear HB; have HO108 := n0_; have HB := n1_; clear n0_ n1_; clear hb ho8; obtain ⟨Ao9, co9, eo9⟩ := Kd.R_slice HO108.out; subst eo9) | ((with_reducible refine gate_callee (f := 11) rfl ?_); refine goesL_ (some 11) rfl rfl Try.func11 (by kernel_rfl) rfl #[.agg #[.int .i64 1, .int .i64 4, .int .i64 0, .int .i64 7, .int .i64 0, .slice none 0 0, .slice none 0 0], .slice Ao9 y106.length co9] rfl (by (try simp only [List.map_toArray, List.map_cons, List.map_nil]); first | done | rfl | (simp only [List.length_drop, List.length_take]; rfl)) ?_; (refine (datalink_Run.calls 1 4 0 7 0 _ _ ([] : List (S46)) _ _ ([] : List Int) _ _ y106 t109 t110 t111 t112 t113 t114 t117 t120 _ ?side1 ?side2 ?side3 ?side4 ?side5 ?side6 A1.out).mono ?_); (case side1 => exact Kd.C_nil _ _); (case side2 => exact Nat.le_refl _); (case side3 => exact Kd.C_nil _ _); (case side4 => exact Nat.le_refl _); (case side5 => repeat (first | exact (Kd.R_reads' HO108.out).2.2 | (with_reducible refine Kd.C_alloc ?_ _) | (with_reducible refine Kd.C_drewN ?_ _) | (with_reducible refine Kd.C_drew ?_))); (case side6 => exact (Kd.R_reads' HO108.out).2.1); rintro e w10 ⟨v115, v118, v121, rfl, ho0, ho1, ho2, hb⟩; refine ⟨_, rfl, ?_⟩; have n0_ := Aside0.mk (Kd.R_below (by (with_reducible repeat (first | apply Kd.R_alloc | apply Kd.R_drewN | apply Kd.R_drew)); exact HO108.out) hb); have n1_ := Aside0.mk (Kd.R_lower ho0 (below_size (by repeat (first | (with_reducible first | exact HB.out | apply below_alloc | apply pw_below_drewN | apply below_drew1) | exact HB.out)))); have n2_ := Aside0.mk (Kd.R_lower ho1 (below_size (by repeat (first | (with_reducible first | exact HB.out | apply below_alloc | apply pw_below_drewN | apply below_drew1) | exact HB.out)))); have n3_ := Aside0.mk (Kd.R_lower ho2 (below_size (by repeat (first | (with_reducible first | exact HB.out | apply below_alloc | apply pw_below_drewN | apply below_drew1) | exact HB.out)))); have n4_ := Aside0.mk (below_step (by repeat (first | (with_reducible first | exact HB.out | apply below_alloc | apply pw_below_drewN | apply below_drew1) | exact HB.out)) hb); clear HO108; clear HB; have HO108 := n0_; have HO116 := n1_; have HO119 := n2_; have HO122 := n3_; have HB := n4_; clear n0_ n1_ n2_ n3_ n4_; (try clear hb); (try clear hb2); (try clear hk); (try clear hi); (try clear ho0); (try clear ho1); (try clear ho2)) | ((with_reducible refine gate_dst (N := 1) rfl ?_); (try (refine gate_guard (by rfl) ?_; dsimp only)); refine box_event ?hg (N := 1) ?hd (cs := #[.int .i64 0, .int .i64 0, .int .i64 0, .int .i64 0, .int .i64 0, .slice none 0 0, .slice none 0 0]) (t := 29) ?hr ?_; (case hd => rfl); (case hg => rfl); (case hr => first | (go_simp; done) | (go_simp; rfl)); intro gb123 hg w11 hbox hb; have n0_ := Aside0.mk (Kd.R_below (by (with_reducible repeat (first | apply Kd.R_alloc | apply Kd.R_drewN | apply Kd.R_drew)); exact HO108.out) hb); have n1_ := Aside0.mk (Kd.R_below (by (with_reducible repeat (first | apply Kd.R_alloc | apply Kd.R_drewN | apply Kd.R_drew)); exact HO116.out) hb); have n2_ := Aside0.mk (Kd.R_below (by (with_reducible repeat (first | apply Kd.R_alloc | apply Kd.R_drewN | apply Kd.R_drew)); exact HO119.out) hb); have n3_ := Aside0.mk (Kd.R_below (by (with_reducible repeat (first | apply Kd.R_alloc | apply Kd.R_drewN | apply Kd.R_drew)); exact HO122.out) hb); have n4_ := Aside0.mk (below_step (by repeat (first | (with_reducible first | exact HB.out | apply below_alloc | apply pw_below_drewN | apply below_drew1) | exact HB.out)) hb); have n5_ := Aside0.mk (hbox); have n6_ := Aside0.mk ((by rw [hg]; exact (below_size (by repeat (first | (with_reducible first | exact HB.out | apply below_alloc | apply pw_below_drewN | apply below_drew1) | exact HB.out))) : w.heap.size ≤ gb123)); have n7_ := Aside0.mk ((by rw [hg]; exact (below_size (by repeat (first | (with_reducible first | exact HB.out | apply below_alloc | apply pw_below_drewN | apply below_drew1) | exact HB.out))) : w.heap.size ≤ gb123)); clear HO108; clear HO116; clear HO119; clear HO122; clear HB; have HO108 := n0_; have HO116 := n1_; have HO119 := n2_; have HO122 := n3_; have HB := n4_; have BK123 := n5_; have GW123 := n6_; have GE123 := n7_; clear n0_ n1_ n2_ n3_ n4_ n5_ n6_ n7_; clear hb hbox hg; have hcz12_0 : w11.cell? ⟨gb123, 0, none⟩ = some (.int .i64 0) := (blk_cell BK123.out 0).trans rfl; have hcz12_1 : w11.cell? ⟨gb123, 1, none⟩ = some (.int .i64 0) := (blk_cell BK123.out 1).trans rfl; have hcz12_2 : w11.cell? ⟨gb123, 2, none⟩ = some (.int .i64 0) := (blk_cell BK123.out 2).trans rfl; have hcz12_3 : w11.cell? ⟨gb123, 3, none⟩ = some (.int .i64 0) := (blk_cell BK123.out 3).trans rfl; have hcz12_4 : w11.cell? ⟨gb123, 4, none⟩ = some (.int .i64 0) := (blk_cell BK123.out 4).trans rfl; have hcz12_5 : w11.cell? ⟨gb123, 5, none⟩ = some (.slice none 0 0) := (blk_cell BK123.out 5).trans rfl; have hcz12_6 : w11.cell? ⟨gb123, 6, none⟩ = some (.slice none 0 0) := (blk_cell BK123.out 6).trans rfl; have hfz12_0 := blk_frozen BK123.out 0; have hfz12_1 := blk_frozen BK123.out 1; have hfz12_2 := blk_frozen BK123.out 2; have hfz12_3 := blk_frozen BK123.out 3; have hfz12_4 := blk_frozen BK123.out 4; have hfz12_5 := blk_frozen BK123.out 5; have hfz12_6 := blk_frozen BK123.out 6; obtain ⟨Ao13, co13, eo13⟩ := Kd.R_slice HO116.out; subst eo13; obtain ⟨Ao14, co14, eo14⟩ := Kd.R_slice HO119.out; subst eo14) | ((with_reducible refine gate_dst (N := 29) rfl ?_); (try (refine gate_guard (by rfl) ?_; dsimp only)); refine Kd.R_lit (Kd.int .i64) _ 3 ?hg (N := 29) ?hd (xs := ([8] : List Int)) (inner := [.int .i64 8]) (ok := fun _ => True) (okp := fun _ => True) ?hr ?hp (fun _ hk => hk) trivial (Below.refl _ _) (Nat.le_refl _) (by simp) ?_; (case hd => rfl); (case hg => rfl); (case hr => first | (go_simp; done) | (go_simp; rfl)); (case hp => exact (Reps.one (show Kd.M (Kd.int .i64) _ _ _ 8 [.int .i64 8] from rfl) (Reps.none _ _))); intro v125 w15 ho16 hb hg_ hnew_; clear hg_ hnew_; (first | rw [← Ny124.out] at ho16 | (simp only [Int.reduceToNat] at ho16; rw [← Ny124.out] at ho16)); have n0_ := Aside0.mk (Kd.R_below (by (with_reducible repeat (first | apply Kd.R_alloc | apply Kd.R_drewN | apply Kd.R_drew)); exact (Kd.R_mono (Kd.R_far (p := ⟨gb123, 6, none⟩) (Kd.R_far (p := ⟨gb123, 5, none⟩) (Kd.R_far (p := ⟨gb123, 4, none⟩) (Kd.R_far (p := ⟨gb123, 3, none⟩) (Kd.R_far (p := ⟨gb123, 2, none⟩) (Kd.R_far (p := ⟨gb123, 1, none⟩) (Kd.R_far (p := ⟨gb123, 0, none⟩) (Kd.R_types HO108.out BK123.out (by decide)) (fun _ hk => hk.2) (.int .i64 t109)) (fun _ hk => hk.2) (.int .i64 t110)) (fun _ hk => hk.2) (.int .i64 t111)) (fun _ hk => hk.2) (.int .i64 t112)) (fun _ hk => hk.2) (.int .i64 t113)) (fun _ hk => hk.2) (.slice Ao13 t114.length co13)) (fun _ hk => hk.2) (.slice Ao14 t117.length co14)) (fun _ h_ => h_.1))) hb); have n1_ := Aside0.mk (Kd.R_below (by (with_reducible repeat (first | apply Kd.R_alloc | apply Kd.R_drewN | apply Kd.R_drew)); exact (Kd.R_mono (Kd.R_far (p := ⟨gb123, 6, none⟩) (Kd.R_far (p := ⟨gb123, 5, none⟩) (Kd.R_far (p := ⟨gb123, 4, none⟩) (Kd.R_far (p := ⟨gb123, 3, none⟩) (Kd.R_far (p := ⟨gb123, 2, none⟩) (Kd.R_far (p := ⟨gb123, 1, none⟩) (Kd.R_far (p := ⟨gb123, 0, none⟩) (Kd.R_types HO116.out BK123.out (by decide)) (fun _ hk => hk.2) (.int .i64 t109)) (fun _ hk => hk.2) (.int .i64 t110)) (fun _ hk => hk.2) (.int .i64 t111)) (fun _ hk => hk.2) (.int .i64 t112)) (fun _ hk => hk.2) (.int .i64 t113)) (fun _ hk => hk.2) (.slice Ao13 t114.length co13)) (fun _ hk => hk.2) (.slice Ao14 t117.length co14)) (fun _ h_ => h_.1))) hb); have n2_ := Aside0.mk (Kd.R_elder' (by (with_reducible repeat (first | apply Kd.R_alloc | apply Kd.R_drewN | apply Kd.R_drew)); exact (Kd.R_mono (Kd.R_far (p := ⟨gb123, 6, none⟩) (Kd.R_far (p := ⟨gb123, 5, none⟩) (Kd.R_far (p := ⟨gb123, 4, none⟩) (Kd.R_far (p := ⟨gb123, 3, none⟩) (Kd.R_far (p := ⟨gb123, 2, none⟩) (Kd.R_far (p := ⟨gb123, 1, none⟩) (Kd.R_far (p := ⟨gb123, 0, none⟩) (Kd.R_types HO119.out BK123.out (by decide)) (fun _ hk => hk.2) (.int .i64 t109)) (fun _ hk => hk.2) (.int .i64 t110)) (fun _ hk => hk.2) (.int .i64 t111)) (fun _ hk => hk.2) (.int .i64 t112)) (fun _ hk => hk.2) (.int .i64 t113)) (fun _ hk => hk.2) (.slice Ao13 t114.length co13)) (fun _ hk => hk.2) (.slice Ao14 t117.length co14)) (fun _ h_ => h_.1))) (Kd.R_base ho16) hb); have n3_ := Aside0.mk (Kd.R_elder' (by (with_reducible repeat (first | apply Kd.R_alloc | apply Kd.R_drewN | apply Kd.R_drew)); exact (Kd.R_mono (Kd.R_far (p := ⟨gb123, 6, none⟩) (Kd.R_far (p := ⟨gb123, 5, none⟩) (Kd.R_far (p := ⟨gb123, 4, none⟩) (Kd.R_far (p := ⟨gb123, 3, none⟩) (Kd.R_far (p := ⟨gb123, 2, none⟩) (Kd.R_far (p := ⟨gb123, 1, none⟩) (Kd.R_far (p := ⟨gb123, 0, none⟩) (Kd.R_types HO122.out BK123.out (by decide)) (fun _ hk => hk.2) (.int .i64 t109)) (fun _ hk => hk.2) (.int .i64 t110)) (fun _ hk => hk.2) (.int .i64 t111)) (fun _ hk => hk.2) (.int .i64 t112)) (fun _ hk => hk.2) (.int .i64 t113)) (fun _ hk => hk.2) (.slice Ao13 t114.length co13)) (fun _ hk => hk.2) (.slice Ao14 t117.length co14)) (fun _ h_ => h_.1))) (Kd.R_base ho16) hb); have n4_ := Aside0.mk (Kd.R_lower (Kd.R_new' (Kd.R_new' ho16 (Kd.R_lt (by (with_reducible repeat (first | apply Kd.R_alloc | apply Kd.R_drewN | apply Kd.R_drew)); exact (Kd.R_mono (Kd.R_far (p := ⟨gb123, 6, none⟩) (Kd.R_far (p := ⟨gb123, 5, none⟩) (Kd.R_far (p := ⟨gb123, 4, none⟩) (Kd.R_far (p := ⟨gb123, 3, none⟩) (Kd.R_far (p := ⟨gb123, 2, none⟩) (Kd.R_far (p := ⟨gb123, 1, none⟩) (Kd.R_far (p := ⟨gb123, 0, none⟩) (Kd.R_types HO119.out BK123.out (by decide)) (fun _ hk => hk.2) (.int .i64 t109)) (fun _ hk => hk.2) (.int .i64 t110)) (fun _ hk => hk.2) (.int .i64 t111)) (fun _ hk => hk.2) (.int .i64 t112)) (fun _ hk => hk.2) (.int .i64 t113)) (fun _ hk => hk.2) (.slice Ao13 t114.length co13)) (fun _ hk => hk.2) (.slice Ao14 t117.length co14)) (fun _ h_ => h_.1))))) (Kd.R_lt (by (with_reducible repeat (first | apply Kd.R_alloc | apply Kd.R_drewN | apply Kd.R_drew)); exact (Kd.R_mono (Kd.R_far (p := ⟨gb123, 6, none⟩) (Kd.R_far (p := ⟨gb123, 5, none⟩) (Kd.R_far (p := ⟨gb123, 4, none⟩) (Kd.R_far (p := ⟨gb123, 3, none⟩) (Kd.R_far (p := ⟨gb123, 2, none⟩) (Kd.R_far (p := ⟨gb123, 1, none⟩) (Kd.R_far (p := ⟨gb123, 0, none⟩) (Kd.R_types HO122.out BK123.out (by decide)) (fun _ hk => hk.2) (.int .i64 t109)) (fun _ hk => hk.2) (.int .i64 t110)) (fun _ hk => hk.2) (.int .i64 t111)) (fun _ hk => hk.2) (.int .i64 t112)) (fun _ hk => hk.2) (.int .i64 t113)) (fun _ hk => hk.2) (.slice Ao13 t114.length co13)) (fun _ hk => hk.2) (.slice Ao14 t117.length co14)) (fun _ h_ => h_.1))))) (below_size (by repeat (first | (with_reducible first | exact HB.out | apply below_alloc | apply pw_below_drewN | apply below_drew1 | refine below_set ?_ GE123.out) | exact HB.out)))); have n5_ := Aside0.mk (blk_below (g := gb123) (o := .cells #[.int .i64 t109, .int .i64 t110, .int .i64 t111, .int .i64 t112, .int .i64 t113, .slice Ao13 t114.length co13, .slice Ao14 t117.length co14] 29 (0, 0)) (by (with_reducible repeat (first | refine blk_drewN ?_ _ | refine blk_drew ?_ | refine blk_alloc ?_ _)); refine blk_put (cs := #[.int .i64 t109, .int .i64 t110, .int .i64 t111, .int .i64 t112, .int .i64 t113, .slice Ao13 t114.length co13, .slice none 0 0]) ?_ 6 _ rfl; (with_reducible repeat (first | refine blk_drewN ?_ _ | refine blk_drew ?_ | refine blk_alloc ?_ _)); refine blk_put (cs := #[.int .i64 t109, .int .i64 t110, .int .i64 t111, .int .i64 t112, .int .i64 t113, .slice none 0 0, .slice none 0 0]) ?_ 5 _ rfl; (with_reducible repeat (first | refine blk_drewN ?_ _ | refine blk_drew ?_ | refine blk_alloc ?_ _)); refine blk_put (cs := #[.int .i64 t109, .int .i64 t110, .int .i64 t111, .int .i64 t112, .int .i64 0, .slice none 0 0, .slice none 0 0]) ?_ 4 _ rfl; (with_reducible repeat (first | refine blk_drewN ?_ _ | refine blk_drew ?_ | refine blk_alloc ?_ _)); refine blk_put (cs := #[.int .i64 t109, .int .i64 t110, .int .i64 t111, .int .i64 0, .int .i64 0, .slice none 0 0, .slice none 0 0]) ?_ 3 _ rfl; (with_reducible repeat (first | refine blk_drewN ?_ _ | refine blk_drew ?_ | refine blk_alloc ?_ _)); refine blk_put (cs := #[.int .i64 t109, .int .i64 t110, .int .i64 0, .int .i64 0, .int .i64 0, .slice none 0 0, .slice none 0 0]) ?_ 2 _ rfl; (with_reducible repeat (first | refine blk_drewN ?_ _ | refine blk_drew ?_ | refine blk_alloc ?_ _)); refine blk_put (cs := #[.int .i64 t109, .int .i64 0, .int .i64 0, .int .i64 0, .int .i64 0, .slice none 0 0, .slice none 0 0]) ?_ 1 _ rfl; (with_reducible repeat (first | refine blk_drewN ?_ _ | refine blk_drew ?_ | refine blk_alloc ?_ _)); refine blk_put (cs := #[.int .i64 0, .int .i64 0, .int .i64 0, .int .i64 0, .int .i64 0, .slice none 0 0, .slice none 0 0]) ?_ 0 _ rfl; (with_reducible repeat (first | refine blk_drewN ?_ _ | refine blk_drew ?_ | refine blk_alloc ?_ _)); exact BK123.out) hb); have n6_ := Aside0.mk (below_step (by repeat (first | (with_reducible first | exact HB.out | apply below_alloc | apply pw_below_drewN | apply below_drew1 | refine below_set ?_ GE123.out) | exact HB.out)) hb); clear HO108; clear HO116; clear HO119; clear HO122; clear BK123; clear HB; have HO108 := n0_; have HO116 := n1_; have HO119 := n2_; have HO122 := n3_; have HO126 := n4_; have BK123 := n5_; have HB := n6_; clear n0_ n1_ n2_ n3_ n4_ n5_ n6_; clear hb ho16; obtain ⟨Ao17, co17, eo17⟩ := Kd.R_slice HO122.out; subst eo17; obtain ⟨Ao18, co18, eo18⟩ := Kd.R_slice HO126.out; subst eo18) | (go_at_call 16; (with_reducible refine (selfstabref01_SameInts.calls k _ _ t120 _ _ y124 true _ ?side1 ?side2 ?side3 ?side4 A5.out).mono ?_); (case side1 => repeat (first | exact (Kd.R_reads' HO122.out).2.2 | (with_reducible refine Kd.C_alloc ?_ _) | (with_reducible refine Kd.C_drewN ?_ _) | (with_reducible refine Kd.C_drew ?_))); (case side2 => exact (Kd.R_reads' HO122.out).2.1); (case side3 => repeat (first | exact (Kd.R_reads' HO126.out).2.2 | (with_reducible refine Kd.C_alloc ?_ _) | (with_reducible refine Kd.C_drewN ?_ _) | (with_reducible refine Kd.C_drew ?_))); (case side4 => exact (Kd.R_reads' HO126.out).2.1); rintro e w' ⟨rfl, ⟨nd, rfl⟩⟩; have hcz19_0 : w15.cell? ⟨gb123, 0, none⟩ = some (.int .i64 t109) := (blk_cell BK123.out 0).trans rfl; have hcz19_1 : w15.cell? ⟨gb123, 1, none⟩ = some (.int .i64 t110) := (blk_cell BK123.out 1).trans rfl; have hcz19_2 : w15.cell? ⟨gb123, 2, none⟩ = some (.int .i64 t111) := (blk_cell BK123.out 2).trans rfl; have hcz19_3 : w15.cell? ⟨gb123, 3, none⟩ = some (.int .i64 t112) := (blk_cell BK123.out 3).trans rfl; have hcz19_4 : w15.cell? ⟨gb123, 4, none⟩ = some (.int .i64 t113) := (blk_cell BK123.out 4).trans rfl; have hcz19_5 : w15.cell? ⟨gb123, 5, none⟩ = some (.slice Ao13 t114.length co13) := (blk_cell BK123.out 5).trans rfl; have hcz19_6 : w15.cell? ⟨gb123, 6, none⟩ = some (.slice Ao14 t117.length co14) := (blk_cell BK123.out 6).trans rfl; have hfz19_0 := blk_frozen BK123.out 0; have hfz19_1 := blk_frozen BK123.out 1; have hfz19_2 := blk_frozen BK123.out 2; have hfz19_3 := blk_frozen BK123.out 3; have hfz19_4 := blk_frozen BK123.out 4; have hfz19_5 := blk_frozen BK123.out 5; have hfz19_6 := blk_frozen BK123.out 6))
          go_ret
          exact ⟨by first | rfl | (simp [errW_none, errW_some] <;> rfl) | (simp [*, errW_none, errW_some] <;> rfl), by repeat (first | (with_reducible first | exact HB.out | apply below_alloc | apply pw_below_drewN | apply below_drew1 | refine below_set ?_ GE123.out) | exact HB.out)⟩
        · replace c6 := Bool.eq_false_iff.mpr c6
          subst c6
          have H1 : (none) = some r := by rw [if_neg (show ¬ (false = true) by decide)] at H; exact H
          clear H
          have H := H1
          clear H1
          exact absurd H (by simp)
      · rw [if_neg c4] at H
        exact absurd H (by simp)
    · rw [if_neg c3] at H
      exact absurd H (by simp)
  · rw [if_neg c2] at H
    exact absurd H (by simp)

end Go.Proofs.Ytdhkplfkbdldfaa.P
