-- By a program of this session (wip/tools/myprint.py over the kit's printer). Not trusted: Lean checks it.
import Derived.Test.YtcpkbgfemohlmaaP0
import Derived.Test.YtcpkbgfemohlmaaGShort
import Derived.Test.YtcpkbgfemohlmaaGAway
import Derived.Test.YtcpkbgfemohlmaaP5
import Derived.Test.YtcpkbgfemohlmaaP6
namespace Go.Proofs.Ytcpkbgfemohlmaa.P
open Go.RowKit Go.Proofs.YtcpkbgfemohlmaaW.PrintWords Go.Proofs.YtcpkbgfemohlmaaW.PrintLast Go.Proofs.YtcpkbgfemohlmaaW.PrintMore
attribute [local go_sem] max2_int min2_int max_two min_two max_three min_three max_four min_four   -- for this text's walks alone
set_option linter.unusedVariables false
set_option linter.unusedSimpArgs false

/-! ### selfstabref41_Play: function 20 -/
def selfstabref41_Play.l0 : Nat → List (S38) → List (List Int) → Int → Int → Int → List (List Int) → Option (Int × (List (List Int)) × (List (List Int)) × Int)
 | 0, _, _, _, _, _, _ => none
 | k + 1, x1, x7, x8, x9, x310000, x310001 => if x9 < (x1.length : Int) then (if 0 ≤ x9 then (if ((rd_T38 x1 x9).f0) = 1 then ((selfstabref41_Send.f k x310000 x310001 ((rd_T38 x1 x9).f2)).bind fun bt314 => (if bt314.2.2 = true then (selfstabref41_Play.l0 k x1 x7 x8 (wrap64 (x9 + 1)) bt314.1 bt314.2.1) else (selfstabref41_Play.l0 k x1 x7 (wrap64 (x8 + 1)) (wrap64 (x9 + 1)) bt314.1 bt314.2.1))) else (if ((rd_T38 x1 x9).f0) = 2 then ((selfstabref41_Receive.f k x310000 x310001).bind fun bt320 => (if bt320.2.2.2 = true then (if x7.length < 5864062014805 then (selfstabref41_Play.l0 k x1 (x7 ++ [bt320.2.2.1]) x8 (wrap64 (x9 + 1)) bt320.1 bt320.2.1) else (none)) else (selfstabref41_Play.l0 k x1 x7 x8 (wrap64 (x9 + 1)) bt320.1 bt320.2.1))) else (if ((rd_T38 x1 x9).f0) = 3 then ((selfstabref41_Lose.f k x310000 x310001 ((rd_T38 x1 x9).f1)).bind fun bt333 => (if bt333.2.2 = true then (selfstabref41_Play.l0 k x1 x7 (wrap64 (x8 + 1)) (wrap64 (x9 + 1)) bt333.1 bt333.2.1) else (selfstabref41_Play.l0 k x1 x7 x8 (wrap64 (x9 + 1)) bt333.1 bt333.2.1))) else (selfstabref41_Play.l0 k x1 x7 x8 (wrap64 (x9 + 1)) x310000 x310001)))) else (none)) else (some (x310000, x310001, x7, x8))
def selfstabref41_Play.f (k : Nat) (a0_0 : Int) (l0_1 : List (List Int)) (l1 : List (S38)) : Option (Int × (List (List Int)) × (List (List Int)) × Int) := (selfstabref41_Valid.f k a0_0 l0_1).bind fun t311 => (if t311 = true then (selfstabref41_Play.l0 k l1 ([] : List (List Int)) 0 0 a0_0 l0_1) else (some (0, ([] : List (List Int)), ([] : List (List Int)), 0)))
theorem selfstabref41_Play.mono_l : ∀ k, (∀ y0 y1 y2 y3 y4 y5, LeO (selfstabref41_Play.l0 k y0 y1 y2 y3 y4 y5) (selfstabref41_Play.l0 (k + 1) y0 y1 y2 y3 y4 y5))
 | 0 => fun _ _ _ _ _ _ r h => by simp [selfstabref41_Play.l0] at h
 | k + 1 => by
  have ih0 := selfstabref41_Play.mono_l k
  ·intro y0 y1 y2 y3 y4 y5
   unfold selfstabref41_Play.l0
   repeat' first
   | (with_reducible exact ih0 _ _ _ _ _ _)
   | (with_reducible exact selfstabref41_Lose.mono _ _ _ _)
   | (with_reducible exact selfstabref41_Receive.mono _ _ _)
   | (with_reducible exact selfstabref41_Send.mono _ _ _ _)
   | (with_reducible exact selfstabref41_Valid.mono _ _ _)
   | (with_reducible exact LeO.refl _)
   | (with_reducible exact LeO.none _)
   | (with_reducible refine LeO.ite ?_ ?_)
   | (with_reducible refine LeO.bind ?_ (fun _ => ?_))
   | exact ih0 _ _ _ _ _ _
   | exact selfstabref41_Lose.mono _ _ _ _
   | exact selfstabref41_Receive.mono _ _ _
   | exact selfstabref41_Send.mono _ _ _ _
   | exact selfstabref41_Valid.mono _ _ _
   | exact LeO.none _
   | refine LeO.ite ?_ ?_
   | refine LeO.bind ?_ (fun _ => ?_)
theorem selfstabref41_Play.mono : ∀ a0 a1 a2 k, LeO (selfstabref41_Play.f k a0 a1 a2) (selfstabref41_Play.f (k + 1) a0 a1 a2) := by
 intro a0 a1 a2 k
 have ih0 := selfstabref41_Play.mono_l k
 unfold selfstabref41_Play.f
 repeat' first
   | (with_reducible exact ih0 _ _ _ _ _ _)
   | (with_reducible exact selfstabref41_Lose.mono _ _ _ _)
   | (with_reducible exact selfstabref41_Receive.mono _ _ _)
   | (with_reducible exact selfstabref41_Send.mono _ _ _ _)
   | (with_reducible exact selfstabref41_Valid.mono _ _ _)
   | (with_reducible exact LeO.refl _)
   | (with_reducible exact LeO.none _)
   | (with_reducible refine LeO.ite ?_ ?_)
   | (with_reducible refine LeO.bind ?_ (fun _ => ?_))
   | exact ih0 _ _ _ _ _ _
   | exact selfstabref41_Lose.mono _ _ _ _
   | exact selfstabref41_Receive.mono _ _ _
   | exact selfstabref41_Send.mono _ _ _ _
   | exact selfstabref41_Valid.mono _ _ _
   | exact LeO.none _
   | refine LeO.ite ?_ ?_
   | refine LeO.bind ?_ (fun _ => ?_)
def selfstabref41_Play.T10 : Bool × List (List Nat × List Nat) := (true, [([], []), ([], []), ([], []), ([1, 2], [1, 2]), ([3], [3]), ([4], [4]), ([0, 5], [0, 5]), ([6], [6]), ([7], [7]), ([7], [7]), ([], []), ([10, 8, 6, 0, 1, 2, 3, 4, 5, 6, 7, 8, 10], [8, 10]), ([9, 11, 0, 1, 2, 3, 4, 5, 6, 7, 8, 9, 10, 11], [9])])
def selfstabref41_Play.B10 : List Nat := [0, 0, 0, 6, 14, 30, 63, 127, 255, 255, 0, 1535, 4095]
theorem selfstabref41_Play.tab10 : rtab .any (opsOf Try.f20 10) = selfstabref41_Play.T10 := by kernel_rfl
theorem selfstabref41_Play.bits10 : waitsOk selfstabref41_Play.T10.2 selfstabref41_Play.B10 = true := by kernel_rfl
def selfstabref41_Play.T20 : Bool × List (List Nat × List Nat) := (true, [([], []), ([], []), ([], []), ([1, 2], [1, 2]), ([3], [3]), ([4], [4]), ([0, 5], [0, 5]), ([6], [6]), ([7], [7]), ([7], [7]), ([], []), ([10, 8, 6, 0, 1, 2, 3, 4, 5, 6, 7, 8, 10], [8, 10]), ([9, 11, 0, 1, 2, 3, 4, 5, 6, 7, 8, 9, 10, 11], [9])])
def selfstabref41_Play.B20 : List Nat := [0, 0, 0, 6, 14, 30, 63, 127, 255, 255, 0, 1535, 4095]
theorem selfstabref41_Play.tab20 : rtab .any (opsOf Try.f20 20) = selfstabref41_Play.T20 := by kernel_rfl
theorem selfstabref41_Play.bits20 : waitsOk selfstabref41_Play.T20.2 selfstabref41_Play.B20 = true := by kernel_rfl
set_option maxHeartbeats 8000000 in
set_option maxRecDepth 100000 in
theorem selfstabref41_Play.calls (k : Nat) (a0_0 : Int) (P0_1_ : Nat → Prop) (A0_1 : Option Addr) (c0_1 : Nat) (l0_1 : List (List Int)) (P1_ : Nat → Prop) (A1 : Option Addr) (c1 : Nat) (l1 : List (S38)) (r1 : Int) (r2 : List (List Int)) (r3 : List (List Int)) (r4 : Int) (w : World) (hs0_1 : Kd.V (Kd.slice 3 (Kd.int .i64)) 25 w w.heap.size (fun k_ => P0_1_ k_) (.slice A0_1 l0_1.length c0_1) l0_1) (hs1 : Kd.V k38 38 w w.heap.size (fun k_ => P1_ k_) (.slice A1 l1.length c1) l1) (h : selfstabref41_Play.f k a0_0 l0_1 l1 = some (r1, r2, r3, r4)) :
  Calls Try.prog 20 #[.agg #[.int .i64 a0_0, .slice A0_1 l0_1.length c0_1], .slice A1 l1.length c1] w fun e w' => ∃ v1_ v2_ : Value, e = .returned (.tuple #[.agg #[.int .i64 r1, v1_], v2_, .int .i64 r4]) ∧ Kd.V (Kd.slice 3 (Kd.int .i64)) 25 w' w.heap.size (fun k_ => ((P0_1_ k_ ∨ P1_ k_) ∨ w.heap.size ≤ k_) ∧ some k_ ≠ (v2_ : Value).ownBlock) v1_ r2 ∧ Kd.N (Kd.slice 3 (Kd.int .i64)) 25 w' w.heap.size (fun k_ => ((P0_1_ k_ ∨ P1_ k_) ∨ w.heap.size ≤ k_)) v2_ r3 ∧ Below w.heap.size w w' := by
 have hu24 := Try.underlying24
 have HO0_1 := Aside0.mk (show Kd.V (Kd.slice 3 (Kd.int .i64)) 25 w w.heap.size (fun k_ => ((P0_1_ k_ ∨ P1_ k_) ∨ w.heap.size ≤ k_)) (.slice A0_1 l0_1.length c0_1) l0_1 from qk_ hs0_1 (fun k_ hk => .inl (.inl hk)))
 have HO1 := Aside0.mk (show Kd.V k38 38 w w.heap.size (fun k_ => ((P0_1_ k_ ∨ P1_ k_) ∨ w.heap.size ≤ k_)) (.slice A1 l1.length c1) l1 from qk_ hs1 (fun k_ hk => .inl (.inr hk)))
 have HB := Aside0.mk (Below.refl w.heap.size w)
 have H : ((selfstabref41_Valid.f k a0_0 l0_1).bind fun t311 => (if t311 = true then (selfstabref41_Play.l0 k l1 ([] : List (List Int)) 0 0 a0_0 l0_1) else (some (0, ([] : List (List Int)), ([] : List (List Int)), 0)))) = some (r1, r2, r3, r4) := h
 clear h
 replace H := Option.bind_eq_some_iff.mp H
 obtain ⟨t311, A30, H⟩ := H
 replace H : (if t311 = true then (selfstabref41_Play.l0 k l1 ([] : List (List Int)) 0 0 a0_0 l0_1) else (some (0, ([] : List (List Int)), ([] : List (List Int)), 0))) = some (r1, r2, r3, r4) := H
 have A3 := Aside0.mk A30
 clear A30
 by_cases c4 : t311 = true
 ·subst c4
  have H1 : (selfstabref41_Play.l0 k l1 ([] : List (List Int)) 0 0 a0_0 l0_1) = some (r1, r2, r3, r4) := by rw [if_pos rfl] at H; exact H
  clear H
  have H := H1
  clear H1
  have H' := Aside0.mk H
  clear H
  go_enter Try.func20, Try.ntmps20
  go_wp2_with (first | ((with_reducible refine gate_dst (N := 2) rfl ?_); refine box_event ?hg (N := 2) ?hd (cs := #[.int .i64 a0_0, .slice A0_1 l0_1.length c0_1]) (t := 24) ?hr ?_; (case hd => rfl); (case hg => rfl); (case hr => first | (go_simp; done) | (go_simp; rfl)); intro gb309 hg w5 hbox hb; have n0_ := Aside0.mk (ql_ (Kd.V_elderB (by (with_reducible repeat (first | apply qe_ | apply qf_ | apply qh_)); exact HO0_1.out) gb309 (Nat.le_of_eq hg.symm)) hb); have n1_ := Aside0.mk (ql_ (Kd.V_elderB (by (with_reducible repeat (first | apply qe_ | apply qf_ | apply qh_)); exact HO1.out) gb309 (Nat.le_of_eq hg.symm)) hb); have n2_ := Aside0.mk (below_step (by repeat (first | (with_reducible first | exact HB.out | apply qj_ | apply qg_ | apply qi_) | exact HB.out)) hb); have n3_ := Aside0.mk (hbox); have n4_ := Aside0.mk ((by rw [hg]; exact (below_size (by repeat (first | (with_reducible first | exact HB.out | apply qj_ | apply qg_ | apply qi_) | exact HB.out))) : w.heap.size ≤ gb309)); have n5_ := Aside0.mk ((by rw [hg]; exact (below_size (by repeat (first | (with_reducible first | exact HB.out | apply qj_ | apply qg_ | apply qi_) | exact HB.out))) : w.heap.size ≤ gb309)); clear HO0_1; clear HO1; clear HB; have HO0_1 := n0_; have HO1 := n1_; have HB := n2_; have BK309 := n3_; have GW309 := n4_; have GE309 := n5_; clear n0_ n1_ n2_ n3_ n4_ n5_; clear hb hbox hg) | ((with_reducible refine gate_dst (N := 4) rfl ?_); refine box_event ?hg (N := 4) ?hd (cs := #[.int .i64 0, .slice none 0 0]) (t := 24) ?hr ?_; (case hd => rfl); (case hg => rfl); (case hr => first | (go_simp; done) | (go_simp; rfl)); intro gb310 hg w6 hbox hb; have n0_ := Aside0.mk (ql_ (Kd.V_elderB (by (with_reducible repeat (first | apply qe_ | apply qf_ | apply qh_)); exact HO0_1.out) gb310 (Nat.le_of_eq hg.symm)) hb); have n1_ := Aside0.mk (ql_ (Kd.V_elderB (by (with_reducible repeat (first | apply qe_ | apply qf_ | apply qh_)); exact HO1.out) gb310 (Nat.le_of_eq hg.symm)) hb); have n2_ := Aside0.mk (blk_below (g := gb309) (o := .cells #[.int .i64 a0_0, .slice A0_1 l0_1.length c0_1] 24 (0, 0)) (by (with_reducible repeat (first | refine qa_ ?_ _ | refine qd_ ?_ | refine qb_ ?_ _)); exact BK309.out) hb); have n3_ := Aside0.mk (below_step (by repeat (first | (with_reducible first | exact HB.out | apply qj_ | apply qg_ | apply qi_ | refine qc_ ?_ GE309.out) | exact HB.out)) hb); have n4_ := Aside0.mk (hbox); have n5_ := Aside0.mk ((by rw [hg]; exact (below_size (by repeat (first | (with_reducible first | exact HB.out | apply qj_ | apply qg_ | apply qi_ | refine qc_ ?_ GE309.out) | exact HB.out))) : w.heap.size ≤ gb310)); have n6_ := Aside0.mk ((by rw [hg]; exact (below_size (by repeat (first | (with_reducible first | exact HB.out | apply qj_ | apply qg_ | apply qi_ | refine qc_ ?_ GE309.out) | exact HB.out))) : w.heap.size ≤ gb310)); have n7_ := Aside0.mk ((by rw [hg]; exact Nat.ne_of_lt (blk_lt (g := gb309) (o := .cells #[.int .i64 a0_0, .slice A0_1 l0_1.length c0_1] 24 (0, 0)) (by (with_reducible repeat (first | refine qa_ ?_ _ | refine qd_ ?_ | refine qb_ ?_ _)); exact BK309.out)) : gb309 ≠ gb310)); have n8_ := Aside0.mk ((by rw [hg]; exact Nat.ne_of_gt (blk_lt (g := gb309) (o := .cells #[.int .i64 a0_0, .slice A0_1 l0_1.length c0_1] 24 (0, 0)) (by (with_reducible repeat (first | refine qa_ ?_ _ | refine qd_ ?_ | refine qb_ ?_ _)); exact BK309.out)) : gb310 ≠ gb309)); clear HO0_1; clear HO1; clear BK309; clear HB; have HO0_1 := n0_; have HO1 := n1_; have BK309 := n2_; have HB := n3_; have BK310 := n4_; have GW310 := n5_; have GE310 := n6_; have NB309_310 := n7_; have NB310_309 := n8_; clear n0_ n1_ n2_ n3_ n4_ n5_ n6_ n7_ n8_; clear hb hbox hg; have hnb7 := NB309_310.out; have hnc7 := NB310_309.out; have hcz8_0 : w6.cell? ⟨gb309, 0, none⟩ = some (.int .i64 a0_0) := (qm_ BK309.out 0).trans rfl; have hcz8_1 : w6.cell? ⟨gb309, 1, none⟩ = some (.slice A0_1 l0_1.length c0_1) := (qm_ BK309.out 1).trans rfl; have hfz8_0 := blk_frozen BK309.out 0; have hfz8_1 := blk_frozen BK309.out 1) | ((with_reducible refine gate_callee (f := 16) rfl ?_); refine goesL_ (some 18) rfl rfl Try.func16 (by kernel_rfl) rfl #[.agg #[.int .i64 a0_0, .slice A0_1 l0_1.length c0_1]] rfl (by (try simp only [List.map_toArray, List.map_cons, List.map_nil]); first | done | rfl | (simp only [List.length_drop, List.length_take]; rfl)) ?_; (with_reducible refine (selfstabref41_Valid.calls k a0_0 _ _ l0_1 true _ ?side1 ?side2 A3.out).mono ?_); (case side1 => repeat (first | exact (Kd.V_reads' HO0_1.out).2.2 | (with_reducible refine Kd.C_alloc ?_ _) | (with_reducible refine Kd.C_drewN ?_ _) | (with_reducible refine Kd.C_drew ?_))); (case side2 => exact (Kd.V_reads' HO0_1.out).2.1); rintro e w9 ⟨rfl, hb⟩; refine ⟨_, rfl, ?_⟩; have n0_ := Aside0.mk (ql_ (by (with_reducible repeat (first | apply qe_ | apply qf_ | apply qh_)); exact HO0_1.out) hb); have n1_ := Aside0.mk (ql_ (by (with_reducible repeat (first | apply qe_ | apply qf_ | apply qh_)); exact HO1.out) hb); have n2_ := Aside0.mk (blk_below (g := gb309) (o := .cells #[.int .i64 a0_0, .slice A0_1 l0_1.length c0_1] 24 (0, 0)) (by (with_reducible repeat (first | refine qa_ ?_ _ | refine qd_ ?_ | refine qb_ ?_ _)); exact BK309.out) hb); have n3_ := Aside0.mk (blk_below (g := gb310) (o := .cells #[.int .i64 0, .slice none 0 0] 24 (0, 0)) (by (with_reducible repeat (first | refine qa_ ?_ _ | refine qd_ ?_ | refine qb_ ?_ _)); exact BK310.out) hb); have n4_ := Aside0.mk (below_step (by repeat (first | (with_reducible first | exact HB.out | apply qj_ | apply qg_ | apply qi_ | refine qc_ ?_ GE309.out | refine qc_ ?_ GE310.out) | exact HB.out)) hb); clear HO0_1; clear HO1; clear BK309; clear BK310; clear HB; have HO0_1 := n0_; have HO1 := n1_; have BK309 := n2_; have BK310 := n3_; have HB := n4_; clear n0_ n1_ n2_ n3_ n4_; (try clear hb); (try clear hb2); (try clear hk); (try clear hi)))
  go_loopg [7, 8, 9] k (fun kq v7 v8 v9 w' => ∃ (x7_1 : List (List Int)) (x8_1 : Int) (x9_1 : Int) (x310000_1 : Int) (x310001_1 : List (List Int)) (u310001 : Value), v8 = .int .i64 x8_1 ∧ v9 = .int .i64 x9_1 ∧ Aside0 (selfstabref41_Play.l0 kq l1 x7_1 x8_1 x9_1 x310000_1 x310001_1 = some (r1, r2, r3, r4)) ∧ Aside0 (kq ≤ k) ∧ Aside0 (Kd.V k38 38 w' w.heap.size (fun k_ => ((P0_1_ k_ ∨ P1_ k_) ∨ w.heap.size ≤ k_) ∧ some k_ ≠ (v7 : Value).ownBlock ∧ k_ ≠ gb309 ∧ k_ ≠ gb310) (.slice A1 l1.length c1) l1) ∧ Aside0 (Kd.N (Kd.slice 3 (Kd.int .i64)) 25 w' w.heap.size (fun k_ => ((P0_1_ k_ ∨ P1_ k_) ∨ w.heap.size ≤ k_) ∧ k_ ≠ gb309 ∧ k_ ≠ gb310) v7 x7_1) ∧ Aside0 (Kd.V (Kd.slice 3 (Kd.int .i64)) 25 w' w.heap.size (fun k_ => ((P0_1_ k_ ∨ P1_ k_) ∨ w.heap.size ≤ k_) ∧ some k_ ≠ (v7 : Value).ownBlock ∧ k_ ≠ gb309 ∧ k_ ≠ gb310) u310001 x310001_1) ∧ Aside0 (w'.heap[gb309]? = some (.cells #[.int .i64 x310000_1, u310001] 24 (0, 0))) ∧ Aside0 (w'.heap[gb310]? = some (.cells #[.int .i64 0, (.slice none 0 0)] 24 (0, 0))) ∧ Aside0 (Below w.heap.size w w'))
  case atStart => exact ⟨(([] : List (List Int))), (0), (0), (a0_0), (l0_1), (.slice A0_1 l0_1.length c0_1), (by first | rfl | (simp; done) | (simp [*]; done)), (by first | rfl | (simp; done) | (simp [*]; done)), H', ⟨Nat.le_refl _⟩, ⟨by (with_reducible repeat (first | apply qe_ | apply qf_ | apply qh_)); exact qk_ HO1.out (fun _ hk => ⟨hk.1.1, ⟨(by simp [Value.ownBlock]), ⟨hk.1.2, hk.2⟩⟩⟩)⟩, ⟨by first | exact Kd.S_nil _ _ _ _ _ | exact Kd.N_nil _ _ _ _ _ | exact Kd.V_nil _ _ _ _ _ | exact Kd.Q_nil _ _ _ _ _ | exact Kd.R_nil _ _ _ _ _⟩, ⟨by (with_reducible repeat (first | apply qe_ | apply qf_ | apply qh_)); exact qk_ HO0_1.out (fun _ hk => ⟨hk.1.1, ⟨(by simp [Value.ownBlock]), ⟨hk.1.2, hk.2⟩⟩⟩)⟩, ⟨by (with_reducible repeat (first | refine qa_ ?_ _ | refine qd_ ?_ | refine qb_ ?_ _)); exact BK309.out⟩, ⟨by (with_reducible repeat (first | refine qa_ ?_ _ | refine qd_ ?_ | refine qb_ ?_ _)); exact BK310.out⟩, ⟨by repeat (first | (with_reducible first | exact HB.out | apply qj_ | apply qg_ | apply qi_ | refine qc_ ?_ GE309.out | refine qc_ ?_ GE310.out) | exact HB.out)⟩⟩
  case round =>
   clear H'
   try clear c1; try clear c2; try clear p2; try clear c4; try clear c7; try clear hcz8_0; try clear hcz8_1; try clear hfz8_0; try clear hfz8_1
   obtain ⟨x7_1, x8_1, x9_1, x310000_1, x310001_1, u310001, rfl, rfl, HA, HK1, HO_1, HO_7, HO_310001, BK309, BK310, HB⟩ := hrel
   cases gk with
   | zero => exact absurd HA.out (by simp [selfstabref41_Play.l0])
   | succ k1 =>
    have H := HA.out
    clear HA
    simp only [selfstabref41_Play.l0] at H
    by_cases c10 : x9_1 < (l1.length : Int)
    ·rw [if_pos c10] at H
     have c10b0 : decide (x9_1 < (l1.length : Int)) = true := decide_eq_true c10
     clear c10
     by_cases c11 : 0 ≤ x9_1
     ·rw [if_pos c11] at H
      have c11b0 : decide (0 ≤ x9_1) = true := decide_eq_true c11
      clear c11
      by_cases c12 : ((rd_T38 l1 x9_1).f0) = 1
      ·rw [if_pos c12] at H
       have c12b0 : (((rd_T38 l1 x9_1).f0) == 1) = true := beq_iff_eq.mpr c12
       have c12b1 : (((rd_T38 l1 x9_1).f0) != 1) = false := bne_eq_false_iff_eq.mpr c12
       clear c12
       replace H := Option.bind_eq_some_iff.mp H
       obtain ⟨⟨t314, t315, t318⟩, A130, H⟩ := H
       replace H : (if t318 = true then (selfstabref41_Play.l0 k1 l1 x7_1 x8_1 (wrap64 (x9_1 + 1)) t314 t315) else (selfstabref41_Play.l0 k1 l1 x7_1 (wrap64 (x8_1 + 1)) (wrap64 (x9_1 + 1)) t314 t315)) = some (r1, r2, r3, r4) := H
       have A13 := Aside0.mk A130
       clear A130
       by_cases c14 : t318 = true
       ·subst c14
        have H1 : (selfstabref41_Play.l0 k1 l1 x7_1 x8_1 (wrap64 (x9_1 + 1)) t314 t315) = some (r1, r2, r3, r4) := by rw [if_pos rfl] at H; exact H
        clear H
        have H := H1
        clear H1
        have H' := Aside0.mk H
        clear H
        have p312 : 0 ≤ (x9_1 : Int) := of_decide_eq_true (by first | (with_reducible assumption) | assumption)
        have q312 : x9_1 < (l1.length : Int) := of_decide_eq_true (by first | (with_reducible assumption) | assumption)
        (try (obtain ⟨Az312, cz312, ez312⟩ := Kd.V_slice HO_1.out; subst ez312))
        obtain ⟨ad312, A312_2, c312_2, e312, hx312_0, hx312_1, hx312_2, hl312_2, hi312_2⟩ := at_T38 (Kd.V_reads' HO_1.out).2.2 x9_1 p312 q312
        cases e312
        obtain ⟨ce312, hce312, hMe312, hcc312⟩ := Kd.V_get HO_1.out z38 x9_1 p312 (by first | exact q312 | exact of_decide_eq_true (by first | (with_reducible assumption) | assumption) | (have e_ := (Kd.V_reads' HO_1.out).1; omega))
        obtain ⟨ua312_2, uc312_2, rfl, ul312_2, ge312_2⟩ := k38_openF hMe312
        have hv312_2 := hcc312 2 _ rfl
        rw [add_field _ _ 2 (by omega)] at hv312_2
        replace hv312_2 := Option.some.inj (hv312_2.symm.trans hx312_2)
        injection hv312_2 with hva_ hvn_ hvc_
        rw [hva_] at ge312_2
        rw [hvc_] at ul312_2
        have HL312_2 := Aside0.mk (show Kd.V (Kd.int .i64) 3 _ w.heap.size _ _ ((rd_T38 l1 x9_1).f2) from Kd.V_mk ul312_2 ge312_2)
        clear hva_ hvn_ hvc_ ge312_2 ul312_2; clear hcc312 hce312
        have HR312_2 := Aside0.mk hi312_2
        have HC312_2 := Aside0.mk hl312_2
        clear hi312_2 hl312_2
        replace p312 := eq_true p312
        replace q312 := eq_true q312
        obtain ⟨Ao15, co15, eo15⟩ := Kd.V_slice HO_310001.out
        subst eo15
        try go_wp2
        have n0_ := Aside0.mk (qh_ HO_1.out)
        have n1_ := Aside0.mk (Kd.N_drew HO_7.out)
        have n2_ := Aside0.mk (qh_ HO_310001.out)
        have n3_ := Aside0.mk (qh_ HL312_2.out)
        have n4_ := Aside0.mk (qd_ BK309.out)
        have n5_ := Aside0.mk (qd_ BK310.out)
        have n6_ := Aside0.mk (Kd.C_drew HR312_2.out)
        have n7_ := Aside0.mk (qi_ HB.out)
        clear HO_1; clear HO_7; clear HO_310001; clear HL312_2; clear BK309; clear BK310; clear HR312_2; clear HB; have HO_1 := n0_; have HO_7 := n1_; have HO_310001 := n2_; have HL312_2 := n3_; have BK309 := n4_; have BK310 := n5_; have HR312_2 := n6_; have HB := n7_; clear n0_ n1_ n2_ n3_ n4_ n5_ n6_ n7_
        have p313 : 0 ≤ (x9_1 : Int) := of_decide_eq_true (by first | (with_reducible assumption) | assumption)
        have q313 : x9_1 < (l1.length : Int) := of_decide_eq_true (by first | (with_reducible assumption) | assumption)
        (try (obtain ⟨Az313, cz313, ez313⟩ := Kd.V_slice HO_1.out; subst ez313))
        obtain ⟨ad313, A313_2, c313_2, e313, hx313_0, hx313_1, hx313_2, hl313_2, hi313_2⟩ := at_T38 (Kd.V_reads' HO_1.out).2.2 x9_1 p313 q313
        obtain rfl : ad312 = ad313 := (by injection e313)
        obtain ⟨ce313, hce313, hMe313, hcc313⟩ := Kd.V_get HO_1.out z38 x9_1 p313 (by first | exact q313 | exact of_decide_eq_true (by first | (with_reducible assumption) | assumption) | (have e_ := (Kd.V_reads' HO_1.out).1; omega))
        obtain ⟨ua313_2, uc313_2, rfl, ul313_2, ge313_2⟩ := k38_openF hMe313
        have hv313_2 := hcc313 2 _ rfl
        rw [add_field _ _ 2 (by omega)] at hv313_2
        replace hv313_2 := Option.some.inj (hv313_2.symm.trans hx313_2)
        injection hv313_2 with hva_ hvn_ hvc_
        rw [hva_] at ge313_2
        rw [hvc_] at ul313_2
        have HL313_2 := Aside0.mk (show Kd.V (Kd.int .i64) 3 _ w.heap.size _ _ ((rd_T38 l1 x9_1).f2) from Kd.V_mk ul313_2 ge313_2)
        clear hva_ hvn_ hvc_ ge313_2 ul313_2; clear hcc313 hce313
        have HR313_2 := Aside0.mk hi313_2
        have HC313_2 := Aside0.mk hl313_2
        clear hi313_2 hl313_2
        replace p313 := eq_true p313
        replace q313 := eq_true q313
        refine start_ (n := 13) (S := fun w' => w'.cell? ⟨gb309, 0, none⟩ = some (.int .i64 x310000_1) ∧ w'.cell? ⟨gb309, 1, none⟩ = some (.slice Ao15 x310001_1.length co15) ∧ w'.cell? (ad312.add ((x9_1).toNat * 3)) = some (.int .i64 ((rd_T38 l1 x9_1).f0)) ∧ w'.cell? ⟨(ad312.add ((x9_1).toNat * 3)).block, (ad312.add ((x9_1).toNat * 3)).off + 1, none⟩ = some (.int .i64 ((rd_T38 l1 x9_1).f1)) ∧ w'.cell? ⟨(ad312.add ((x9_1).toNat * 3)).block, (ad312.add ((x9_1).toNat * 3)).off + 2, none⟩ = some (.slice A313_2 ((rd_T38 l1 x9_1).f2).length c313_2)) (ds := []) #[false, false, false, false, false, false, false, false, false, false, false, false, false] (by kernel_rfl) rfl rfl ⟨(qm_ BK309.out 0).trans rfl, (qm_ BK309.out 1).trans rfl, hx313_0, hx313_1, hx313_2⟩ (fun hHeld => ?_); refine with_tabW selfstabref41_Play.tab10 selfstabref41_Play.bits10 (fun HT_ HW_ => ?_)
        generalize wr.drew = w16 at HO_1 HO_7 HO_310001 HL312_2 BK309 BK310 HR312_2 HB HL313_2 HR313_2 hx313_0 hx313_1 hx313_2 hHeld ⊢
        refine pure_ (i := 1) (N := some 36) (v := ?_) (a' := ?_) #[false, true, false, false, false, false, false, false, false, false, false, false, false] rfl rfl (any_of HT_.out (by kernel_rfl)) (fun _ _ _ h => h) (Or.inl ⟨by rfl, ?_⟩) ?_ ?_
        rotate_left
        ·intro w'
         go_simp
         with_reducible rfl
        rotate_left
        ·simp only [Act.put, List.setIfInBounds_toArray, List.set_cons_zero, List.set_cons_succ, i64_w, i32_w]
         rfl
        refine pure_ (i := 2) (N := some 37) (v := ?_) (a' := ?_) #[false, true, true, false, false, false, false, false, false, false, false, false, false] rfl rfl (any_of HT_.out (by kernel_rfl)) (fun _ _ _ h => h) (Or.inl ⟨by rfl, ?_⟩) ?_ ?_
        rotate_left
        ·intro w'
         go_simp
         with_reducible rfl
        rotate_left
        ·simp only [Act.put, List.setIfInBounds_toArray, List.set_cons_zero, List.set_cons_succ, i64_w, i32_w]
         rfl
        refine pure_ (i := 3) (N := some 38) (v := ?_) (a' := ?_) #[false, true, true, true, false, false, false, false, false, false, false, false, false] rfl rfl (any_of HT_.out (by kernel_rfl)) (fun _ _ _ h => h) (Or.inl ⟨by rfl, ?_⟩) ?_ ?_
        rotate_left
        ·intro w'
         go_simp
         with_reducible rfl
        rotate_left
        ·simp only [Act.put, List.setIfInBounds_toArray, List.set_cons_zero, List.set_cons_succ, i64_w, i32_w]
         rfl
        refine pure_ (i := 4) (N := some 39) (v := ?_) (a' := ?_) #[false, true, true, true, true, false, false, false, false, false, false, false, false] rfl rfl (any_of HT_.out (by kernel_rfl)) (fun _ _ _ h => h) (Or.inl ⟨by rfl, ?_⟩) ?_ ?_
        rotate_left
        ·intro w'
         go_simp
         with_reducible rfl
        rotate_left
        ·simp only [Act.put, List.setIfInBounds_toArray, List.set_cons_zero, List.set_cons_succ, i64_w, i32_w]
         rfl
        refine take_ (i := 0) (N := some 35) (v := ?_) (a' := ?_) #[true, true, true, true, true, false, false, false, false, false, false, false, false] rfl rfl (take_ofW HT_.out HW_.out (by kernel_rfl)) (fun _ _ _ h => h) (Or.inl ⟨by rfl, ?_⟩) hHeld ?_ ?_
        rotate_left
        ·rintro w' ⟨s0, s1, s2, s3, s4⟩
         go_simp
         with_reducible rfl
        rotate_left
        ·simp only [Act.put, List.setIfInBounds_toArray, List.set_cons_zero, List.set_cons_succ, i64_w, i32_w]
         rfl
        refine take_ (i := 5) (N := some 40) (v := ?_) (a' := ?_) #[true, true, true, true, true, true, false, false, false, false, false, false, false] rfl rfl (take_ofW HT_.out HW_.out (by kernel_rfl)) (fun _ _ _ h => h) (Or.inl ⟨by rfl, ?_⟩) hHeld ?_ ?_
        rotate_left
        ·rintro w' ⟨s0, s1, s2, s3, s4⟩
         go_simp
         with_reducible rfl
        rotate_left
        ·simp only [Act.put, List.setIfInBounds_toArray, List.set_cons_zero, List.set_cons_succ, i64_w, i32_w]
         rfl
        refine join_ (σ := Value × Nat) 2 #[true, true, true, true, true, true, true, true, true, true, true, false, false] (fun s_ => [(41, .tuple #[.agg #[.int .i64 t314, s_.1], .bool true]), (10, .pointer (some ⟨s_.2, 0, none⟩)), (34, .tuple #[.agg #[.int .i64 t314, s_.1], .bool true]), (42, .agg #[.int .i64 t314, s_.1]), (43, .bool true)]) (fun s_ w' => (w'.cell? ⟨gb309, 0, none⟩ = some (.int .i64 x310000_1) ∧ w'.cell? ⟨gb309, 1, none⟩ = some (.slice Ao15 x310001_1.length co15) ∧ w'.cell? (ad312.add ((x9_1).toNat * 3)) = some (.int .i64 ((rd_T38 l1 x9_1).f0)) ∧ w'.cell? ⟨(ad312.add ((x9_1).toNat * 3)).block, (ad312.add ((x9_1).toNat * 3)).off + 1, none⟩ = some (.int .i64 ((rd_T38 l1 x9_1).f1)) ∧ w'.cell? ⟨(ad312.add ((x9_1).toNat * 3)).block, (ad312.add ((x9_1).toNat * 3)).off + 2, none⟩ = some (.slice A313_2 ((rd_T38 l1 x9_1).f2).length c313_2)) ∧ (Kd.V (Kd.int .i64) 3 w' w.heap.size (fun k_ => ((P0_1_ k_ ∨ P1_ k_) ∨ w.heap.size ≤ k_) ∧ some k_ ≠ (u7 : Value).ownBlock ∧ k_ ≠ gb309 ∧ k_ ≠ gb310 ∧ k_ ≠ s_.2) (.slice A312_2 ((rd_T38 l1 x9_1).f2).length c312_2) ((rd_T38 l1 x9_1).f2)) ∧ (Kd.V (Kd.int .i64) 3 w' w.heap.size (fun k_ => ((P0_1_ k_ ∨ P1_ k_) ∨ w.heap.size ≤ k_) ∧ some k_ ≠ (u7 : Value).ownBlock ∧ k_ ≠ gb309 ∧ k_ ≠ gb310 ∧ k_ ≠ s_.2) (.slice A313_2 ((rd_T38 l1 x9_1).f2).length c313_2) ((rd_T38 l1 x9_1).f2)) ∧ (Kd.V (Kd.slice 3 (Kd.int .i64)) 25 w' w.heap.size (fun k_ => ((P0_1_ k_ ∨ P1_ k_) ∨ w.heap.size ≤ k_) ∧ some k_ ≠ (u7 : Value).ownBlock ∧ k_ ≠ gb309 ∧ k_ ≠ gb310 ∧ k_ ≠ s_.2) s_.1 t315) ∧ (Kd.V k38 38 w' w.heap.size (fun k_ => ((P0_1_ k_ ∨ P1_ k_) ∨ w.heap.size ≤ k_) ∧ some k_ ≠ (u7 : Value).ownBlock ∧ k_ ≠ gb309 ∧ k_ ≠ gb310 ∧ k_ ≠ s_.2) (.slice (some ad312) l1.length c1) l1) ∧ (Kd.V (Kd.slice 3 (Kd.int .i64)) 25 w' w.heap.size (fun k_ => ((P0_1_ k_ ∨ P1_ k_) ∨ w.heap.size ≤ k_) ∧ some k_ ≠ (u7 : Value).ownBlock ∧ k_ ≠ gb309 ∧ k_ ≠ gb310 ∧ k_ ≠ s_.2) (.slice Ao15 x310001_1.length co15) x310001_1) ∧ (Kd.N (Kd.slice 3 (Kd.int .i64)) 25 w' w.heap.size (fun k_ => ((P0_1_ k_ ∨ P1_ k_) ∨ w.heap.size ≤ k_) ∧ k_ ≠ gb309 ∧ k_ ≠ gb310 ∧ k_ ≠ s_.2) u7 x7_1) ∧ (w'.heap[gb309]? = some (.cells #[.int .i64 x310000_1, .slice Ao15 x310001_1.length co15] 24 (0, 0))) ∧ (w'.heap[gb310]? = some (.cells #[.int .i64 0, .slice none 0 0] 24 (0, 0))) ∧ (w'.heap[s_.2]? = some (.cells #[.int .i64 0, .slice none 0 0] 24 (0, 0))) ∧ (w.heap.size ≤ s_.2) ∧ (w.heap.size ≤ s_.2) ∧ (gb309 ≠ s_.2) ∧ (s_.2 ≠ gb309) ∧ (gb310 ≠ s_.2) ∧ (s_.2 ≠ gb310) ∧ (Below w.heap.size w w')) ?_ ?_
        rotate_left
        ·intro hCont
         refine two_ (i := 6) (j := 10) (Ni := some 41) (Nj := some 10) #[true, true, true, true, true, true, true, false, false, false, false, false, false] #[true, true, true, true, true, true, false, false, false, false, true, false, false] rfl rfl rfl rfl (two_of HT_.out (by kernel_rfl)) (by decide) (by decide) (fun K hK => ?_) (fun K hK => ?_)
         ·skip
          refine goes_ Try.func10 (by kernel_rfl) rfl #[.agg #[.int .i64 x310000_1, .slice Ao15 x310001_1.length co15], .slice A313_2 ((rd_T38 l1 x9_1).f2).length c313_2] (by rfl) rfl rfl (by (try simp only [List.map_toArray, List.map_cons, List.map_nil]); first | done | rfl | (simp only [List.length_drop, List.length_take]; rfl)) ?_
          with_reducible refine (selfstabref41_Send.calls k1 x310000_1 (fun k_ => (((P0_1_ k_ ∨ P1_ k_) ∨ w.heap.size ≤ k_) ∧ (some k_ ≠ (u7 : Value).ownBlock ∧ (k_ ≠ gb309 ∧ k_ ≠ gb310)))) _ _ x310001_1 (fun k_ => (((P0_1_ k_ ∨ P1_ k_) ∨ w.heap.size ≤ k_) ∧ (some k_ ≠ (u7 : Value).ownBlock ∧ (k_ ≠ gb309 ∧ k_ ≠ gb310)))) _ _ ((rd_T38 l1 x9_1).f2) t314 t315 true _ ?side1 ?side2 A13.out).mono ?_
          (case side1 => exact HO_310001.out)
          (case side2 => exact HL313_2.out)
          rintro e w17 ⟨v316, rfl, ho0, hb⟩
          have HS2_ := (hb.cell (World.block_lt_of_cell? _ _ (hHeld.2.2.1))).trans (hHeld.2.2.1)
          have HS3_ := (hb.cell (World.block_lt_of_cell? _ _ (hHeld.2.2.2.1))).trans (hHeld.2.2.2.1)
          have HS4_ := (hb.cell (World.block_lt_of_cell? _ _ (hHeld.2.2.2.2))).trans (hHeld.2.2.2.2)
          refine ⟨_, rfl, ?_⟩
          have n0_ := Aside0.mk (ql_ (by (with_reducible repeat (first | apply qe_ | apply qf_ | apply qh_)); exact HO_1.out) hb)
          have n1_ := Aside0.mk (Kd.N_below (by (with_reducible repeat (first | apply Kd.N_alloc | apply Kd.N_drewN | apply Kd.N_drew)); exact HO_7.out) hb)
          have n2_ := Aside0.mk (ql_ (by (with_reducible repeat (first | apply qe_ | apply qf_ | apply qh_)); exact HO_310001.out) hb)
          have n3_ := Aside0.mk (ql_ (by (with_reducible repeat (first | apply qe_ | apply qf_ | apply qh_)); exact HL312_2.out) hb)
          have n4_ := Aside0.mk (ql_ (by (with_reducible repeat (first | apply qe_ | apply qf_ | apply qh_)); exact HL313_2.out) hb)
          have n5_ := Aside0.mk (Kd.V_lower (qk_ (ok' := fun k_ => ((P0_1_ k_ ∨ P1_ k_) ∨ w.heap.size ≤ k_) ∧ some k_ ≠ (u7 : Value).ownBlock ∧ k_ ≠ gb309 ∧ k_ ≠ gb310) ho0 (fun k_ hk_ => ⟨Or.elim hk_ (fun hs_ => Or.elim hs_ (fun hs_ => hs_.1) (fun hs_ => hs_.1)) (fun hn_ => (.inr (Nat.le_trans (below_size (by repeat (first | (with_reducible first | exact HB.out | apply qj_ | apply qg_ | apply qi_ | refine qc_ ?_ GE309.out | refine qc_ ?_ GE310.out) | exact HB.out))) hn_))), Or.elim hk_ (fun hs_ => Or.elim hs_ (fun hs_ => hs_.2.1) (fun hs_ => hs_.2.1)) (fun hn_ => (Kd.fresh' (Kd.N_lt (by (with_reducible repeat (first | apply Kd.N_alloc | apply Kd.N_drewN | apply Kd.N_drew)); exact HO_7.out)) k_ hn_)), Or.elim hk_ (fun hs_ => Or.elim hs_ (fun hs_ => hs_.2.2.1) (fun hs_ => hs_.2.2.1)) (fun hn_ => (Kd.freshB (g := gb309) (o := .cells #[.int .i64 x310000_1, .slice Ao15 x310001_1.length co15] 24 (0, 0)) (by (with_reducible repeat (first | refine qa_ ?_ _ | refine qd_ ?_ | refine qb_ ?_ _)); exact BK309.out) k_ hn_)), Or.elim hk_ (fun hs_ => Or.elim hs_ (fun hs_ => hs_.2.2.2) (fun hs_ => hs_.2.2.2)) (fun hn_ => (Kd.freshB (g := gb310) (o := .cells #[.int .i64 0, .slice none 0 0] 24 (0, 0)) (by (with_reducible repeat (first | refine qa_ ?_ _ | refine qd_ ?_ | refine qb_ ?_ _)); exact BK310.out) k_ hn_))⟩)) (below_size (by repeat (first | (with_reducible first | exact HB.out | apply qj_ | apply qg_ | apply qi_ | refine qc_ ?_ GE309.out | refine qc_ ?_ GE310.out) | exact HB.out))))
          have n6_ := Aside0.mk (blk_below (g := gb309) (o := .cells #[.int .i64 x310000_1, .slice Ao15 x310001_1.length co15] 24 (0, 0)) (by (with_reducible repeat (first | refine qa_ ?_ _ | refine qd_ ?_ | refine qb_ ?_ _)); exact BK309.out) hb)
          have n7_ := Aside0.mk (blk_below (g := gb310) (o := .cells #[.int .i64 0, .slice none 0 0] 24 (0, 0)) (by (with_reducible repeat (first | refine qa_ ?_ _ | refine qd_ ?_ | refine qb_ ?_ _)); exact BK310.out) hb)
          have n8_ := Aside0.mk (Kd.C_below (by repeat (first | (with_reducible exact HR312_2.out) | (with_reducible refine Kd.C_alloc ?_ _) | (with_reducible refine Kd.C_drewN ?_ _) | (with_reducible refine Kd.C_drew ?_) | exact HR312_2.out)) hb)
          have n9_ := Aside0.mk (Kd.C_below (by repeat (first | (with_reducible exact HR313_2.out) | (with_reducible refine Kd.C_alloc ?_ _) | (with_reducible refine Kd.C_drewN ?_ _) | (with_reducible refine Kd.C_drew ?_) | exact HR313_2.out)) hb)
          have n10_ := Aside0.mk (below_step (by repeat (first | (with_reducible first | exact HB.out | apply qj_ | apply qg_ | apply qi_ | refine qc_ ?_ GE309.out | refine qc_ ?_ GE310.out) | exact HB.out)) hb)
          clear HO_1; clear HO_7; clear HO_310001; clear HL312_2; clear HL313_2; clear BK309; clear BK310; clear HR312_2; clear HR313_2; clear HB; have HO_1 := n0_; have HO_7 := n1_; have HO_310001 := n2_; have HL312_2 := n3_; have HL313_2 := n4_; have HO317 := n5_; have BK309 := n6_; have BK310 := n7_; have HR312_2 := n8_; have HR313_2 := n9_; have HB := n10_; clear n0_ n1_ n2_ n3_ n4_ n5_ n6_ n7_ n8_ n9_ n10_; (try clear hb); (try clear hb2); (try clear hk); (try clear hi); (try clear ho0)
          refine hK.out _ _ ⟨(qm_ BK309.out 0).trans rfl, (qm_ BK309.out 1).trans rfl, HS2_, HS3_, HS4_⟩ (fun hHeld => ?_)
          clear hK K
          refine norm_ (a' := ?_) ?_ ?_
          rotate_left
          ·show Act.put _ (some 41) _ = _
           simp only [Act.put, List.setIfInBounds_toArray, List.set_cons_zero, List.set_cons_succ, i64_w, i32_w]
           rfl
          refine pure_ (i := 7) (N := some 34) (v := ?_) (a' := ?_) #[true, true, true, true, true, true, true, true, false, false, false, false, false] rfl rfl (any_of HT_.out (by kernel_rfl)) (fun _ _ _ h => h) (Or.inl ⟨by rfl, ?_⟩) ?_ ?_
          rotate_left
          ·intro w'
           go_simp
           with_reducible rfl
          rotate_left
          ·simp only [Act.put, List.setIfInBounds_toArray, List.set_cons_zero, List.set_cons_succ, i64_w, i32_w]
           rfl
          refine pure_ (i := 8) (N := some 42) (v := ?_) (a' := ?_) #[true, true, true, true, true, true, true, true, true, false, false, false, false] rfl rfl (any_of HT_.out (by kernel_rfl)) (fun _ _ _ h => h) (Or.inl ⟨by rfl, ?_⟩) ?_ ?_
          rotate_left
          ·intro w'
           go_simp
           with_reducible rfl
          rotate_left
          ·simp only [Act.put, List.setIfInBounds_toArray, List.set_cons_zero, List.set_cons_succ, i64_w, i32_w]
           rfl
          refine pure_ (i := 9) (N := some 43) (v := ?_) (a' := ?_) #[true, true, true, true, true, true, true, true, true, true, false, false, false] rfl rfl (any_of HT_.out (by kernel_rfl)) (fun _ _ _ h => h) (Or.inl ⟨by rfl, ?_⟩) ?_ ?_
          rotate_left
          ·intro w'
           go_simp
           with_reducible rfl
          rotate_left
          ·simp only [Act.put, List.setIfInBounds_toArray, List.set_cons_zero, List.set_cons_succ, i64_w, i32_w]
           rfl
          refine one_ (i := 10) (N := some 10) #[true, true, true, true, true, true, true, true, true, true, true, false, false] rfl rfl (one_of HT_.out (by kernel_rfl)) (by decide) (fun K hK => ?_)
          refine box_step ?hg (N := 10) ?hd (cs := #[.int .i64 0, .slice none 0 0]) (t := 24) ?hr ?_; (case hd => rfl); (case hg => rfl); (case hr => first | (go_simp; done) | (go_simp; rfl))
          intro gb319 hg w18 hbox hb
          have HS2_ := (hb.cell (World.block_lt_of_cell? _ _ (hHeld.2.2.1))).trans (hHeld.2.2.1)
          have HS3_ := (hb.cell (World.block_lt_of_cell? _ _ (hHeld.2.2.2.1))).trans (hHeld.2.2.2.1)
          have HS4_ := (hb.cell (World.block_lt_of_cell? _ _ (hHeld.2.2.2.2))).trans (hHeld.2.2.2.2)
          have n0_ := Aside0.mk (ql_ (Kd.V_elderB (by (with_reducible repeat (first | apply qe_ | apply qf_ | apply qh_)); exact HO_1.out) gb319 (Nat.le_of_eq hg.symm)) hb)
          have n1_ := Aside0.mk (Kd.N_below (Kd.N_elderB (by (with_reducible repeat (first | apply Kd.N_alloc | apply Kd.N_drewN | apply Kd.N_drew)); exact HO_7.out) gb319 (Nat.le_of_eq hg.symm)) hb)
          have n2_ := Aside0.mk (ql_ (Kd.V_elderB (by (with_reducible repeat (first | apply qe_ | apply qf_ | apply qh_)); exact HO_310001.out) gb319 (Nat.le_of_eq hg.symm)) hb)
          have n3_ := Aside0.mk (ql_ (Kd.V_elderB (by (with_reducible repeat (first | apply qe_ | apply qf_ | apply qh_)); exact HL312_2.out) gb319 (Nat.le_of_eq hg.symm)) hb)
          have n4_ := Aside0.mk (ql_ (Kd.V_elderB (by (with_reducible repeat (first | apply qe_ | apply qf_ | apply qh_)); exact HL313_2.out) gb319 (Nat.le_of_eq hg.symm)) hb)
          have n5_ := Aside0.mk (ql_ (Kd.V_elderB (by (with_reducible repeat (first | apply qe_ | apply qf_ | apply qh_)); exact HO317.out) gb319 (Nat.le_of_eq hg.symm)) hb)
          have n6_ := Aside0.mk (blk_below (g := gb309) (o := .cells #[.int .i64 x310000_1, .slice Ao15 x310001_1.length co15] 24 (0, 0)) (by (with_reducible repeat (first | refine qa_ ?_ _ | refine qd_ ?_ | refine qb_ ?_ _)); exact BK309.out) hb)
          have n7_ := Aside0.mk (blk_below (g := gb310) (o := .cells #[.int .i64 0, .slice none 0 0] 24 (0, 0)) (by (with_reducible repeat (first | refine qa_ ?_ _ | refine qd_ ?_ | refine qb_ ?_ _)); exact BK310.out) hb)
          have n8_ := Aside0.mk (Kd.C_below (by repeat (first | (with_reducible exact HR312_2.out) | (with_reducible refine Kd.C_alloc ?_ _) | (with_reducible refine Kd.C_drewN ?_ _) | (with_reducible refine Kd.C_drew ?_) | exact HR312_2.out)) hb)
          have n9_ := Aside0.mk (Kd.C_below (by repeat (first | (with_reducible exact HR313_2.out) | (with_reducible refine Kd.C_alloc ?_ _) | (with_reducible refine Kd.C_drewN ?_ _) | (with_reducible refine Kd.C_drew ?_) | exact HR313_2.out)) hb)
          have n10_ := Aside0.mk (below_step (by repeat (first | (with_reducible first | exact HB.out | apply qj_ | apply qg_ | apply qi_ | refine qc_ ?_ GE309.out | refine qc_ ?_ GE310.out) | exact HB.out)) hb)
          have n11_ := Aside0.mk (hbox)
          have n12_ := Aside0.mk ((by rw [hg]; exact (below_size (by repeat (first | (with_reducible first | exact HB.out | apply qj_ | apply qg_ | apply qi_ | refine qc_ ?_ GE309.out | refine qc_ ?_ GE310.out) | exact HB.out))) : w.heap.size ≤ gb319))
          have n13_ := Aside0.mk ((by rw [hg]; exact (below_size (by repeat (first | (with_reducible first | exact HB.out | apply qj_ | apply qg_ | apply qi_ | refine qc_ ?_ GE309.out | refine qc_ ?_ GE310.out) | exact HB.out))) : w.heap.size ≤ gb319))
          have n14_ := Aside0.mk ((by rw [hg]; exact Nat.ne_of_lt (blk_lt (g := gb309) (o := .cells #[.int .i64 x310000_1, .slice Ao15 x310001_1.length co15] 24 (0, 0)) (by (with_reducible repeat (first | refine qa_ ?_ _ | refine qd_ ?_ | refine qb_ ?_ _)); exact BK309.out)) : gb309 ≠ gb319))
          have n15_ := Aside0.mk ((by rw [hg]; exact Nat.ne_of_gt (blk_lt (g := gb309) (o := .cells #[.int .i64 x310000_1, .slice Ao15 x310001_1.length co15] 24 (0, 0)) (by (with_reducible repeat (first | refine qa_ ?_ _ | refine qd_ ?_ | refine qb_ ?_ _)); exact BK309.out)) : gb319 ≠ gb309))
          have n16_ := Aside0.mk ((by rw [hg]; exact Nat.ne_of_lt (blk_lt (g := gb310) (o := .cells #[.int .i64 0, .slice none 0 0] 24 (0, 0)) (by (with_reducible repeat (first | refine qa_ ?_ _ | refine qd_ ?_ | refine qb_ ?_ _)); exact BK310.out)) : gb310 ≠ gb319))
          have n17_ := Aside0.mk ((by rw [hg]; exact Nat.ne_of_gt (blk_lt (g := gb310) (o := .cells #[.int .i64 0, .slice none 0 0] 24 (0, 0)) (by (with_reducible repeat (first | refine qa_ ?_ _ | refine qd_ ?_ | refine qb_ ?_ _)); exact BK310.out)) : gb319 ≠ gb310))
          clear HO_1; clear HO_7; clear HO_310001; clear HL312_2; clear HL313_2; clear HO317; clear BK309; clear BK310; clear HR312_2; clear HR313_2; clear HB; have HO_1 := n0_; have HO_7 := n1_; have HO_310001 := n2_; have HL312_2 := n3_; have HL313_2 := n4_; have HO317 := n5_; have BK309 := n6_; have BK310 := n7_; have HR312_2 := n8_; have HR313_2 := n9_; have HB := n10_; have BK319 := n11_; have GW319 := n12_; have GE319 := n13_; have NB309_319 := n14_; have NB319_309 := n15_; have NB310_319 := n16_; have NB319_310 := n17_; clear n0_ n1_ n2_ n3_ n4_ n5_ n6_ n7_ n8_ n9_ n10_ n11_ n12_ n13_ n14_ n15_ n16_ n17_; clear hb hbox hg
          refine hK.out _ _ ⟨(qm_ BK309.out 0).trans rfl, (qm_ BK309.out 1).trans rfl, HS2_, HS3_, HS4_⟩ (fun hHeld => ?_)
          clear hK K
          refine norm_ (a' := ?_) ?_ ?_
          rotate_left
          ·show Act.put _ (some 10) _ = _
           simp only [Act.put, List.setIfInBounds_toArray, List.set_cons_zero, List.set_cons_succ, i64_w, i32_w]
           rfl
          exact norm_ (by simp only [putAll, Act.put, List.setIfInBounds_toArray, List.set_cons_zero, List.set_cons_succ]) (hCont (v316, gb319) _ ⟨hHeld, (by (with_reducible repeat (first | apply qe_ | apply qf_ | apply qh_)); exact qk_ HL312_2.out (fun _ hk => ⟨hk.1.1, ⟨hk.1.2.1, ⟨hk.1.2.2.1, ⟨hk.1.2.2.2, hk.2⟩⟩⟩⟩)), (by (with_reducible repeat (first | apply qe_ | apply qf_ | apply qh_)); exact qk_ HL313_2.out (fun _ hk => ⟨hk.1.1, ⟨hk.1.2.1, ⟨hk.1.2.2.1, ⟨hk.1.2.2.2, hk.2⟩⟩⟩⟩)), (by (with_reducible repeat (first | apply qe_ | apply qf_ | apply qh_)); exact qk_ HO317.out (fun _ hk => ⟨hk.1.1, ⟨hk.1.2.1, ⟨hk.1.2.2.1, ⟨hk.1.2.2.2, hk.2⟩⟩⟩⟩)), (by (with_reducible repeat (first | apply qe_ | apply qf_ | apply qh_)); exact qk_ HO_1.out (fun _ hk => ⟨hk.1.1, ⟨hk.1.2.1, ⟨hk.1.2.2.1, ⟨hk.1.2.2.2, hk.2⟩⟩⟩⟩)), (by (with_reducible repeat (first | apply qe_ | apply qf_ | apply qh_)); exact qk_ HO_310001.out (fun _ hk => ⟨hk.1.1, ⟨hk.1.2.1, ⟨hk.1.2.2.1, ⟨hk.1.2.2.2, hk.2⟩⟩⟩⟩)), (by (with_reducible repeat (first | apply Kd.N_alloc | apply Kd.N_drewN | apply Kd.N_drew)); exact Kd.N_mono HO_7.out (fun _ hk => ⟨hk.1.1, ⟨hk.1.2.1, ⟨hk.1.2.2, hk.2⟩⟩⟩)), (by (with_reducible repeat (first | refine qa_ ?_ _ | refine qd_ ?_ | refine qb_ ?_ _)); exact BK309.out), (by (with_reducible repeat (first | refine qa_ ?_ _ | refine qd_ ?_ | refine qb_ ?_ _)); exact BK310.out), (by (with_reducible repeat (first | refine qa_ ?_ _ | refine qd_ ?_ | refine qb_ ?_ _)); exact BK319.out), GW319.out, GE319.out, NB309_319.out, NB319_309.out, NB310_319.out, NB319_310.out, (by repeat (first | (with_reducible first | exact HB.out | apply qj_ | apply qg_ | apply qi_ | refine qc_ ?_ GE309.out | refine qc_ ?_ GE310.out | refine qc_ ?_ GE319.out) | exact HB.out))⟩)
         ·skip
          refine box_step ?hg (N := 10) ?hd (cs := #[.int .i64 0, .slice none 0 0]) (t := 24) ?hr ?_; (case hd => rfl); (case hg => rfl); (case hr => first | (go_simp; done) | (go_simp; rfl))
          intro gb319 hg w17 hbox hb
          have HS2_ := (hb.cell (World.block_lt_of_cell? _ _ (hHeld.2.2.1))).trans (hHeld.2.2.1)
          have HS3_ := (hb.cell (World.block_lt_of_cell? _ _ (hHeld.2.2.2.1))).trans (hHeld.2.2.2.1)
          have HS4_ := (hb.cell (World.block_lt_of_cell? _ _ (hHeld.2.2.2.2))).trans (hHeld.2.2.2.2)
          have n0_ := Aside0.mk (ql_ (Kd.V_elderB (by (with_reducible repeat (first | apply qe_ | apply qf_ | apply qh_)); exact HO_1.out) gb319 (Nat.le_of_eq hg.symm)) hb)
          have n1_ := Aside0.mk (Kd.N_below (Kd.N_elderB (by (with_reducible repeat (first | apply Kd.N_alloc | apply Kd.N_drewN | apply Kd.N_drew)); exact HO_7.out) gb319 (Nat.le_of_eq hg.symm)) hb)
          have n2_ := Aside0.mk (ql_ (Kd.V_elderB (by (with_reducible repeat (first | apply qe_ | apply qf_ | apply qh_)); exact HO_310001.out) gb319 (Nat.le_of_eq hg.symm)) hb)
          have n3_ := Aside0.mk (ql_ (Kd.V_elderB (by (with_reducible repeat (first | apply qe_ | apply qf_ | apply qh_)); exact HL312_2.out) gb319 (Nat.le_of_eq hg.symm)) hb)
          have n4_ := Aside0.mk (ql_ (Kd.V_elderB (by (with_reducible repeat (first | apply qe_ | apply qf_ | apply qh_)); exact HL313_2.out) gb319 (Nat.le_of_eq hg.symm)) hb)
          have n5_ := Aside0.mk (blk_below (g := gb309) (o := .cells #[.int .i64 x310000_1, .slice Ao15 x310001_1.length co15] 24 (0, 0)) (by (with_reducible repeat (first | refine qa_ ?_ _ | refine qd_ ?_ | refine qb_ ?_ _)); exact BK309.out) hb)
          have n6_ := Aside0.mk (blk_below (g := gb310) (o := .cells #[.int .i64 0, .slice none 0 0] 24 (0, 0)) (by (with_reducible repeat (first | refine qa_ ?_ _ | refine qd_ ?_ | refine qb_ ?_ _)); exact BK310.out) hb)
          have n7_ := Aside0.mk (Kd.C_below (by repeat (first | (with_reducible exact HR312_2.out) | (with_reducible refine Kd.C_alloc ?_ _) | (with_reducible refine Kd.C_drewN ?_ _) | (with_reducible refine Kd.C_drew ?_) | exact HR312_2.out)) hb)
          have n8_ := Aside0.mk (Kd.C_below (by repeat (first | (with_reducible exact HR313_2.out) | (with_reducible refine Kd.C_alloc ?_ _) | (with_reducible refine Kd.C_drewN ?_ _) | (with_reducible refine Kd.C_drew ?_) | exact HR313_2.out)) hb)
          have n9_ := Aside0.mk (below_step (by repeat (first | (with_reducible first | exact HB.out | apply qj_ | apply qg_ | apply qi_ | refine qc_ ?_ GE309.out | refine qc_ ?_ GE310.out) | exact HB.out)) hb)
          have n10_ := Aside0.mk (hbox)
          have n11_ := Aside0.mk ((by rw [hg]; exact (below_size (by repeat (first | (with_reducible first | exact HB.out | apply qj_ | apply qg_ | apply qi_ | refine qc_ ?_ GE309.out | refine qc_ ?_ GE310.out) | exact HB.out))) : w.heap.size ≤ gb319))
          have n12_ := Aside0.mk ((by rw [hg]; exact (below_size (by repeat (first | (with_reducible first | exact HB.out | apply qj_ | apply qg_ | apply qi_ | refine qc_ ?_ GE309.out | refine qc_ ?_ GE310.out) | exact HB.out))) : w.heap.size ≤ gb319))
          have n13_ := Aside0.mk ((by rw [hg]; exact Nat.ne_of_lt (blk_lt (g := gb309) (o := .cells #[.int .i64 x310000_1, .slice Ao15 x310001_1.length co15] 24 (0, 0)) (by (with_reducible repeat (first | refine qa_ ?_ _ | refine qd_ ?_ | refine qb_ ?_ _)); exact BK309.out)) : gb309 ≠ gb319))
          have n14_ := Aside0.mk ((by rw [hg]; exact Nat.ne_of_gt (blk_lt (g := gb309) (o := .cells #[.int .i64 x310000_1, .slice Ao15 x310001_1.length co15] 24 (0, 0)) (by (with_reducible repeat (first | refine qa_ ?_ _ | refine qd_ ?_ | refine qb_ ?_ _)); exact BK309.out)) : gb319 ≠ gb309))
          have n15_ := Aside0.mk ((by rw [hg]; exact Nat.ne_of_lt (blk_lt (g := gb310) (o := .cells #[.int .i64 0, .slice none 0 0] 24 (0, 0)) (by (with_reducible repeat (first | refine qa_ ?_ _ | refine qd_ ?_ | refine qb_ ?_ _)); exact BK310.out)) : gb310 ≠ gb319))
          have n16_ := Aside0.mk ((by rw [hg]; exact Nat.ne_of_gt (blk_lt (g := gb310) (o := .cells #[.int .i64 0, .slice none 0 0] 24 (0, 0)) (by (with_reducible repeat (first | refine qa_ ?_ _ | refine qd_ ?_ | refine qb_ ?_ _)); exact BK310.out)) : gb319 ≠ gb310))
          clear HO_1; clear HO_7; clear HO_310001; clear HL312_2; clear HL313_2; clear BK309; clear BK310; clear HR312_2; clear HR313_2; clear HB; have HO_1 := n0_; have HO_7 := n1_; have HO_310001 := n2_; have HL312_2 := n3_; have HL313_2 := n4_; have BK309 := n5_; have BK310 := n6_; have HR312_2 := n7_; have HR313_2 := n8_; have HB := n9_; have BK319 := n10_; have GW319 := n11_; have GE319 := n12_; have NB309_319 := n13_; have NB319_309 := n14_; have NB310_319 := n15_; have NB319_310 := n16_; clear n0_ n1_ n2_ n3_ n4_ n5_ n6_ n7_ n8_ n9_ n10_ n11_ n12_ n13_ n14_ n15_ n16_; clear hb hbox hg
          refine hK.out _ _ ⟨(qm_ BK309.out 0).trans rfl, (qm_ BK309.out 1).trans rfl, HS2_, HS3_, HS4_⟩ (fun hHeld => ?_)
          clear hK K
          refine norm_ (a' := ?_) ?_ ?_
          rotate_left
          ·show Act.put _ (some 10) _ = _
           simp only [Act.put, List.setIfInBounds_toArray, List.set_cons_zero, List.set_cons_succ, i64_w, i32_w]
           rfl
          refine one_ (i := 6) (N := some 41) #[true, true, true, true, true, true, true, false, false, false, true, false, false] rfl rfl (one_of HT_.out (by kernel_rfl)) (by decide) (fun K hK => ?_)
          refine goes_ Try.func10 (by kernel_rfl) rfl #[.agg #[.int .i64 x310000_1, .slice Ao15 x310001_1.length co15], .slice A313_2 ((rd_T38 l1 x9_1).f2).length c313_2] (by rfl) rfl rfl (by (try simp only [List.map_toArray, List.map_cons, List.map_nil]); first | done | rfl | (simp only [List.length_drop, List.length_take]; rfl)) ?_
          with_reducible refine (selfstabref41_Send.calls k1 x310000_1 (fun k_ => ((((P0_1_ k_ ∨ P1_ k_) ∨ w.heap.size ≤ k_) ∧ (some k_ ≠ (u7 : Value).ownBlock ∧ (k_ ≠ gb309 ∧ k_ ≠ gb310))) ∧ k_ ≠ gb319)) _ _ x310001_1 (fun k_ => ((((P0_1_ k_ ∨ P1_ k_) ∨ w.heap.size ≤ k_) ∧ (some k_ ≠ (u7 : Value).ownBlock ∧ (k_ ≠ gb309 ∧ k_ ≠ gb310))) ∧ k_ ≠ gb319)) _ _ ((rd_T38 l1 x9_1).f2) t314 t315 true _ ?side1 ?side2 A13.out).mono ?_
          (case side1 => exact HO_310001.out)
          (case side2 => exact HL313_2.out)
          rintro e w18 ⟨v316, rfl, ho0, hb⟩
          have HS2_ := (hb.cell (World.block_lt_of_cell? _ _ (hHeld.2.2.1))).trans (hHeld.2.2.1)
          have HS3_ := (hb.cell (World.block_lt_of_cell? _ _ (hHeld.2.2.2.1))).trans (hHeld.2.2.2.1)
          have HS4_ := (hb.cell (World.block_lt_of_cell? _ _ (hHeld.2.2.2.2))).trans (hHeld.2.2.2.2)
          refine ⟨_, rfl, ?_⟩
          have n0_ := Aside0.mk (ql_ (by (with_reducible repeat (first | apply qe_ | apply qf_ | apply qh_)); exact HO_1.out) hb)
          have n1_ := Aside0.mk (Kd.N_below (by (with_reducible repeat (first | apply Kd.N_alloc | apply Kd.N_drewN | apply Kd.N_drew)); exact HO_7.out) hb)
          have n2_ := Aside0.mk (ql_ (by (with_reducible repeat (first | apply qe_ | apply qf_ | apply qh_)); exact HO_310001.out) hb)
          have n3_ := Aside0.mk (ql_ (by (with_reducible repeat (first | apply qe_ | apply qf_ | apply qh_)); exact HL312_2.out) hb)
          have n4_ := Aside0.mk (ql_ (by (with_reducible repeat (first | apply qe_ | apply qf_ | apply qh_)); exact HL313_2.out) hb)
          have n5_ := Aside0.mk (Kd.V_lower (qk_ (ok' := fun k_ => ((P0_1_ k_ ∨ P1_ k_) ∨ w.heap.size ≤ k_) ∧ some k_ ≠ (u7 : Value).ownBlock ∧ k_ ≠ gb309 ∧ k_ ≠ gb310 ∧ k_ ≠ gb319) ho0 (fun k_ hk_ => ⟨Or.elim hk_ (fun hs_ => Or.elim hs_ (fun hs_ => hs_.1.1) (fun hs_ => hs_.1.1)) (fun hn_ => (.inr (Nat.le_trans (below_size (by repeat (first | (with_reducible first | exact HB.out | apply qj_ | apply qg_ | apply qi_ | refine qc_ ?_ GE309.out | refine qc_ ?_ GE310.out | refine qc_ ?_ GE319.out) | exact HB.out))) hn_))), Or.elim hk_ (fun hs_ => Or.elim hs_ (fun hs_ => hs_.1.2.1) (fun hs_ => hs_.1.2.1)) (fun hn_ => (Kd.fresh' (Kd.N_lt (by (with_reducible repeat (first | apply Kd.N_alloc | apply Kd.N_drewN | apply Kd.N_drew)); exact HO_7.out)) k_ hn_)), Or.elim hk_ (fun hs_ => Or.elim hs_ (fun hs_ => hs_.1.2.2.1) (fun hs_ => hs_.1.2.2.1)) (fun hn_ => (Kd.freshB (g := gb309) (o := .cells #[.int .i64 x310000_1, .slice Ao15 x310001_1.length co15] 24 (0, 0)) (by (with_reducible repeat (first | refine qa_ ?_ _ | refine qd_ ?_ | refine qb_ ?_ _)); exact BK309.out) k_ hn_)), Or.elim hk_ (fun hs_ => Or.elim hs_ (fun hs_ => hs_.1.2.2.2) (fun hs_ => hs_.1.2.2.2)) (fun hn_ => (Kd.freshB (g := gb310) (o := .cells #[.int .i64 0, .slice none 0 0] 24 (0, 0)) (by (with_reducible repeat (first | refine qa_ ?_ _ | refine qd_ ?_ | refine qb_ ?_ _)); exact BK310.out) k_ hn_)), Or.elim hk_ (fun hs_ => Or.elim hs_ (fun hs_ => hs_.2) (fun hs_ => hs_.2)) (fun hn_ => (Kd.freshB (g := gb319) (o := .cells #[.int .i64 0, .slice none 0 0] 24 (0, 0)) (by (with_reducible repeat (first | refine qa_ ?_ _ | refine qd_ ?_ | refine qb_ ?_ _)); exact BK319.out) k_ hn_))⟩)) (below_size (by repeat (first | (with_reducible first | exact HB.out | apply qj_ | apply qg_ | apply qi_ | refine qc_ ?_ GE309.out | refine qc_ ?_ GE310.out | refine qc_ ?_ GE319.out) | exact HB.out))))
          have n6_ := Aside0.mk (blk_below (g := gb309) (o := .cells #[.int .i64 x310000_1, .slice Ao15 x310001_1.length co15] 24 (0, 0)) (by (with_reducible repeat (first | refine qa_ ?_ _ | refine qd_ ?_ | refine qb_ ?_ _)); exact BK309.out) hb)
          have n7_ := Aside0.mk (blk_below (g := gb310) (o := .cells #[.int .i64 0, .slice none 0 0] 24 (0, 0)) (by (with_reducible repeat (first | refine qa_ ?_ _ | refine qd_ ?_ | refine qb_ ?_ _)); exact BK310.out) hb)
          have n8_ := Aside0.mk (Kd.C_below (by repeat (first | (with_reducible exact HR312_2.out) | (with_reducible refine Kd.C_alloc ?_ _) | (with_reducible refine Kd.C_drewN ?_ _) | (with_reducible refine Kd.C_drew ?_) | exact HR312_2.out)) hb)
          have n9_ := Aside0.mk (Kd.C_below (by repeat (first | (with_reducible exact HR313_2.out) | (with_reducible refine Kd.C_alloc ?_ _) | (with_reducible refine Kd.C_drewN ?_ _) | (with_reducible refine Kd.C_drew ?_) | exact HR313_2.out)) hb)
          have n10_ := Aside0.mk (blk_below (g := gb319) (o := .cells #[.int .i64 0, .slice none 0 0] 24 (0, 0)) (by (with_reducible repeat (first | refine qa_ ?_ _ | refine qd_ ?_ | refine qb_ ?_ _)); exact BK319.out) hb)
          have n11_ := Aside0.mk (below_step (by repeat (first | (with_reducible first | exact HB.out | apply qj_ | apply qg_ | apply qi_ | refine qc_ ?_ GE309.out | refine qc_ ?_ GE310.out | refine qc_ ?_ GE319.out) | exact HB.out)) hb)
          clear HO_1; clear HO_7; clear HO_310001; clear HL312_2; clear HL313_2; clear BK309; clear BK310; clear HR312_2; clear HR313_2; clear BK319; clear HB; have HO_1 := n0_; have HO_7 := n1_; have HO_310001 := n2_; have HL312_2 := n3_; have HL313_2 := n4_; have HO317 := n5_; have BK309 := n6_; have BK310 := n7_; have HR312_2 := n8_; have HR313_2 := n9_; have BK319 := n10_; have HB := n11_; clear n0_ n1_ n2_ n3_ n4_ n5_ n6_ n7_ n8_ n9_ n10_ n11_; (try clear hb); (try clear hb2); (try clear hk); (try clear hi); (try clear ho0)
          refine hK.out _ _ ⟨(qm_ BK309.out 0).trans rfl, (qm_ BK309.out 1).trans rfl, HS2_, HS3_, HS4_⟩ (fun hHeld => ?_)
          clear hK K
          refine norm_ (a' := ?_) ?_ ?_
          rotate_left
          ·show Act.put _ (some 41) _ = _
           simp only [Act.put, List.setIfInBounds_toArray, List.set_cons_zero, List.set_cons_succ, i64_w, i32_w]
           rfl
          refine pure_ (i := 7) (N := some 34) (v := ?_) (a' := ?_) #[true, true, true, true, true, true, true, true, false, false, true, false, false] rfl rfl (any_of HT_.out (by kernel_rfl)) (fun _ _ _ h => h) (Or.inl ⟨by rfl, ?_⟩) ?_ ?_
          rotate_left
          ·intro w'
           go_simp
           with_reducible rfl
          rotate_left
          ·simp only [Act.put, List.setIfInBounds_toArray, List.set_cons_zero, List.set_cons_succ, i64_w, i32_w]
           rfl
          refine pure_ (i := 8) (N := some 42) (v := ?_) (a' := ?_) #[true, true, true, true, true, true, true, true, true, false, true, false, false] rfl rfl (any_of HT_.out (by kernel_rfl)) (fun _ _ _ h => h) (Or.inl ⟨by rfl, ?_⟩) ?_ ?_
          rotate_left
          ·intro w'
           go_simp
           with_reducible rfl
          rotate_left
          ·simp only [Act.put, List.setIfInBounds_toArray, List.set_cons_zero, List.set_cons_succ, i64_w, i32_w]
           rfl
          refine pure_ (i := 9) (N := some 43) (v := ?_) (a' := ?_) #[true, true, true, true, true, true, true, true, true, true, true, false, false] rfl rfl (any_of HT_.out (by kernel_rfl)) (fun _ _ _ h => h) (Or.inl ⟨by rfl, ?_⟩) ?_ ?_
          rotate_left
          ·intro w'
           go_simp
           with_reducible rfl
          rotate_left
          ·simp only [Act.put, List.setIfInBounds_toArray, List.set_cons_zero, List.set_cons_succ, i64_w, i32_w]
           rfl
          exact norm_ (by simp only [putAll, Act.put, List.setIfInBounds_toArray, List.set_cons_zero, List.set_cons_succ]) (hCont (v316, gb319) _ ⟨hHeld, (by (with_reducible repeat (first | apply qe_ | apply qf_ | apply qh_)); exact qk_ HL312_2.out (fun _ hk => ⟨hk.1.1, ⟨hk.1.2.1, ⟨hk.1.2.2.1, ⟨hk.1.2.2.2, hk.2⟩⟩⟩⟩)), (by (with_reducible repeat (first | apply qe_ | apply qf_ | apply qh_)); exact qk_ HL313_2.out (fun _ hk => ⟨hk.1.1, ⟨hk.1.2.1, ⟨hk.1.2.2.1, ⟨hk.1.2.2.2, hk.2⟩⟩⟩⟩)), (by (with_reducible repeat (first | apply qe_ | apply qf_ | apply qh_)); exact HO317.out), (by (with_reducible repeat (first | apply qe_ | apply qf_ | apply qh_)); exact qk_ HO_1.out (fun _ hk => ⟨hk.1.1, ⟨hk.1.2.1, ⟨hk.1.2.2.1, ⟨hk.1.2.2.2, hk.2⟩⟩⟩⟩)), (by (with_reducible repeat (first | apply qe_ | apply qf_ | apply qh_)); exact qk_ HO_310001.out (fun _ hk => ⟨hk.1.1, ⟨hk.1.2.1, ⟨hk.1.2.2.1, ⟨hk.1.2.2.2, hk.2⟩⟩⟩⟩)), (by (with_reducible repeat (first | apply Kd.N_alloc | apply Kd.N_drewN | apply Kd.N_drew)); exact Kd.N_mono HO_7.out (fun _ hk => ⟨hk.1.1, ⟨hk.1.2.1, ⟨hk.1.2.2, hk.2⟩⟩⟩)), (by (with_reducible repeat (first | refine qa_ ?_ _ | refine qd_ ?_ | refine qb_ ?_ _)); exact BK309.out), (by (with_reducible repeat (first | refine qa_ ?_ _ | refine qd_ ?_ | refine qb_ ?_ _)); exact BK310.out), (by (with_reducible repeat (first | refine qa_ ?_ _ | refine qd_ ?_ | refine qb_ ?_ _)); exact BK319.out), GW319.out, GE319.out, NB309_319.out, NB319_309.out, NB310_319.out, NB319_310.out, (by repeat (first | (with_reducible first | exact HB.out | apply qj_ | apply qg_ | apply qi_ | refine qc_ ?_ GE309.out | refine qc_ ?_ GE310.out | refine qc_ ?_ GE319.out) | exact HB.out))⟩)
        rintro ⟨v316, gb319⟩ w19 ⟨hS_, h0_, h1_, h2_, h3_, h4_, h5_, h6_, h7_, h8_, h9_, h10_, h11_, h12_, h13_, h14_, h15_⟩
        have n0_ : Aside0 (Kd.V (Kd.int .i64) 3 w19 w.heap.size (fun k_ => ((P0_1_ k_ ∨ P1_ k_) ∨ w.heap.size ≤ k_) ∧ some k_ ≠ (u7 : Value).ownBlock ∧ k_ ≠ gb309 ∧ k_ ≠ gb310 ∧ k_ ≠ gb319) (.slice A312_2 ((rd_T38 l1 x9_1).f2).length c312_2) ((rd_T38 l1 x9_1).f2)) := ⟨h0_⟩
        have n1_ : Aside0 (Kd.V (Kd.int .i64) 3 w19 w.heap.size (fun k_ => ((P0_1_ k_ ∨ P1_ k_) ∨ w.heap.size ≤ k_) ∧ some k_ ≠ (u7 : Value).ownBlock ∧ k_ ≠ gb309 ∧ k_ ≠ gb310 ∧ k_ ≠ gb319) (.slice A313_2 ((rd_T38 l1 x9_1).f2).length c313_2) ((rd_T38 l1 x9_1).f2)) := ⟨h1_⟩
        have n2_ : Aside0 (Kd.V (Kd.slice 3 (Kd.int .i64)) 25 w19 w.heap.size (fun k_ => ((P0_1_ k_ ∨ P1_ k_) ∨ w.heap.size ≤ k_) ∧ some k_ ≠ (u7 : Value).ownBlock ∧ k_ ≠ gb309 ∧ k_ ≠ gb310 ∧ k_ ≠ gb319) v316 t315) := ⟨h2_⟩
        have n3_ : Aside0 (Kd.V k38 38 w19 w.heap.size (fun k_ => ((P0_1_ k_ ∨ P1_ k_) ∨ w.heap.size ≤ k_) ∧ some k_ ≠ (u7 : Value).ownBlock ∧ k_ ≠ gb309 ∧ k_ ≠ gb310 ∧ k_ ≠ gb319) (.slice (some ad312) l1.length c1) l1) := ⟨h3_⟩
        have n4_ : Aside0 (Kd.V (Kd.slice 3 (Kd.int .i64)) 25 w19 w.heap.size (fun k_ => ((P0_1_ k_ ∨ P1_ k_) ∨ w.heap.size ≤ k_) ∧ some k_ ≠ (u7 : Value).ownBlock ∧ k_ ≠ gb309 ∧ k_ ≠ gb310 ∧ k_ ≠ gb319) (.slice Ao15 x310001_1.length co15) x310001_1) := ⟨h4_⟩
        have n5_ : Aside0 (Kd.N (Kd.slice 3 (Kd.int .i64)) 25 w19 w.heap.size (fun k_ => ((P0_1_ k_ ∨ P1_ k_) ∨ w.heap.size ≤ k_) ∧ k_ ≠ gb309 ∧ k_ ≠ gb310 ∧ k_ ≠ gb319) u7 x7_1) := ⟨h5_⟩
        have n6_ : Aside0 (w19.heap[gb309]? = some (.cells #[.int .i64 x310000_1, .slice Ao15 x310001_1.length co15] 24 (0, 0))) := ⟨h6_⟩
        have n7_ : Aside0 (w19.heap[gb310]? = some (.cells #[.int .i64 0, .slice none 0 0] 24 (0, 0))) := ⟨h7_⟩
        have n8_ : Aside0 (w19.heap[gb319]? = some (.cells #[.int .i64 0, .slice none 0 0] 24 (0, 0))) := ⟨h8_⟩
        have n9_ : Aside0 (w.heap.size ≤ gb319) := ⟨h9_⟩
        have n10_ : Aside0 (w.heap.size ≤ gb319) := ⟨h10_⟩
        have n11_ : Aside0 (gb309 ≠ gb319) := ⟨h11_⟩
        have n12_ : Aside0 (gb319 ≠ gb309) := ⟨h12_⟩
        have n13_ : Aside0 (gb310 ≠ gb319) := ⟨h13_⟩
        have n14_ : Aside0 (gb319 ≠ gb310) := ⟨h14_⟩
        have n15_ : Aside0 (Below w.heap.size w w19) := ⟨h15_⟩
        clear HO_1; clear HO_7; clear HO_310001; clear HL312_2; clear BK309; clear BK310; clear HR312_2; clear HB; clear h0_ h1_ h2_ h3_ h4_ h5_ h6_ h7_ h8_ h9_ h10_ h11_ h12_ h13_ h14_ h15_; have HL312_2 := n0_; have HL313_2 := n1_; have HO317 := n2_; have HO_1 := n3_; have HO_310001 := n4_; have HO_7 := n5_; have BK309 := n6_; have BK310 := n7_; have BK319 := n8_; have GW319 := n9_; have GE319 := n10_; have NB309_319 := n11_; have NB319_309 := n12_; have NB310_319 := n13_; have NB319_310 := n14_; have HB := n15_; clear n0_ n1_ n2_ n3_ n4_ n5_ n6_ n7_ n8_ n9_ n10_ n11_ n12_ n13_ n14_ n15_
        have hHeld : w19.cell? ⟨gb309, 0, none⟩ = some (.int .i64 x310000_1) ∧ w19.cell? ⟨gb309, 1, none⟩ = some (.slice Ao15 x310001_1.length co15) ∧ w19.cell? (ad312.add ((x9_1).toNat * 3)) = some (.int .i64 ((rd_T38 l1 x9_1).f0)) ∧ w19.cell? ⟨(ad312.add ((x9_1).toNat * 3)).block, (ad312.add ((x9_1).toNat * 3)).off + 1, none⟩ = some (.int .i64 ((rd_T38 l1 x9_1).f1)) ∧ w19.cell? ⟨(ad312.add ((x9_1).toNat * 3)).block, (ad312.add ((x9_1).toNat * 3)).off + 2, none⟩ = some (.slice A313_2 ((rd_T38 l1 x9_1).f2).length c313_2) := hS_
        obtain ⟨Ao21, co21, eo21⟩ := Kd.V_slice HO317.out
        (first | subst eo21 | (injection eo21 with f1_ f2_ f3_; have f4_ := f1_.symm; have f5_ := f3_.symm; clear f1_ f2_ f3_; subst f4_; subst f5_))
        refine norm_ (a' := ?_) ?_ ?_
        rotate_left
        ·simp only [putAll, Act.put, List.setIfInBounds_toArray, List.set_cons_zero, List.set_cons_succ]
         rfl
        refine one_ (i := 11) (N := none) #[true, true, true, true, true, true, true, true, true, true, true, true, false] rfl rfl (one_of HT_.out (by kernel_rfl)) (by decide) (fun K hK => ?_)
        have hs20 : w19.cell? ⟨gb319, 0, none⟩ = some (.int .i64 0) := (qm_ BK319.out 0).trans rfl
        have hfs20 := blk_frozen BK319.out 0
        have hns20_0 := NB309_319.out
        have hns20_1 := NB310_319.out
        have hms20_0 := NB319_309.out
        have hms20_1 := NB319_310.out
        have hs22 : w19.cell? ⟨gb319, 1, none⟩ = some (.slice none 0 0) := (qm_ BK319.out 1).trans rfl
        have hfs22 := blk_frozen BK319.out 1
        have hns22_0 := NB309_319.out
        have hns22_1 := NB310_319.out
        have hms22_0 := NB319_309.out
        have hms22_1 := NB319_310.out
        refine skip_ (w1 := ?_) (by rfl) rfl ?_ ?_
        rotate_left
        ·go_simp
         rfl
        refine hK.out _ _ ⟨((cell_far (p := ⟨gb319, _, none⟩) NB309_319.out _).trans (((cell_far (p := ⟨gb319, _, none⟩) NB309_319.out _).trans (hHeld.1)))), ((cell_far (p := ⟨gb319, _, none⟩) NB309_319.out _).trans (((cell_far (p := ⟨gb319, _, none⟩) NB309_319.out _).trans (hHeld.2.1)))), ((cell_far (p := ⟨gb319, _, none⟩) (by have e_ := Kd.own_blk (vA_ HO_1.out c11b0 c10b0 (by decide) (fun _ hk => hk.2.2.2.2)); first | exact e_ | (rw [add_block]; exact e_) | (show (Addr.add _ _).block ≠ _; rw [add_block]; exact e_) | (dsimp only; exact e_)) _).trans (((cell_far (p := ⟨gb319, _, none⟩) (by have e_ := Kd.own_blk (vA_ HO_1.out c11b0 c10b0 (by decide) (fun _ hk => hk.2.2.2.2)); first | exact e_ | (rw [add_block]; exact e_) | (show (Addr.add _ _).block ≠ _; rw [add_block]; exact e_) | (dsimp only; exact e_)) _).trans (hHeld.2.2.1)))), ((cell_far (p := ⟨gb319, _, none⟩) (by have e_ := Kd.own_blk (vA_ HO_1.out c11b0 c10b0 (by decide) (fun _ hk => hk.2.2.2.2)); first | exact e_ | (rw [add_block]; exact e_) | (show (Addr.add _ _).block ≠ _; rw [add_block]; exact e_) | (dsimp only; exact e_)) _).trans (((cell_far (p := ⟨gb319, _, none⟩) (by have e_ := Kd.own_blk (vA_ HO_1.out c11b0 c10b0 (by decide) (fun _ hk => hk.2.2.2.2)); first | exact e_ | (rw [add_block]; exact e_) | (show (Addr.add _ _).block ≠ _; rw [add_block]; exact e_) | (dsimp only; exact e_)) _).trans (hHeld.2.2.2.1)))), ((cell_far (p := ⟨gb319, _, none⟩) (by have e_ := Kd.own_blk (vA_ HO_1.out c11b0 c10b0 (by decide) (fun _ hk => hk.2.2.2.2)); first | exact e_ | (rw [add_block]; exact e_) | (show (Addr.add _ _).block ≠ _; rw [add_block]; exact e_) | (dsimp only; exact e_)) _).trans (((cell_far (p := ⟨gb319, _, none⟩) (by have e_ := Kd.own_blk (vA_ HO_1.out c11b0 c10b0 (by decide) (fun _ hk => hk.2.2.2.2)); first | exact e_ | (rw [add_block]; exact e_) | (show (Addr.add _ _).block ≠ _; rw [add_block]; exact e_) | (dsimp only; exact e_)) _).trans (hHeld.2.2.2.2))))⟩ (fun hHeld => ?_)
        clear hK K
        refine pure_ (i := 12) (N := some 11) (v := ?_) (a' := ?_) #[true, true, true, true, true, true, true, true, true, true, true, true, true] rfl rfl (any_of HT_.out (by kernel_rfl)) (fun _ _ _ h => h) (Or.inl ⟨by rfl, ?_⟩) ?_ ?_
        rotate_left
        ·intro w'
         go_simp
         with_reducible rfl
        rotate_left
        ·simp only [Act.put, List.setIfInBounds_toArray, List.set_cons_zero, List.set_cons_succ, i64_w, i32_w]
         rfl
        refine done_ (done_of HT_.out (by kernel_rfl)) ?_
        have hnb23 := NB319_309.out
        have hnc23 := NB309_319.out
        have hnb24 := NB319_310.out
        have hnc24 := NB310_319.out
        have hcz25_0 : w19.cell? ⟨gb319, 0, none⟩ = some (.int .i64 0) := (qm_ BK319.out 0).trans rfl
        have hcz25_1 : w19.cell? ⟨gb319, 1, none⟩ = some (.slice none 0 0) := (qm_ BK319.out 1).trans rfl
        have hfz25_0 := blk_frozen BK319.out 0
        have hfz25_1 := blk_frozen BK319.out 1
        have hnb26 := NB309_310.out
        have hnc26 := NB310_309.out
        have hcz27_0 : w19.cell? ⟨gb309, 0, none⟩ = some (.int .i64 x310000_1) := (qm_ BK309.out 0).trans rfl
        have hcz27_1 : w19.cell? ⟨gb309, 1, none⟩ = some (.slice Ao15 x310001_1.length co15) := (qm_ BK309.out 1).trans rfl
        have hfz27_0 := blk_frozen BK309.out 0
        have hfz27_1 := blk_frozen BK309.out 1
        try go_wp2
        go_roundg k1
        case measure => have := HK1.out; omega
        case rel => exact ⟨(x7_1), (x8_1), (wrap64 (x9_1 + 1)), (t314), (t315), (.slice Ao21 t315.length co21), (by first | rfl | (simp; done) | (simp [*]; done)), (by first | rfl | (simp; done) | (simp [*]; done)), H', ⟨by have := HK1.out; omega⟩, ⟨by (with_reducible repeat (first | apply qe_ | apply qf_ | apply qh_)); exact qk_ (Kd.V_far (p := ⟨gb309, 1, none⟩) (Kd.V_far (p := ⟨gb309, 0, none⟩) (Kd.V_far (p := ⟨gb319, 1, none⟩) (Kd.V_far (p := ⟨gb319, 0, none⟩) (qk_ (qk_ HO_1.out (fun k_ hk => (⟨hk, hk.2.2.2.2⟩ : _ ∧ k_ ≠ gb319))) (fun k_ hk => (⟨hk, hk.1.2.2.1⟩ : _ ∧ k_ ≠ gb309))) (fun _ hk => hk.1.2) (.int .i64 t314)) (fun _ hk => hk.1.2) (.slice Ao21 t315.length co21)) (fun _ hk => hk.2) (.int .i64 t314)) (fun _ hk => hk.2) (.slice Ao21 t315.length co21)) (fun _ hk => ⟨hk.1.1.1, ⟨hk.1.1.2.1, ⟨hk.1.1.2.2.1, hk.1.1.2.2.2.1⟩⟩⟩)⟩, ⟨by (with_reducible repeat (first | apply Kd.N_alloc | apply Kd.N_drewN | apply Kd.N_drew)); exact Kd.N_mono (Kd.N_far (p := ⟨gb309, 1, none⟩) (Kd.N_far (p := ⟨gb309, 0, none⟩) (Kd.N_far (p := ⟨gb319, 1, none⟩) (Kd.N_far (p := ⟨gb319, 0, none⟩) (Kd.N_mono (Kd.N_mono HO_7.out (fun k_ hk => (⟨hk, hk.2.2.2⟩ : _ ∧ k_ ≠ gb319))) (fun k_ hk => (⟨hk, hk.1.2.1⟩ : _ ∧ k_ ≠ gb309))) (fun _ hk => hk.1.2) (.int .i64 t314)) (fun _ hk => hk.1.2) (.slice Ao21 t315.length co21)) (fun _ hk => hk.2) (.int .i64 t314)) (fun _ hk => hk.2) (.slice Ao21 t315.length co21)) (fun _ hk => ⟨hk.1.1.1, ⟨hk.1.1.2.1, hk.1.1.2.2.1⟩⟩)⟩, ⟨by (with_reducible repeat (first | apply qe_ | apply qf_ | apply qh_)); exact qk_ (Kd.V_far (p := ⟨gb309, 1, none⟩) (Kd.V_far (p := ⟨gb309, 0, none⟩) (Kd.V_far (p := ⟨gb319, 1, none⟩) (Kd.V_far (p := ⟨gb319, 0, none⟩) (qk_ (qk_ HO317.out (fun k_ hk => (⟨hk, hk.2.2.2.2⟩ : _ ∧ k_ ≠ gb319))) (fun k_ hk => (⟨hk, hk.1.2.2.1⟩ : _ ∧ k_ ≠ gb309))) (fun _ hk => hk.1.2) (.int .i64 t314)) (fun _ hk => hk.1.2) (.slice Ao21 t315.length co21)) (fun _ hk => hk.2) (.int .i64 t314)) (fun _ hk => hk.2) (.slice Ao21 t315.length co21)) (fun _ hk => ⟨hk.1.1.1, ⟨hk.1.1.2.1, ⟨hk.1.1.2.2.1, hk.1.1.2.2.2.1⟩⟩⟩)⟩, ⟨by (with_reducible repeat (first | refine qa_ ?_ _ | refine qd_ ?_ | refine qb_ ?_ _)); refine blk_put (cs := #[.int .i64 t314, .slice Ao15 x310001_1.length co15]) ?_ 1 _ rfl; (with_reducible repeat (first | refine qa_ ?_ _ | refine qd_ ?_ | refine qb_ ?_ _)); refine blk_put (cs := #[.int .i64 x310000_1, .slice Ao15 x310001_1.length co15]) ?_ 0 _ rfl; (with_reducible repeat (first | refine qa_ ?_ _ | refine qd_ ?_ | refine qb_ ?_ _)); refine blk_far ?_ NB309_319.out _; (with_reducible repeat (first | refine qa_ ?_ _ | refine qd_ ?_ | refine qb_ ?_ _)); refine blk_far ?_ NB309_319.out _; (with_reducible repeat (first | refine qa_ ?_ _ | refine qd_ ?_ | refine qb_ ?_ _)); exact BK309.out⟩, ⟨by (with_reducible repeat (first | refine qa_ ?_ _ | refine qd_ ?_ | refine qb_ ?_ _)); refine blk_far ?_ NB310_309.out _; (with_reducible repeat (first | refine qa_ ?_ _ | refine qd_ ?_ | refine qb_ ?_ _)); refine blk_far ?_ NB310_309.out _; (with_reducible repeat (first | refine qa_ ?_ _ | refine qd_ ?_ | refine qb_ ?_ _)); refine blk_far ?_ NB310_319.out _; (with_reducible repeat (first | refine qa_ ?_ _ | refine qd_ ?_ | refine qb_ ?_ _)); refine blk_far ?_ NB310_319.out _; (with_reducible repeat (first | refine qa_ ?_ _ | refine qd_ ?_ | refine qb_ ?_ _)); exact BK310.out⟩, ⟨by repeat (first | (with_reducible first | exact HB.out | apply qj_ | apply qg_ | apply qi_ | refine qc_ ?_ GE309.out | refine qc_ ?_ GE310.out | refine qc_ ?_ GE319.out) | exact HB.out)⟩⟩
       ·replace c14 := Bool.eq_false_iff.mpr c14
        subst c14
        have H1 : (selfstabref41_Play.l0 k1 l1 x7_1 (wrap64 (x8_1 + 1)) (wrap64 (x9_1 + 1)) t314 t315) = some (r1, r2, r3, r4) := by rw [if_neg (show ¬ (false = true) by decide)] at H; exact H
        clear H
        have H := H1
        clear H1
        have H' := Aside0.mk H
        clear H
        have p312 : 0 ≤ (x9_1 : Int) := of_decide_eq_true (by first | (with_reducible assumption) | assumption)
        have q312 : x9_1 < (l1.length : Int) := of_decide_eq_true (by first | (with_reducible assumption) | assumption)
        (try (obtain ⟨Az312, cz312, ez312⟩ := Kd.V_slice HO_1.out; subst ez312))
        obtain ⟨ad312, A312_2, c312_2, e312, hx312_0, hx312_1, hx312_2, hl312_2, hi312_2⟩ := at_T38 (Kd.V_reads' HO_1.out).2.2 x9_1 p312 q312
        cases e312
        obtain ⟨ce312, hce312, hMe312, hcc312⟩ := Kd.V_get HO_1.out z38 x9_1 p312 (by first | exact q312 | exact of_decide_eq_true (by first | (with_reducible assumption) | assumption) | (have e_ := (Kd.V_reads' HO_1.out).1; omega))
        obtain ⟨ua312_2, uc312_2, rfl, ul312_2, ge312_2⟩ := k38_openF hMe312
        have hv312_2 := hcc312 2 _ rfl
        rw [add_field _ _ 2 (by omega)] at hv312_2
        replace hv312_2 := Option.some.inj (hv312_2.symm.trans hx312_2)
        injection hv312_2 with hva_ hvn_ hvc_
        rw [hva_] at ge312_2
        rw [hvc_] at ul312_2
        have HL312_2 := Aside0.mk (show Kd.V (Kd.int .i64) 3 _ w.heap.size _ _ ((rd_T38 l1 x9_1).f2) from Kd.V_mk ul312_2 ge312_2)
        clear hva_ hvn_ hvc_ ge312_2 ul312_2; clear hcc312 hce312
        have HR312_2 := Aside0.mk hi312_2
        have HC312_2 := Aside0.mk hl312_2
        clear hi312_2 hl312_2
        replace p312 := eq_true p312
        replace q312 := eq_true q312
        obtain ⟨Ao28, co28, eo28⟩ := Kd.V_slice HO_310001.out
        subst eo28
        try go_wp2
        have n0_ := Aside0.mk (qh_ HO_1.out)
        have n1_ := Aside0.mk (Kd.N_drew HO_7.out)
        have n2_ := Aside0.mk (qh_ HO_310001.out)
        have n3_ := Aside0.mk (qh_ HL312_2.out)
        have n4_ := Aside0.mk (qd_ BK309.out)
        have n5_ := Aside0.mk (qd_ BK310.out)
        have n6_ := Aside0.mk (Kd.C_drew HR312_2.out)
        have n7_ := Aside0.mk (qi_ HB.out)
        clear HO_1; clear HO_7; clear HO_310001; clear HL312_2; clear BK309; clear BK310; clear HR312_2; clear HB; have HO_1 := n0_; have HO_7 := n1_; have HO_310001 := n2_; have HL312_2 := n3_; have BK309 := n4_; have BK310 := n5_; have HR312_2 := n6_; have HB := n7_; clear n0_ n1_ n2_ n3_ n4_ n5_ n6_ n7_
        have p313 : 0 ≤ (x9_1 : Int) := of_decide_eq_true (by first | (with_reducible assumption) | assumption)
        have q313 : x9_1 < (l1.length : Int) := of_decide_eq_true (by first | (with_reducible assumption) | assumption)
        (try (obtain ⟨Az313, cz313, ez313⟩ := Kd.V_slice HO_1.out; subst ez313))
        obtain ⟨ad313, A313_2, c313_2, e313, hx313_0, hx313_1, hx313_2, hl313_2, hi313_2⟩ := at_T38 (Kd.V_reads' HO_1.out).2.2 x9_1 p313 q313
        obtain rfl : ad312 = ad313 := (by injection e313)
        obtain ⟨ce313, hce313, hMe313, hcc313⟩ := Kd.V_get HO_1.out z38 x9_1 p313 (by first | exact q313 | exact of_decide_eq_true (by first | (with_reducible assumption) | assumption) | (have e_ := (Kd.V_reads' HO_1.out).1; omega))
        obtain ⟨ua313_2, uc313_2, rfl, ul313_2, ge313_2⟩ := k38_openF hMe313
        have hv313_2 := hcc313 2 _ rfl
        rw [add_field _ _ 2 (by omega)] at hv313_2
        replace hv313_2 := Option.some.inj (hv313_2.symm.trans hx313_2)
        injection hv313_2 with hva_ hvn_ hvc_
        rw [hva_] at ge313_2
        rw [hvc_] at ul313_2
        have HL313_2 := Aside0.mk (show Kd.V (Kd.int .i64) 3 _ w.heap.size _ _ ((rd_T38 l1 x9_1).f2) from Kd.V_mk ul313_2 ge313_2)
        clear hva_ hvn_ hvc_ ge313_2 ul313_2; clear hcc313 hce313
        have HR313_2 := Aside0.mk hi313_2
        have HC313_2 := Aside0.mk hl313_2
        clear hi313_2 hl313_2
        replace p313 := eq_true p313
        replace q313 := eq_true q313
        refine start_ (n := 13) (S := fun w' => w'.cell? ⟨gb309, 0, none⟩ = some (.int .i64 x310000_1) ∧ w'.cell? ⟨gb309, 1, none⟩ = some (.slice Ao28 x310001_1.length co28) ∧ w'.cell? (ad312.add ((x9_1).toNat * 3)) = some (.int .i64 ((rd_T38 l1 x9_1).f0)) ∧ w'.cell? ⟨(ad312.add ((x9_1).toNat * 3)).block, (ad312.add ((x9_1).toNat * 3)).off + 1, none⟩ = some (.int .i64 ((rd_T38 l1 x9_1).f1)) ∧ w'.cell? ⟨(ad312.add ((x9_1).toNat * 3)).block, (ad312.add ((x9_1).toNat * 3)).off + 2, none⟩ = some (.slice A313_2 ((rd_T38 l1 x9_1).f2).length c313_2)) (ds := []) #[false, false, false, false, false, false, false, false, false, false, false, false, false] (by kernel_rfl) rfl rfl ⟨(qm_ BK309.out 0).trans rfl, (qm_ BK309.out 1).trans rfl, hx313_0, hx313_1, hx313_2⟩ (fun hHeld => ?_); refine with_tabW selfstabref41_Play.tab10 selfstabref41_Play.bits10 (fun HT_ HW_ => ?_)
        generalize wr.drew = w29 at HO_1 HO_7 HO_310001 HL312_2 BK309 BK310 HR312_2 HB HL313_2 HR313_2 hx313_0 hx313_1 hx313_2 hHeld ⊢
        refine pure_ (i := 1) (N := some 36) (v := ?_) (a' := ?_) #[false, true, false, false, false, false, false, false, false, false, false, false, false] rfl rfl (any_of HT_.out (by kernel_rfl)) (fun _ _ _ h => h) (Or.inl ⟨by rfl, ?_⟩) ?_ ?_
        rotate_left
        ·intro w'
         go_simp
         with_reducible rfl
        rotate_left
        ·simp only [Act.put, List.setIfInBounds_toArray, List.set_cons_zero, List.set_cons_succ, i64_w, i32_w]
         rfl
        refine pure_ (i := 2) (N := some 37) (v := ?_) (a' := ?_) #[false, true, true, false, false, false, false, false, false, false, false, false, false] rfl rfl (any_of HT_.out (by kernel_rfl)) (fun _ _ _ h => h) (Or.inl ⟨by rfl, ?_⟩) ?_ ?_
        rotate_left
        ·intro w'
         go_simp
         with_reducible rfl
        rotate_left
        ·simp only [Act.put, List.setIfInBounds_toArray, List.set_cons_zero, List.set_cons_succ, i64_w, i32_w]
         rfl
        refine pure_ (i := 3) (N := some 38) (v := ?_) (a' := ?_) #[false, true, true, true, false, false, false, false, false, false, false, false, false] rfl rfl (any_of HT_.out (by kernel_rfl)) (fun _ _ _ h => h) (Or.inl ⟨by rfl, ?_⟩) ?_ ?_
        rotate_left
        ·intro w'
         go_simp
         with_reducible rfl
        rotate_left
        ·simp only [Act.put, List.setIfInBounds_toArray, List.set_cons_zero, List.set_cons_succ, i64_w, i32_w]
         rfl
        refine pure_ (i := 4) (N := some 39) (v := ?_) (a' := ?_) #[false, true, true, true, true, false, false, false, false, false, false, false, false] rfl rfl (any_of HT_.out (by kernel_rfl)) (fun _ _ _ h => h) (Or.inl ⟨by rfl, ?_⟩) ?_ ?_
        rotate_left
        ·intro w'
         go_simp
         with_reducible rfl
        rotate_left
        ·simp only [Act.put, List.setIfInBounds_toArray, List.set_cons_zero, List.set_cons_succ, i64_w, i32_w]
         rfl
        refine take_ (i := 0) (N := some 35) (v := ?_) (a' := ?_) #[true, true, true, true, true, false, false, false, false, false, false, false, false] rfl rfl (take_ofW HT_.out HW_.out (by kernel_rfl)) (fun _ _ _ h => h) (Or.inl ⟨by rfl, ?_⟩) hHeld ?_ ?_
        rotate_left
        ·rintro w' ⟨s0, s1, s2, s3, s4⟩
         go_simp
         with_reducible rfl
        rotate_left
        ·simp only [Act.put, List.setIfInBounds_toArray, List.set_cons_zero, List.set_cons_succ, i64_w, i32_w]
         rfl
        refine take_ (i := 5) (N := some 40) (v := ?_) (a' := ?_) #[true, true, true, true, true, true, false, false, false, false, false, false, false] rfl rfl (take_ofW HT_.out HW_.out (by kernel_rfl)) (fun _ _ _ h => h) (Or.inl ⟨by rfl, ?_⟩) hHeld ?_ ?_
        rotate_left
        ·rintro w' ⟨s0, s1, s2, s3, s4⟩
         go_simp
         with_reducible rfl
        rotate_left
        ·simp only [Act.put, List.setIfInBounds_toArray, List.set_cons_zero, List.set_cons_succ, i64_w, i32_w]
         rfl
        refine join_ (σ := Value × Nat) 2 #[true, true, true, true, true, true, true, true, true, true, true, false, false] (fun s_ => [(41, .tuple #[.agg #[.int .i64 t314, s_.1], .bool false]), (10, .pointer (some ⟨s_.2, 0, none⟩)), (34, .tuple #[.agg #[.int .i64 t314, s_.1], .bool false]), (42, .agg #[.int .i64 t314, s_.1]), (43, .bool false)]) (fun s_ w' => (w'.cell? ⟨gb309, 0, none⟩ = some (.int .i64 x310000_1) ∧ w'.cell? ⟨gb309, 1, none⟩ = some (.slice Ao28 x310001_1.length co28) ∧ w'.cell? (ad312.add ((x9_1).toNat * 3)) = some (.int .i64 ((rd_T38 l1 x9_1).f0)) ∧ w'.cell? ⟨(ad312.add ((x9_1).toNat * 3)).block, (ad312.add ((x9_1).toNat * 3)).off + 1, none⟩ = some (.int .i64 ((rd_T38 l1 x9_1).f1)) ∧ w'.cell? ⟨(ad312.add ((x9_1).toNat * 3)).block, (ad312.add ((x9_1).toNat * 3)).off + 2, none⟩ = some (.slice A313_2 ((rd_T38 l1 x9_1).f2).length c313_2)) ∧ (Kd.V (Kd.int .i64) 3 w' w.heap.size (fun k_ => ((P0_1_ k_ ∨ P1_ k_) ∨ w.heap.size ≤ k_) ∧ some k_ ≠ (u7 : Value).ownBlock ∧ k_ ≠ gb309 ∧ k_ ≠ gb310 ∧ k_ ≠ s_.2) (.slice A312_2 ((rd_T38 l1 x9_1).f2).length c312_2) ((rd_T38 l1 x9_1).f2)) ∧ (Kd.V (Kd.int .i64) 3 w' w.heap.size (fun k_ => ((P0_1_ k_ ∨ P1_ k_) ∨ w.heap.size ≤ k_) ∧ some k_ ≠ (u7 : Value).ownBlock ∧ k_ ≠ gb309 ∧ k_ ≠ gb310 ∧ k_ ≠ s_.2) (.slice A313_2 ((rd_T38 l1 x9_1).f2).length c313_2) ((rd_T38 l1 x9_1).f2)) ∧ (Kd.V (Kd.slice 3 (Kd.int .i64)) 25 w' w.heap.size (fun k_ => ((P0_1_ k_ ∨ P1_ k_) ∨ w.heap.size ≤ k_) ∧ some k_ ≠ (u7 : Value).ownBlock ∧ k_ ≠ gb309 ∧ k_ ≠ gb310 ∧ k_ ≠ s_.2) s_.1 t315) ∧ (Kd.V k38 38 w' w.heap.size (fun k_ => ((P0_1_ k_ ∨ P1_ k_) ∨ w.heap.size ≤ k_) ∧ some k_ ≠ (u7 : Value).ownBlock ∧ k_ ≠ gb309 ∧ k_ ≠ gb310 ∧ k_ ≠ s_.2) (.slice (some ad312) l1.length c1) l1) ∧ (Kd.V (Kd.slice 3 (Kd.int .i64)) 25 w' w.heap.size (fun k_ => ((P0_1_ k_ ∨ P1_ k_) ∨ w.heap.size ≤ k_) ∧ some k_ ≠ (u7 : Value).ownBlock ∧ k_ ≠ gb309 ∧ k_ ≠ gb310 ∧ k_ ≠ s_.2) (.slice Ao28 x310001_1.length co28) x310001_1) ∧ (Kd.N (Kd.slice 3 (Kd.int .i64)) 25 w' w.heap.size (fun k_ => ((P0_1_ k_ ∨ P1_ k_) ∨ w.heap.size ≤ k_) ∧ k_ ≠ gb309 ∧ k_ ≠ gb310 ∧ k_ ≠ s_.2) u7 x7_1) ∧ (w'.heap[gb309]? = some (.cells #[.int .i64 x310000_1, .slice Ao28 x310001_1.length co28] 24 (0, 0))) ∧ (w'.heap[gb310]? = some (.cells #[.int .i64 0, .slice none 0 0] 24 (0, 0))) ∧ (w'.heap[s_.2]? = some (.cells #[.int .i64 0, .slice none 0 0] 24 (0, 0))) ∧ (w.heap.size ≤ s_.2) ∧ (w.heap.size ≤ s_.2) ∧ (gb309 ≠ s_.2) ∧ (s_.2 ≠ gb309) ∧ (gb310 ≠ s_.2) ∧ (s_.2 ≠ gb310) ∧ (Below w.heap.size w w')) ?_ ?_
        rotate_left
        ·intro hCont
         refine two_ (i := 6) (j := 10) (Ni := some 41) (Nj := some 10) #[true, true, true, true, true, true, true, false, false, false, false, false, false] #[true, true, true, true, true, true, false, false, false, false, true, false, false] rfl rfl rfl rfl (two_of HT_.out (by kernel_rfl)) (by decide) (by decide) (fun K hK => ?_) (fun K hK => ?_)
         ·skip
          refine goes_ Try.func10 (by kernel_rfl) rfl #[.agg #[.int .i64 x310000_1, .slice Ao28 x310001_1.length co28], .slice A313_2 ((rd_T38 l1 x9_1).f2).length c313_2] (by rfl) rfl rfl (by (try simp only [List.map_toArray, List.map_cons, List.map_nil]); first | done | rfl | (simp only [List.length_drop, List.length_take]; rfl)) ?_
          with_reducible refine (selfstabref41_Send.calls k1 x310000_1 (fun k_ => (((P0_1_ k_ ∨ P1_ k_) ∨ w.heap.size ≤ k_) ∧ (some k_ ≠ (u7 : Value).ownBlock ∧ (k_ ≠ gb309 ∧ k_ ≠ gb310)))) _ _ x310001_1 (fun k_ => (((P0_1_ k_ ∨ P1_ k_) ∨ w.heap.size ≤ k_) ∧ (some k_ ≠ (u7 : Value).ownBlock ∧ (k_ ≠ gb309 ∧ k_ ≠ gb310)))) _ _ ((rd_T38 l1 x9_1).f2) t314 t315 false _ ?side1 ?side2 A13.out).mono ?_
          (case side1 => exact HO_310001.out)
          (case side2 => exact HL313_2.out)
          rintro e w30 ⟨v316, rfl, ho0, hb⟩
          have HS2_ := (hb.cell (World.block_lt_of_cell? _ _ (hHeld.2.2.1))).trans (hHeld.2.2.1)
          have HS3_ := (hb.cell (World.block_lt_of_cell? _ _ (hHeld.2.2.2.1))).trans (hHeld.2.2.2.1)
          have HS4_ := (hb.cell (World.block_lt_of_cell? _ _ (hHeld.2.2.2.2))).trans (hHeld.2.2.2.2)
          refine ⟨_, rfl, ?_⟩
          have n0_ := Aside0.mk (ql_ (by (with_reducible repeat (first | apply qe_ | apply qf_ | apply qh_)); exact HO_1.out) hb)
          have n1_ := Aside0.mk (Kd.N_below (by (with_reducible repeat (first | apply Kd.N_alloc | apply Kd.N_drewN | apply Kd.N_drew)); exact HO_7.out) hb)
          have n2_ := Aside0.mk (ql_ (by (with_reducible repeat (first | apply qe_ | apply qf_ | apply qh_)); exact HO_310001.out) hb)
          have n3_ := Aside0.mk (ql_ (by (with_reducible repeat (first | apply qe_ | apply qf_ | apply qh_)); exact HL312_2.out) hb)
          have n4_ := Aside0.mk (ql_ (by (with_reducible repeat (first | apply qe_ | apply qf_ | apply qh_)); exact HL313_2.out) hb)
          have n5_ := Aside0.mk (Kd.V_lower (qk_ (ok' := fun k_ => ((P0_1_ k_ ∨ P1_ k_) ∨ w.heap.size ≤ k_) ∧ some k_ ≠ (u7 : Value).ownBlock ∧ k_ ≠ gb309 ∧ k_ ≠ gb310) ho0 (fun k_ hk_ => ⟨Or.elim hk_ (fun hs_ => Or.elim hs_ (fun hs_ => hs_.1) (fun hs_ => hs_.1)) (fun hn_ => (.inr (Nat.le_trans (below_size (by repeat (first | (with_reducible first | exact HB.out | apply qj_ | apply qg_ | apply qi_ | refine qc_ ?_ GE309.out | refine qc_ ?_ GE310.out) | exact HB.out))) hn_))), Or.elim hk_ (fun hs_ => Or.elim hs_ (fun hs_ => hs_.2.1) (fun hs_ => hs_.2.1)) (fun hn_ => (Kd.fresh' (Kd.N_lt (by (with_reducible repeat (first | apply Kd.N_alloc | apply Kd.N_drewN | apply Kd.N_drew)); exact HO_7.out)) k_ hn_)), Or.elim hk_ (fun hs_ => Or.elim hs_ (fun hs_ => hs_.2.2.1) (fun hs_ => hs_.2.2.1)) (fun hn_ => (Kd.freshB (g := gb309) (o := .cells #[.int .i64 x310000_1, .slice Ao28 x310001_1.length co28] 24 (0, 0)) (by (with_reducible repeat (first | refine qa_ ?_ _ | refine qd_ ?_ | refine qb_ ?_ _)); exact BK309.out) k_ hn_)), Or.elim hk_ (fun hs_ => Or.elim hs_ (fun hs_ => hs_.2.2.2) (fun hs_ => hs_.2.2.2)) (fun hn_ => (Kd.freshB (g := gb310) (o := .cells #[.int .i64 0, .slice none 0 0] 24 (0, 0)) (by (with_reducible repeat (first | refine qa_ ?_ _ | refine qd_ ?_ | refine qb_ ?_ _)); exact BK310.out) k_ hn_))⟩)) (below_size (by repeat (first | (with_reducible first | exact HB.out | apply qj_ | apply qg_ | apply qi_ | refine qc_ ?_ GE309.out | refine qc_ ?_ GE310.out) | exact HB.out))))
          have n6_ := Aside0.mk (blk_below (g := gb309) (o := .cells #[.int .i64 x310000_1, .slice Ao28 x310001_1.length co28] 24 (0, 0)) (by (with_reducible repeat (first | refine qa_ ?_ _ | refine qd_ ?_ | refine qb_ ?_ _)); exact BK309.out) hb)
          have n7_ := Aside0.mk (blk_below (g := gb310) (o := .cells #[.int .i64 0, .slice none 0 0] 24 (0, 0)) (by (with_reducible repeat (first | refine qa_ ?_ _ | refine qd_ ?_ | refine qb_ ?_ _)); exact BK310.out) hb)
          have n8_ := Aside0.mk (Kd.C_below (by repeat (first | (with_reducible exact HR312_2.out) | (with_reducible refine Kd.C_alloc ?_ _) | (with_reducible refine Kd.C_drewN ?_ _) | (with_reducible refine Kd.C_drew ?_) | exact HR312_2.out)) hb)
          have n9_ := Aside0.mk (Kd.C_below (by repeat (first | (with_reducible exact HR313_2.out) | (with_reducible refine Kd.C_alloc ?_ _) | (with_reducible refine Kd.C_drewN ?_ _) | (with_reducible refine Kd.C_drew ?_) | exact HR313_2.out)) hb)
          have n10_ := Aside0.mk (below_step (by repeat (first | (with_reducible first | exact HB.out | apply qj_ | apply qg_ | apply qi_ | refine qc_ ?_ GE309.out | refine qc_ ?_ GE310.out) | exact HB.out)) hb)
          clear HO_1; clear HO_7; clear HO_310001; clear HL312_2; clear HL313_2; clear BK309; clear BK310; clear HR312_2; clear HR313_2; clear HB; have HO_1 := n0_; have HO_7 := n1_; have HO_310001 := n2_; have HL312_2 := n3_; have HL313_2 := n4_; have HO317 := n5_; have BK309 := n6_; have BK310 := n7_; have HR312_2 := n8_; have HR313_2 := n9_; have HB := n10_; clear n0_ n1_ n2_ n3_ n4_ n5_ n6_ n7_ n8_ n9_ n10_; (try clear hb); (try clear hb2); (try clear hk); (try clear hi); (try clear ho0)
          refine hK.out _ _ ⟨(qm_ BK309.out 0).trans rfl, (qm_ BK309.out 1).trans rfl, HS2_, HS3_, HS4_⟩ (fun hHeld => ?_)
          clear hK K
          refine norm_ (a' := ?_) ?_ ?_
          rotate_left
          ·show Act.put _ (some 41) _ = _
           simp only [Act.put, List.setIfInBounds_toArray, List.set_cons_zero, List.set_cons_succ, i64_w, i32_w]
           rfl
          refine pure_ (i := 7) (N := some 34) (v := ?_) (a' := ?_) #[true, true, true, true, true, true, true, true, false, false, false, false, false] rfl rfl (any_of HT_.out (by kernel_rfl)) (fun _ _ _ h => h) (Or.inl ⟨by rfl, ?_⟩) ?_ ?_
          rotate_left
          ·intro w'
           go_simp
           with_reducible rfl
          rotate_left
          ·simp only [Act.put, List.setIfInBounds_toArray, List.set_cons_zero, List.set_cons_succ, i64_w, i32_w]
           rfl
          refine pure_ (i := 8) (N := some 42) (v := ?_) (a' := ?_) #[true, true, true, true, true, true, true, true, true, false, false, false, false] rfl rfl (any_of HT_.out (by kernel_rfl)) (fun _ _ _ h => h) (Or.inl ⟨by rfl, ?_⟩) ?_ ?_
          rotate_left
          ·intro w'
           go_simp
           with_reducible rfl
          rotate_left
          ·simp only [Act.put, List.setIfInBounds_toArray, List.set_cons_zero, List.set_cons_succ, i64_w, i32_w]
           rfl
          refine pure_ (i := 9) (N := some 43) (v := ?_) (a' := ?_) #[true, true, true, true, true, true, true, true, true, true, false, false, false] rfl rfl (any_of HT_.out (by kernel_rfl)) (fun _ _ _ h => h) (Or.inl ⟨by rfl, ?_⟩) ?_ ?_
          rotate_left
          ·intro w'
           go_simp
           with_reducible rfl
          rotate_left
          ·simp only [Act.put, List.setIfInBounds_toArray, List.set_cons_zero, List.set_cons_succ, i64_w, i32_w]
           rfl
          refine one_ (i := 10) (N := some 10) #[true, true, true, true, true, true, true, true, true, true, true, false, false] rfl rfl (one_of HT_.out (by kernel_rfl)) (by decide) (fun K hK => ?_)
          refine box_step ?hg (N := 10) ?hd (cs := #[.int .i64 0, .slice none 0 0]) (t := 24) ?hr ?_; (case hd => rfl); (case hg => rfl); (case hr => first | (go_simp; done) | (go_simp; rfl))
          intro gb319 hg w31 hbox hb
          have HS2_ := (hb.cell (World.block_lt_of_cell? _ _ (hHeld.2.2.1))).trans (hHeld.2.2.1)
          have HS3_ := (hb.cell (World.block_lt_of_cell? _ _ (hHeld.2.2.2.1))).trans (hHeld.2.2.2.1)
          have HS4_ := (hb.cell (World.block_lt_of_cell? _ _ (hHeld.2.2.2.2))).trans (hHeld.2.2.2.2)
          have n0_ := Aside0.mk (ql_ (Kd.V_elderB (by (with_reducible repeat (first | apply qe_ | apply qf_ | apply qh_)); exact HO_1.out) gb319 (Nat.le_of_eq hg.symm)) hb)
          have n1_ := Aside0.mk (Kd.N_below (Kd.N_elderB (by (with_reducible repeat (first | apply Kd.N_alloc | apply Kd.N_drewN | apply Kd.N_drew)); exact HO_7.out) gb319 (Nat.le_of_eq hg.symm)) hb)
          have n2_ := Aside0.mk (ql_ (Kd.V_elderB (by (with_reducible repeat (first | apply qe_ | apply qf_ | apply qh_)); exact HO_310001.out) gb319 (Nat.le_of_eq hg.symm)) hb)
          have n3_ := Aside0.mk (ql_ (Kd.V_elderB (by (with_reducible repeat (first | apply qe_ | apply qf_ | apply qh_)); exact HL312_2.out) gb319 (Nat.le_of_eq hg.symm)) hb)
          have n4_ := Aside0.mk (ql_ (Kd.V_elderB (by (with_reducible repeat (first | apply qe_ | apply qf_ | apply qh_)); exact HL313_2.out) gb319 (Nat.le_of_eq hg.symm)) hb)
          have n5_ := Aside0.mk (ql_ (Kd.V_elderB (by (with_reducible repeat (first | apply qe_ | apply qf_ | apply qh_)); exact HO317.out) gb319 (Nat.le_of_eq hg.symm)) hb)
          have n6_ := Aside0.mk (blk_below (g := gb309) (o := .cells #[.int .i64 x310000_1, .slice Ao28 x310001_1.length co28] 24 (0, 0)) (by (with_reducible repeat (first | refine qa_ ?_ _ | refine qd_ ?_ | refine qb_ ?_ _)); exact BK309.out) hb)
          have n7_ := Aside0.mk (blk_below (g := gb310) (o := .cells #[.int .i64 0, .slice none 0 0] 24 (0, 0)) (by (with_reducible repeat (first | refine qa_ ?_ _ | refine qd_ ?_ | refine qb_ ?_ _)); exact BK310.out) hb)
          have n8_ := Aside0.mk (Kd.C_below (by repeat (first | (with_reducible exact HR312_2.out) | (with_reducible refine Kd.C_alloc ?_ _) | (with_reducible refine Kd.C_drewN ?_ _) | (with_reducible refine Kd.C_drew ?_) | exact HR312_2.out)) hb)
          have n9_ := Aside0.mk (Kd.C_below (by repeat (first | (with_reducible exact HR313_2.out) | (with_reducible refine Kd.C_alloc ?_ _) | (with_reducible refine Kd.C_drewN ?_ _) | (with_reducible refine Kd.C_drew ?_) | exact HR313_2.out)) hb)
          have n10_ := Aside0.mk (below_step (by repeat (first | (with_reducible first | exact HB.out | apply qj_ | apply qg_ | apply qi_ | refine qc_ ?_ GE309.out | refine qc_ ?_ GE310.out) | exact HB.out)) hb)
          have n11_ := Aside0.mk (hbox)
          have n12_ := Aside0.mk ((by rw [hg]; exact (below_size (by repeat (first | (with_reducible first | exact HB.out | apply qj_ | apply qg_ | apply qi_ | refine qc_ ?_ GE309.out | refine qc_ ?_ GE310.out) | exact HB.out))) : w.heap.size ≤ gb319))
          have n13_ := Aside0.mk ((by rw [hg]; exact (below_size (by repeat (first | (with_reducible first | exact HB.out | apply qj_ | apply qg_ | apply qi_ | refine qc_ ?_ GE309.out | refine qc_ ?_ GE310.out) | exact HB.out))) : w.heap.size ≤ gb319))
          have n14_ := Aside0.mk ((by rw [hg]; exact Nat.ne_of_lt (blk_lt (g := gb309) (o := .cells #[.int .i64 x310000_1, .slice Ao28 x310001_1.length co28] 24 (0, 0)) (by (with_reducible repeat (first | refine qa_ ?_ _ | refine qd_ ?_ | refine qb_ ?_ _)); exact BK309.out)) : gb309 ≠ gb319))
          have n15_ := Aside0.mk ((by rw [hg]; exact Nat.ne_of_gt (blk_lt (g := gb309) (o := .cells #[.int .i64 x310000_1, .slice Ao28 x310001_1.length co28] 24 (0, 0)) (by (with_reducible repeat (first | refine qa_ ?_ _ | refine qd_ ?_ | refine qb_ ?_ _)); exact BK309.out)) : gb319 ≠ gb309))
          have n16_ := Aside0.mk ((by rw [hg]; exact Nat.ne_of_lt (blk_lt (g := gb310) (o := .cells #[.int .i64 0, .slice none 0 0] 24 (0, 0)) (by (with_reducible repeat (first | refine qa_ ?_ _ | refine qd_ ?_ | refine qb_ ?_ _)); exact BK310.out)) : gb310 ≠ gb319))
          have n17_ := Aside0.mk ((by rw [hg]; exact Nat.ne_of_gt (blk_lt (g := gb310) (o := .cells #[.int .i64 0, .slice none 0 0] 24 (0, 0)) (by (with_reducible repeat (first | refine qa_ ?_ _ | refine qd_ ?_ | refine qb_ ?_ _)); exact BK310.out)) : gb319 ≠ gb310))
          clear HO_1; clear HO_7; clear HO_310001; clear HL312_2; clear HL313_2; clear HO317; clear BK309; clear BK310; clear HR312_2; clear HR313_2; clear HB; have HO_1 := n0_; have HO_7 := n1_; have HO_310001 := n2_; have HL312_2 := n3_; have HL313_2 := n4_; have HO317 := n5_; have BK309 := n6_; have BK310 := n7_; have HR312_2 := n8_; have HR313_2 := n9_; have HB := n10_; have BK319 := n11_; have GW319 := n12_; have GE319 := n13_; have NB309_319 := n14_; have NB319_309 := n15_; have NB310_319 := n16_; have NB319_310 := n17_; clear n0_ n1_ n2_ n3_ n4_ n5_ n6_ n7_ n8_ n9_ n10_ n11_ n12_ n13_ n14_ n15_ n16_ n17_; clear hb hbox hg
          refine hK.out _ _ ⟨(qm_ BK309.out 0).trans rfl, (qm_ BK309.out 1).trans rfl, HS2_, HS3_, HS4_⟩ (fun hHeld => ?_)
          clear hK K
          refine norm_ (a' := ?_) ?_ ?_
          rotate_left
          ·show Act.put _ (some 10) _ = _
           simp only [Act.put, List.setIfInBounds_toArray, List.set_cons_zero, List.set_cons_succ, i64_w, i32_w]
           rfl
          exact norm_ (by simp only [putAll, Act.put, List.setIfInBounds_toArray, List.set_cons_zero, List.set_cons_succ]) (hCont (v316, gb319) _ ⟨hHeld, (by (with_reducible repeat (first | apply qe_ | apply qf_ | apply qh_)); exact qk_ HL312_2.out (fun _ hk => ⟨hk.1.1, ⟨hk.1.2.1, ⟨hk.1.2.2.1, ⟨hk.1.2.2.2, hk.2⟩⟩⟩⟩)), (by (with_reducible repeat (first | apply qe_ | apply qf_ | apply qh_)); exact qk_ HL313_2.out (fun _ hk => ⟨hk.1.1, ⟨hk.1.2.1, ⟨hk.1.2.2.1, ⟨hk.1.2.2.2, hk.2⟩⟩⟩⟩)), (by (with_reducible repeat (first | apply qe_ | apply qf_ | apply qh_)); exact qk_ HO317.out (fun _ hk => ⟨hk.1.1, ⟨hk.1.2.1, ⟨hk.1.2.2.1, ⟨hk.1.2.2.2, hk.2⟩⟩⟩⟩)), (by (with_reducible repeat (first | apply qe_ | apply qf_ | apply qh_)); exact qk_ HO_1.out (fun _ hk => ⟨hk.1.1, ⟨hk.1.2.1, ⟨hk.1.2.2.1, ⟨hk.1.2.2.2, hk.2⟩⟩⟩⟩)), (by (with_reducible repeat (first | apply qe_ | apply qf_ | apply qh_)); exact qk_ HO_310001.out (fun _ hk => ⟨hk.1.1, ⟨hk.1.2.1, ⟨hk.1.2.2.1, ⟨hk.1.2.2.2, hk.2⟩⟩⟩⟩)), (by (with_reducible repeat (first | apply Kd.N_alloc | apply Kd.N_drewN | apply Kd.N_drew)); exact Kd.N_mono HO_7.out (fun _ hk => ⟨hk.1.1, ⟨hk.1.2.1, ⟨hk.1.2.2, hk.2⟩⟩⟩)), (by (with_reducible repeat (first | refine qa_ ?_ _ | refine qd_ ?_ | refine qb_ ?_ _)); exact BK309.out), (by (with_reducible repeat (first | refine qa_ ?_ _ | refine qd_ ?_ | refine qb_ ?_ _)); exact BK310.out), (by (with_reducible repeat (first | refine qa_ ?_ _ | refine qd_ ?_ | refine qb_ ?_ _)); exact BK319.out), GW319.out, GE319.out, NB309_319.out, NB319_309.out, NB310_319.out, NB319_310.out, (by repeat (first | (with_reducible first | exact HB.out | apply qj_ | apply qg_ | apply qi_ | refine qc_ ?_ GE309.out | refine qc_ ?_ GE310.out | refine qc_ ?_ GE319.out) | exact HB.out))⟩)
         ·skip
          refine box_step ?hg (N := 10) ?hd (cs := #[.int .i64 0, .slice none 0 0]) (t := 24) ?hr ?_; (case hd => rfl); (case hg => rfl); (case hr => first | (go_simp; done) | (go_simp; rfl))
          intro gb319 hg w30 hbox hb
          have HS2_ := (hb.cell (World.block_lt_of_cell? _ _ (hHeld.2.2.1))).trans (hHeld.2.2.1)
          have HS3_ := (hb.cell (World.block_lt_of_cell? _ _ (hHeld.2.2.2.1))).trans (hHeld.2.2.2.1)
          have HS4_ := (hb.cell (World.block_lt_of_cell? _ _ (hHeld.2.2.2.2))).trans (hHeld.2.2.2.2)
          have n0_ := Aside0.mk (ql_ (Kd.V_elderB (by (with_reducible repeat (first | apply qe_ | apply qf_ | apply qh_)); exact HO_1.out) gb319 (Nat.le_of_eq hg.symm)) hb)
          have n1_ := Aside0.mk (Kd.N_below (Kd.N_elderB (by (with_reducible repeat (first | apply Kd.N_alloc | apply Kd.N_drewN | apply Kd.N_drew)); exact HO_7.out) gb319 (Nat.le_of_eq hg.symm)) hb)
          have n2_ := Aside0.mk (ql_ (Kd.V_elderB (by (with_reducible repeat (first | apply qe_ | apply qf_ | apply qh_)); exact HO_310001.out) gb319 (Nat.le_of_eq hg.symm)) hb)
          have n3_ := Aside0.mk (ql_ (Kd.V_elderB (by (with_reducible repeat (first | apply qe_ | apply qf_ | apply qh_)); exact HL312_2.out) gb319 (Nat.le_of_eq hg.symm)) hb)
          have n4_ := Aside0.mk (ql_ (Kd.V_elderB (by (with_reducible repeat (first | apply qe_ | apply qf_ | apply qh_)); exact HL313_2.out) gb319 (Nat.le_of_eq hg.symm)) hb)
          have n5_ := Aside0.mk (blk_below (g := gb309) (o := .cells #[.int .i64 x310000_1, .slice Ao28 x310001_1.length co28] 24 (0, 0)) (by (with_reducible repeat (first | refine qa_ ?_ _ | refine qd_ ?_ | refine qb_ ?_ _)); exact BK309.out) hb)
          have n6_ := Aside0.mk (blk_below (g := gb310) (o := .cells #[.int .i64 0, .slice none 0 0] 24 (0, 0)) (by (with_reducible repeat (first | refine qa_ ?_ _ | refine qd_ ?_ | refine qb_ ?_ _)); exact BK310.out) hb)
          have n7_ := Aside0.mk (Kd.C_below (by repeat (first | (with_reducible exact HR312_2.out) | (with_reducible refine Kd.C_alloc ?_ _) | (with_reducible refine Kd.C_drewN ?_ _) | (with_reducible refine Kd.C_drew ?_) | exact HR312_2.out)) hb)
          have n8_ := Aside0.mk (Kd.C_below (by repeat (first | (with_reducible exact HR313_2.out) | (with_reducible refine Kd.C_alloc ?_ _) | (with_reducible refine Kd.C_drewN ?_ _) | (with_reducible refine Kd.C_drew ?_) | exact HR313_2.out)) hb)
          have n9_ := Aside0.mk (below_step (by repeat (first | (with_reducible first | exact HB.out | apply qj_ | apply qg_ | apply qi_ | refine qc_ ?_ GE309.out | refine qc_ ?_ GE310.out) | exact HB.out)) hb)
          have n10_ := Aside0.mk (hbox)
          have n11_ := Aside0.mk ((by rw [hg]; exact (below_size (by repeat (first | (with_reducible first | exact HB.out | apply qj_ | apply qg_ | apply qi_ | refine qc_ ?_ GE309.out | refine qc_ ?_ GE310.out) | exact HB.out))) : w.heap.size ≤ gb319))
          have n12_ := Aside0.mk ((by rw [hg]; exact (below_size (by repeat (first | (with_reducible first | exact HB.out | apply qj_ | apply qg_ | apply qi_ | refine qc_ ?_ GE309.out | refine qc_ ?_ GE310.out) | exact HB.out))) : w.heap.size ≤ gb319))
          have n13_ := Aside0.mk ((by rw [hg]; exact Nat.ne_of_lt (blk_lt (g := gb309) (o := .cells #[.int .i64 x310000_1, .slice Ao28 x310001_1.length co28] 24 (0, 0)) (by (with_reducible repeat (first | refine qa_ ?_ _ | refine qd_ ?_ | refine qb_ ?_ _)); exact BK309.out)) : gb309 ≠ gb319))
          have n14_ := Aside0.mk ((by rw [hg]; exact Nat.ne_of_gt (blk_lt (g := gb309) (o := .cells #[.int .i64 x310000_1, .slice Ao28 x310001_1.length co28] 24 (0, 0)) (by (with_reducible repeat (first | refine qa_ ?_ _ | refine qd_ ?_ | refine qb_ ?_ _)); exact BK309.out)) : gb319 ≠ gb309))
          have n15_ := Aside0.mk ((by rw [hg]; exact Nat.ne_of_lt (blk_lt (g := gb310) (o := .cells #[.int .i64 0, .slice none 0 0] 24 (0, 0)) (by (with_reducible repeat (first | refine qa_ ?_ _ | refine qd_ ?_ | refine qb_ ?_ _)); exact BK310.out)) : gb310 ≠ gb319))
          have n16_ := Aside0.mk ((by rw [hg]; exact Nat.ne_of_gt (blk_lt (g := gb310) (o := .cells #[.int .i64 0, .slice none 0 0] 24 (0, 0)) (by (with_reducible repeat (first | refine qa_ ?_ _ | refine qd_ ?_ | refine qb_ ?_ _)); exact BK310.out)) : gb319 ≠ gb310))
          clear HO_1; clear HO_7; clear HO_310001; clear HL312_2; clear HL313_2; clear BK309; clear BK310; clear HR312_2; clear HR313_2; clear HB; have HO_1 := n0_; have HO_7 := n1_; have HO_310001 := n2_; have HL312_2 := n3_; have HL313_2 := n4_; have BK309 := n5_; have BK310 := n6_; have HR312_2 := n7_; have HR313_2 := n8_; have HB := n9_; have BK319 := n10_; have GW319 := n11_; have GE319 := n12_; have NB309_319 := n13_; have NB319_309 := n14_; have NB310_319 := n15_; have NB319_310 := n16_; clear n0_ n1_ n2_ n3_ n4_ n5_ n6_ n7_ n8_ n9_ n10_ n11_ n12_ n13_ n14_ n15_ n16_; clear hb hbox hg
          refine hK.out _ _ ⟨(qm_ BK309.out 0).trans rfl, (qm_ BK309.out 1).trans rfl, HS2_, HS3_, HS4_⟩ (fun hHeld => ?_)
          clear hK K
          refine norm_ (a' := ?_) ?_ ?_
          rotate_left
          ·show Act.put _ (some 10) _ = _
           simp only [Act.put, List.setIfInBounds_toArray, List.set_cons_zero, List.set_cons_succ, i64_w, i32_w]
           rfl
          refine one_ (i := 6) (N := some 41) #[true, true, true, true, true, true, true, false, false, false, true, false, false] rfl rfl (one_of HT_.out (by kernel_rfl)) (by decide) (fun K hK => ?_)
          refine goes_ Try.func10 (by kernel_rfl) rfl #[.agg #[.int .i64 x310000_1, .slice Ao28 x310001_1.length co28], .slice A313_2 ((rd_T38 l1 x9_1).f2).length c313_2] (by rfl) rfl rfl (by (try simp only [List.map_toArray, List.map_cons, List.map_nil]); first | done | rfl | (simp only [List.length_drop, List.length_take]; rfl)) ?_
          with_reducible refine (selfstabref41_Send.calls k1 x310000_1 (fun k_ => ((((P0_1_ k_ ∨ P1_ k_) ∨ w.heap.size ≤ k_) ∧ (some k_ ≠ (u7 : Value).ownBlock ∧ (k_ ≠ gb309 ∧ k_ ≠ gb310))) ∧ k_ ≠ gb319)) _ _ x310001_1 (fun k_ => ((((P0_1_ k_ ∨ P1_ k_) ∨ w.heap.size ≤ k_) ∧ (some k_ ≠ (u7 : Value).ownBlock ∧ (k_ ≠ gb309 ∧ k_ ≠ gb310))) ∧ k_ ≠ gb319)) _ _ ((rd_T38 l1 x9_1).f2) t314 t315 false _ ?side1 ?side2 A13.out).mono ?_
          (case side1 => exact HO_310001.out)
          (case side2 => exact HL313_2.out)
          rintro e w31 ⟨v316, rfl, ho0, hb⟩
          have HS2_ := (hb.cell (World.block_lt_of_cell? _ _ (hHeld.2.2.1))).trans (hHeld.2.2.1)
          have HS3_ := (hb.cell (World.block_lt_of_cell? _ _ (hHeld.2.2.2.1))).trans (hHeld.2.2.2.1)
          have HS4_ := (hb.cell (World.block_lt_of_cell? _ _ (hHeld.2.2.2.2))).trans (hHeld.2.2.2.2)
          refine ⟨_, rfl, ?_⟩
          have n0_ := Aside0.mk (ql_ (by (with_reducible repeat (first | apply qe_ | apply qf_ | apply qh_)); exact HO_1.out) hb)
          have n1_ := Aside0.mk (Kd.N_below (by (with_reducible repeat (first | apply Kd.N_alloc | apply Kd.N_drewN | apply Kd.N_drew)); exact HO_7.out) hb)
          have n2_ := Aside0.mk (ql_ (by (with_reducible repeat (first | apply qe_ | apply qf_ | apply qh_)); exact HO_310001.out) hb)
          have n3_ := Aside0.mk (ql_ (by (with_reducible repeat (first | apply qe_ | apply qf_ | apply qh_)); exact HL312_2.out) hb)
          have n4_ := Aside0.mk (ql_ (by (with_reducible repeat (first | apply qe_ | apply qf_ | apply qh_)); exact HL313_2.out) hb)
          have n5_ := Aside0.mk (Kd.V_lower (qk_ (ok' := fun k_ => ((P0_1_ k_ ∨ P1_ k_) ∨ w.heap.size ≤ k_) ∧ some k_ ≠ (u7 : Value).ownBlock ∧ k_ ≠ gb309 ∧ k_ ≠ gb310 ∧ k_ ≠ gb319) ho0 (fun k_ hk_ => ⟨Or.elim hk_ (fun hs_ => Or.elim hs_ (fun hs_ => hs_.1.1) (fun hs_ => hs_.1.1)) (fun hn_ => (.inr (Nat.le_trans (below_size (by repeat (first | (with_reducible first | exact HB.out | apply qj_ | apply qg_ | apply qi_ | refine qc_ ?_ GE309.out | refine qc_ ?_ GE310.out | refine qc_ ?_ GE319.out) | exact HB.out))) hn_))), Or.elim hk_ (fun hs_ => Or.elim hs_ (fun hs_ => hs_.1.2.1) (fun hs_ => hs_.1.2.1)) (fun hn_ => (Kd.fresh' (Kd.N_lt (by (with_reducible repeat (first | apply Kd.N_alloc | apply Kd.N_drewN | apply Kd.N_drew)); exact HO_7.out)) k_ hn_)), Or.elim hk_ (fun hs_ => Or.elim hs_ (fun hs_ => hs_.1.2.2.1) (fun hs_ => hs_.1.2.2.1)) (fun hn_ => (Kd.freshB (g := gb309) (o := .cells #[.int .i64 x310000_1, .slice Ao28 x310001_1.length co28] 24 (0, 0)) (by (with_reducible repeat (first | refine qa_ ?_ _ | refine qd_ ?_ | refine qb_ ?_ _)); exact BK309.out) k_ hn_)), Or.elim hk_ (fun hs_ => Or.elim hs_ (fun hs_ => hs_.1.2.2.2) (fun hs_ => hs_.1.2.2.2)) (fun hn_ => (Kd.freshB (g := gb310) (o := .cells #[.int .i64 0, .slice none 0 0] 24 (0, 0)) (by (with_reducible repeat (first | refine qa_ ?_ _ | refine qd_ ?_ | refine qb_ ?_ _)); exact BK310.out) k_ hn_)), Or.elim hk_ (fun hs_ => Or.elim hs_ (fun hs_ => hs_.2) (fun hs_ => hs_.2)) (fun hn_ => (Kd.freshB (g := gb319) (o := .cells #[.int .i64 0, .slice none 0 0] 24 (0, 0)) (by (with_reducible repeat (first | refine qa_ ?_ _ | refine qd_ ?_ | refine qb_ ?_ _)); exact BK319.out) k_ hn_))⟩)) (below_size (by repeat (first | (with_reducible first | exact HB.out | apply qj_ | apply qg_ | apply qi_ | refine qc_ ?_ GE309.out | refine qc_ ?_ GE310.out | refine qc_ ?_ GE319.out) | exact HB.out))))
          have n6_ := Aside0.mk (blk_below (g := gb309) (o := .cells #[.int .i64 x310000_1, .slice Ao28 x310001_1.length co28] 24 (0, 0)) (by (with_reducible repeat (first | refine qa_ ?_ _ | refine qd_ ?_ | refine qb_ ?_ _)); exact BK309.out) hb)
          have n7_ := Aside0.mk (blk_below (g := gb310) (o := .cells #[.int .i64 0, .slice none 0 0] 24 (0, 0)) (by (with_reducible repeat (first | refine qa_ ?_ _ | refine qd_ ?_ | refine qb_ ?_ _)); exact BK310.out) hb)
          have n8_ := Aside0.mk (Kd.C_below (by repeat (first | (with_reducible exact HR312_2.out) | (with_reducible refine Kd.C_alloc ?_ _) | (with_reducible refine Kd.C_drewN ?_ _) | (with_reducible refine Kd.C_drew ?_) | exact HR312_2.out)) hb)
          have n9_ := Aside0.mk (Kd.C_below (by repeat (first | (with_reducible exact HR313_2.out) | (with_reducible refine Kd.C_alloc ?_ _) | (with_reducible refine Kd.C_drewN ?_ _) | (with_reducible refine Kd.C_drew ?_) | exact HR313_2.out)) hb)
          have n10_ := Aside0.mk (blk_below (g := gb319) (o := .cells #[.int .i64 0, .slice none 0 0] 24 (0, 0)) (by (with_reducible repeat (first | refine qa_ ?_ _ | refine qd_ ?_ | refine qb_ ?_ _)); exact BK319.out) hb)
          have n11_ := Aside0.mk (below_step (by repeat (first | (with_reducible first | exact HB.out | apply qj_ | apply qg_ | apply qi_ | refine qc_ ?_ GE309.out | refine qc_ ?_ GE310.out | refine qc_ ?_ GE319.out) | exact HB.out)) hb)
          clear HO_1; clear HO_7; clear HO_310001; clear HL312_2; clear HL313_2; clear BK309; clear BK310; clear HR312_2; clear HR313_2; clear BK319; clear HB; have HO_1 := n0_; have HO_7 := n1_; have HO_310001 := n2_; have HL312_2 := n3_; have HL313_2 := n4_; have HO317 := n5_; have BK309 := n6_; have BK310 := n7_; have HR312_2 := n8_; have HR313_2 := n9_; have BK319 := n10_; have HB := n11_; clear n0_ n1_ n2_ n3_ n4_ n5_ n6_ n7_ n8_ n9_ n10_ n11_; (try clear hb); (try clear hb2); (try clear hk); (try clear hi); (try clear ho0)
          refine hK.out _ _ ⟨(qm_ BK309.out 0).trans rfl, (qm_ BK309.out 1).trans rfl, HS2_, HS3_, HS4_⟩ (fun hHeld => ?_)
          clear hK K
          refine norm_ (a' := ?_) ?_ ?_
          rotate_left
          ·show Act.put _ (some 41) _ = _
           simp only [Act.put, List.setIfInBounds_toArray, List.set_cons_zero, List.set_cons_succ, i64_w, i32_w]
           rfl
          refine pure_ (i := 7) (N := some 34) (v := ?_) (a' := ?_) #[true, true, true, true, true, true, true, true, false, false, true, false, false] rfl rfl (any_of HT_.out (by kernel_rfl)) (fun _ _ _ h => h) (Or.inl ⟨by rfl, ?_⟩) ?_ ?_
          rotate_left
          ·intro w'
           go_simp
           with_reducible rfl
          rotate_left
          ·simp only [Act.put, List.setIfInBounds_toArray, List.set_cons_zero, List.set_cons_succ, i64_w, i32_w]
           rfl
          refine pure_ (i := 8) (N := some 42) (v := ?_) (a' := ?_) #[true, true, true, true, true, true, true, true, true, false, true, false, false] rfl rfl (any_of HT_.out (by kernel_rfl)) (fun _ _ _ h => h) (Or.inl ⟨by rfl, ?_⟩) ?_ ?_
          rotate_left
          ·intro w'
           go_simp
           with_reducible rfl
          rotate_left
          ·simp only [Act.put, List.setIfInBounds_toArray, List.set_cons_zero, List.set_cons_succ, i64_w, i32_w]
           rfl
          refine pure_ (i := 9) (N := some 43) (v := ?_) (a' := ?_) #[true, true, true, true, true, true, true, true, true, true, true, false, false] rfl rfl (any_of HT_.out (by kernel_rfl)) (fun _ _ _ h => h) (Or.inl ⟨by rfl, ?_⟩) ?_ ?_
          rotate_left
          ·intro w'
           go_simp
           with_reducible rfl
          rotate_left
          ·simp only [Act.put, List.setIfInBounds_toArray, List.set_cons_zero, List.set_cons_succ, i64_w, i32_w]
           rfl
          exact norm_ (by simp only [putAll, Act.put, List.setIfInBounds_toArray, List.set_cons_zero, List.set_cons_succ]) (hCont (v316, gb319) _ ⟨hHeld, (by (with_reducible repeat (first | apply qe_ | apply qf_ | apply qh_)); exact qk_ HL312_2.out (fun _ hk => ⟨hk.1.1, ⟨hk.1.2.1, ⟨hk.1.2.2.1, ⟨hk.1.2.2.2, hk.2⟩⟩⟩⟩)), (by (with_reducible repeat (first | apply qe_ | apply qf_ | apply qh_)); exact qk_ HL313_2.out (fun _ hk => ⟨hk.1.1, ⟨hk.1.2.1, ⟨hk.1.2.2.1, ⟨hk.1.2.2.2, hk.2⟩⟩⟩⟩)), (by (with_reducible repeat (first | apply qe_ | apply qf_ | apply qh_)); exact HO317.out), (by (with_reducible repeat (first | apply qe_ | apply qf_ | apply qh_)); exact qk_ HO_1.out (fun _ hk => ⟨hk.1.1, ⟨hk.1.2.1, ⟨hk.1.2.2.1, ⟨hk.1.2.2.2, hk.2⟩⟩⟩⟩)), (by (with_reducible repeat (first | apply qe_ | apply qf_ | apply qh_)); exact qk_ HO_310001.out (fun _ hk => ⟨hk.1.1, ⟨hk.1.2.1, ⟨hk.1.2.2.1, ⟨hk.1.2.2.2, hk.2⟩⟩⟩⟩)), (by (with_reducible repeat (first | apply Kd.N_alloc | apply Kd.N_drewN | apply Kd.N_drew)); exact Kd.N_mono HO_7.out (fun _ hk => ⟨hk.1.1, ⟨hk.1.2.1, ⟨hk.1.2.2, hk.2⟩⟩⟩)), (by (with_reducible repeat (first | refine qa_ ?_ _ | refine qd_ ?_ | refine qb_ ?_ _)); exact BK309.out), (by (with_reducible repeat (first | refine qa_ ?_ _ | refine qd_ ?_ | refine qb_ ?_ _)); exact BK310.out), (by (with_reducible repeat (first | refine qa_ ?_ _ | refine qd_ ?_ | refine qb_ ?_ _)); exact BK319.out), GW319.out, GE319.out, NB309_319.out, NB319_309.out, NB310_319.out, NB319_310.out, (by repeat (first | (with_reducible first | exact HB.out | apply qj_ | apply qg_ | apply qi_ | refine qc_ ?_ GE309.out | refine qc_ ?_ GE310.out | refine qc_ ?_ GE319.out) | exact HB.out))⟩)
        rintro ⟨v316, gb319⟩ w32 ⟨hS_, h0_, h1_, h2_, h3_, h4_, h5_, h6_, h7_, h8_, h9_, h10_, h11_, h12_, h13_, h14_, h15_⟩
        have n0_ : Aside0 (Kd.V (Kd.int .i64) 3 w32 w.heap.size (fun k_ => ((P0_1_ k_ ∨ P1_ k_) ∨ w.heap.size ≤ k_) ∧ some k_ ≠ (u7 : Value).ownBlock ∧ k_ ≠ gb309 ∧ k_ ≠ gb310 ∧ k_ ≠ gb319) (.slice A312_2 ((rd_T38 l1 x9_1).f2).length c312_2) ((rd_T38 l1 x9_1).f2)) := ⟨h0_⟩
        have n1_ : Aside0 (Kd.V (Kd.int .i64) 3 w32 w.heap.size (fun k_ => ((P0_1_ k_ ∨ P1_ k_) ∨ w.heap.size ≤ k_) ∧ some k_ ≠ (u7 : Value).ownBlock ∧ k_ ≠ gb309 ∧ k_ ≠ gb310 ∧ k_ ≠ gb319) (.slice A313_2 ((rd_T38 l1 x9_1).f2).length c313_2) ((rd_T38 l1 x9_1).f2)) := ⟨h1_⟩
        have n2_ : Aside0 (Kd.V (Kd.slice 3 (Kd.int .i64)) 25 w32 w.heap.size (fun k_ => ((P0_1_ k_ ∨ P1_ k_) ∨ w.heap.size ≤ k_) ∧ some k_ ≠ (u7 : Value).ownBlock ∧ k_ ≠ gb309 ∧ k_ ≠ gb310 ∧ k_ ≠ gb319) v316 t315) := ⟨h2_⟩
        have n3_ : Aside0 (Kd.V k38 38 w32 w.heap.size (fun k_ => ((P0_1_ k_ ∨ P1_ k_) ∨ w.heap.size ≤ k_) ∧ some k_ ≠ (u7 : Value).ownBlock ∧ k_ ≠ gb309 ∧ k_ ≠ gb310 ∧ k_ ≠ gb319) (.slice (some ad312) l1.length c1) l1) := ⟨h3_⟩
        have n4_ : Aside0 (Kd.V (Kd.slice 3 (Kd.int .i64)) 25 w32 w.heap.size (fun k_ => ((P0_1_ k_ ∨ P1_ k_) ∨ w.heap.size ≤ k_) ∧ some k_ ≠ (u7 : Value).ownBlock ∧ k_ ≠ gb309 ∧ k_ ≠ gb310 ∧ k_ ≠ gb319) (.slice Ao28 x310001_1.length co28) x310001_1) := ⟨h4_⟩
        have n5_ : Aside0 (Kd.N (Kd.slice 3 (Kd.int .i64)) 25 w32 w.heap.size (fun k_ => ((P0_1_ k_ ∨ P1_ k_) ∨ w.heap.size ≤ k_) ∧ k_ ≠ gb309 ∧ k_ ≠ gb310 ∧ k_ ≠ gb319) u7 x7_1) := ⟨h5_⟩
        have n6_ : Aside0 (w32.heap[gb309]? = some (.cells #[.int .i64 x310000_1, .slice Ao28 x310001_1.length co28] 24 (0, 0))) := ⟨h6_⟩
        have n7_ : Aside0 (w32.heap[gb310]? = some (.cells #[.int .i64 0, .slice none 0 0] 24 (0, 0))) := ⟨h7_⟩
        have n8_ : Aside0 (w32.heap[gb319]? = some (.cells #[.int .i64 0, .slice none 0 0] 24 (0, 0))) := ⟨h8_⟩
        have n9_ : Aside0 (w.heap.size ≤ gb319) := ⟨h9_⟩
        have n10_ : Aside0 (w.heap.size ≤ gb319) := ⟨h10_⟩
        have n11_ : Aside0 (gb309 ≠ gb319) := ⟨h11_⟩
        have n12_ : Aside0 (gb319 ≠ gb309) := ⟨h12_⟩
        have n13_ : Aside0 (gb310 ≠ gb319) := ⟨h13_⟩
        have n14_ : Aside0 (gb319 ≠ gb310) := ⟨h14_⟩
        have n15_ : Aside0 (Below w.heap.size w w32) := ⟨h15_⟩
        clear HO_1; clear HO_7; clear HO_310001; clear HL312_2; clear BK309; clear BK310; clear HR312_2; clear HB; clear h0_ h1_ h2_ h3_ h4_ h5_ h6_ h7_ h8_ h9_ h10_ h11_ h12_ h13_ h14_ h15_; have HL312_2 := n0_; have HL313_2 := n1_; have HO317 := n2_; have HO_1 := n3_; have HO_310001 := n4_; have HO_7 := n5_; have BK309 := n6_; have BK310 := n7_; have BK319 := n8_; have GW319 := n9_; have GE319 := n10_; have NB309_319 := n11_; have NB319_309 := n12_; have NB310_319 := n13_; have NB319_310 := n14_; have HB := n15_; clear n0_ n1_ n2_ n3_ n4_ n5_ n6_ n7_ n8_ n9_ n10_ n11_ n12_ n13_ n14_ n15_
        have hHeld : w32.cell? ⟨gb309, 0, none⟩ = some (.int .i64 x310000_1) ∧ w32.cell? ⟨gb309, 1, none⟩ = some (.slice Ao28 x310001_1.length co28) ∧ w32.cell? (ad312.add ((x9_1).toNat * 3)) = some (.int .i64 ((rd_T38 l1 x9_1).f0)) ∧ w32.cell? ⟨(ad312.add ((x9_1).toNat * 3)).block, (ad312.add ((x9_1).toNat * 3)).off + 1, none⟩ = some (.int .i64 ((rd_T38 l1 x9_1).f1)) ∧ w32.cell? ⟨(ad312.add ((x9_1).toNat * 3)).block, (ad312.add ((x9_1).toNat * 3)).off + 2, none⟩ = some (.slice A313_2 ((rd_T38 l1 x9_1).f2).length c313_2) := hS_
        obtain ⟨Ao34, co34, eo34⟩ := Kd.V_slice HO317.out
        (first | subst eo34 | (injection eo34 with f1_ f2_ f3_; have f4_ := f1_.symm; have f5_ := f3_.symm; clear f1_ f2_ f3_; subst f4_; subst f5_))
        refine norm_ (a' := ?_) ?_ ?_
        rotate_left
        ·simp only [putAll, Act.put, List.setIfInBounds_toArray, List.set_cons_zero, List.set_cons_succ]
         rfl
        refine one_ (i := 11) (N := none) #[true, true, true, true, true, true, true, true, true, true, true, true, false] rfl rfl (one_of HT_.out (by kernel_rfl)) (by decide) (fun K hK => ?_)
        have hs33 : w32.cell? ⟨gb319, 0, none⟩ = some (.int .i64 0) := (qm_ BK319.out 0).trans rfl
        have hfs33 := blk_frozen BK319.out 0
        have hns33_0 := NB309_319.out
        have hns33_1 := NB310_319.out
        have hms33_0 := NB319_309.out
        have hms33_1 := NB319_310.out
        have hs35 : w32.cell? ⟨gb319, 1, none⟩ = some (.slice none 0 0) := (qm_ BK319.out 1).trans rfl
        have hfs35 := blk_frozen BK319.out 1
        have hns35_0 := NB309_319.out
        have hns35_1 := NB310_319.out
        have hms35_0 := NB319_309.out
        have hms35_1 := NB319_310.out
        refine skip_ (w1 := ?_) (by rfl) rfl ?_ ?_
        rotate_left
        ·go_simp
         rfl
        refine hK.out _ _ ⟨((cell_far (p := ⟨gb319, _, none⟩) NB309_319.out _).trans (((cell_far (p := ⟨gb319, _, none⟩) NB309_319.out _).trans (hHeld.1)))), ((cell_far (p := ⟨gb319, _, none⟩) NB309_319.out _).trans (((cell_far (p := ⟨gb319, _, none⟩) NB309_319.out _).trans (hHeld.2.1)))), ((cell_far (p := ⟨gb319, _, none⟩) (by have e_ := Kd.own_blk (vA_ HO_1.out c11b0 c10b0 (by decide) (fun _ hk => hk.2.2.2.2)); first | exact e_ | (rw [add_block]; exact e_) | (show (Addr.add _ _).block ≠ _; rw [add_block]; exact e_) | (dsimp only; exact e_)) _).trans (((cell_far (p := ⟨gb319, _, none⟩) (by have e_ := Kd.own_blk (vA_ HO_1.out c11b0 c10b0 (by decide) (fun _ hk => hk.2.2.2.2)); first | exact e_ | (rw [add_block]; exact e_) | (show (Addr.add _ _).block ≠ _; rw [add_block]; exact e_) | (dsimp only; exact e_)) _).trans (hHeld.2.2.1)))), ((cell_far (p := ⟨gb319, _, none⟩) (by have e_ := Kd.own_blk (vA_ HO_1.out c11b0 c10b0 (by decide) (fun _ hk => hk.2.2.2.2)); first | exact e_ | (rw [add_block]; exact e_) | (show (Addr.add _ _).block ≠ _; rw [add_block]; exact e_) | (dsimp only; exact e_)) _).trans (((cell_far (p := ⟨gb319, _, none⟩) (by have e_ := Kd.own_blk (vA_ HO_1.out c11b0 c10b0 (by decide) (fun _ hk => hk.2.2.2.2)); first | exact e_ | (rw [add_block]; exact e_) | (show (Addr.add _ _).block ≠ _; rw [add_block]; exact e_) | (dsimp only; exact e_)) _).trans (hHeld.2.2.2.1)))), ((cell_far (p := ⟨gb319, _, none⟩) (by have e_ := Kd.own_blk (vA_ HO_1.out c11b0 c10b0 (by decide) (fun _ hk => hk.2.2.2.2)); first | exact e_ | (rw [add_block]; exact e_) | (show (Addr.add _ _).block ≠ _; rw [add_block]; exact e_) | (dsimp only; exact e_)) _).trans (((cell_far (p := ⟨gb319, _, none⟩) (by have e_ := Kd.own_blk (vA_ HO_1.out c11b0 c10b0 (by decide) (fun _ hk => hk.2.2.2.2)); first | exact e_ | (rw [add_block]; exact e_) | (show (Addr.add _ _).block ≠ _; rw [add_block]; exact e_) | (dsimp only; exact e_)) _).trans (hHeld.2.2.2.2))))⟩ (fun hHeld => ?_)
        clear hK K
        refine pure_ (i := 12) (N := some 11) (v := ?_) (a' := ?_) #[true, true, true, true, true, true, true, true, true, true, true, true, true] rfl rfl (any_of HT_.out (by kernel_rfl)) (fun _ _ _ h => h) (Or.inl ⟨by rfl, ?_⟩) ?_ ?_
        rotate_left
        ·intro w'
         go_simp
         with_reducible rfl
        rotate_left
        ·simp only [Act.put, List.setIfInBounds_toArray, List.set_cons_zero, List.set_cons_succ, i64_w, i32_w]
         rfl
        refine done_ (done_of HT_.out (by kernel_rfl)) ?_
        have hnb36 := NB319_309.out
        have hnc36 := NB309_319.out
        have hnb37 := NB319_310.out
        have hnc37 := NB310_319.out
        have hcz38_0 : w32.cell? ⟨gb319, 0, none⟩ = some (.int .i64 0) := (qm_ BK319.out 0).trans rfl
        have hcz38_1 : w32.cell? ⟨gb319, 1, none⟩ = some (.slice none 0 0) := (qm_ BK319.out 1).trans rfl
        have hfz38_0 := blk_frozen BK319.out 0
        have hfz38_1 := blk_frozen BK319.out 1
        have hnb39 := NB309_310.out
        have hnc39 := NB310_309.out
        have hcz40_0 : w32.cell? ⟨gb309, 0, none⟩ = some (.int .i64 x310000_1) := (qm_ BK309.out 0).trans rfl
        have hcz40_1 : w32.cell? ⟨gb309, 1, none⟩ = some (.slice Ao28 x310001_1.length co28) := (qm_ BK309.out 1).trans rfl
        have hfz40_0 := blk_frozen BK309.out 0
        have hfz40_1 := blk_frozen BK309.out 1
        try go_wp2
        go_roundg k1
        case measure => have := HK1.out; omega
        case rel => exact ⟨(x7_1), (wrap64 (x8_1 + 1)), (wrap64 (x9_1 + 1)), (t314), (t315), (.slice Ao34 t315.length co34), (by first | rfl | (simp; done) | (simp [*]; done)), (by first | rfl | (simp; done) | (simp [*]; done)), H', ⟨by have := HK1.out; omega⟩, ⟨by (with_reducible repeat (first | apply qe_ | apply qf_ | apply qh_)); exact qk_ (Kd.V_far (p := ⟨gb309, 1, none⟩) (Kd.V_far (p := ⟨gb309, 0, none⟩) (Kd.V_far (p := ⟨gb319, 1, none⟩) (Kd.V_far (p := ⟨gb319, 0, none⟩) (qk_ (qk_ HO_1.out (fun k_ hk => (⟨hk, hk.2.2.2.2⟩ : _ ∧ k_ ≠ gb319))) (fun k_ hk => (⟨hk, hk.1.2.2.1⟩ : _ ∧ k_ ≠ gb309))) (fun _ hk => hk.1.2) (.int .i64 t314)) (fun _ hk => hk.1.2) (.slice Ao34 t315.length co34)) (fun _ hk => hk.2) (.int .i64 t314)) (fun _ hk => hk.2) (.slice Ao34 t315.length co34)) (fun _ hk => ⟨hk.1.1.1, ⟨hk.1.1.2.1, ⟨hk.1.1.2.2.1, hk.1.1.2.2.2.1⟩⟩⟩)⟩, ⟨by (with_reducible repeat (first | apply Kd.N_alloc | apply Kd.N_drewN | apply Kd.N_drew)); exact Kd.N_mono (Kd.N_far (p := ⟨gb309, 1, none⟩) (Kd.N_far (p := ⟨gb309, 0, none⟩) (Kd.N_far (p := ⟨gb319, 1, none⟩) (Kd.N_far (p := ⟨gb319, 0, none⟩) (Kd.N_mono (Kd.N_mono HO_7.out (fun k_ hk => (⟨hk, hk.2.2.2⟩ : _ ∧ k_ ≠ gb319))) (fun k_ hk => (⟨hk, hk.1.2.1⟩ : _ ∧ k_ ≠ gb309))) (fun _ hk => hk.1.2) (.int .i64 t314)) (fun _ hk => hk.1.2) (.slice Ao34 t315.length co34)) (fun _ hk => hk.2) (.int .i64 t314)) (fun _ hk => hk.2) (.slice Ao34 t315.length co34)) (fun _ hk => ⟨hk.1.1.1, ⟨hk.1.1.2.1, hk.1.1.2.2.1⟩⟩)⟩, ⟨by (with_reducible repeat (first | apply qe_ | apply qf_ | apply qh_)); exact qk_ (Kd.V_far (p := ⟨gb309, 1, none⟩) (Kd.V_far (p := ⟨gb309, 0, none⟩) (Kd.V_far (p := ⟨gb319, 1, none⟩) (Kd.V_far (p := ⟨gb319, 0, none⟩) (qk_ (qk_ HO317.out (fun k_ hk => (⟨hk, hk.2.2.2.2⟩ : _ ∧ k_ ≠ gb319))) (fun k_ hk => (⟨hk, hk.1.2.2.1⟩ : _ ∧ k_ ≠ gb309))) (fun _ hk => hk.1.2) (.int .i64 t314)) (fun _ hk => hk.1.2) (.slice Ao34 t315.length co34)) (fun _ hk => hk.2) (.int .i64 t314)) (fun _ hk => hk.2) (.slice Ao34 t315.length co34)) (fun _ hk => ⟨hk.1.1.1, ⟨hk.1.1.2.1, ⟨hk.1.1.2.2.1, hk.1.1.2.2.2.1⟩⟩⟩)⟩, ⟨by (with_reducible repeat (first | refine qa_ ?_ _ | refine qd_ ?_ | refine qb_ ?_ _)); refine blk_put (cs := #[.int .i64 t314, .slice Ao28 x310001_1.length co28]) ?_ 1 _ rfl; (with_reducible repeat (first | refine qa_ ?_ _ | refine qd_ ?_ | refine qb_ ?_ _)); refine blk_put (cs := #[.int .i64 x310000_1, .slice Ao28 x310001_1.length co28]) ?_ 0 _ rfl; (with_reducible repeat (first | refine qa_ ?_ _ | refine qd_ ?_ | refine qb_ ?_ _)); refine blk_far ?_ NB309_319.out _; (with_reducible repeat (first | refine qa_ ?_ _ | refine qd_ ?_ | refine qb_ ?_ _)); refine blk_far ?_ NB309_319.out _; (with_reducible repeat (first | refine qa_ ?_ _ | refine qd_ ?_ | refine qb_ ?_ _)); exact BK309.out⟩, ⟨by (with_reducible repeat (first | refine qa_ ?_ _ | refine qd_ ?_ | refine qb_ ?_ _)); refine blk_far ?_ NB310_309.out _; (with_reducible repeat (first | refine qa_ ?_ _ | refine qd_ ?_ | refine qb_ ?_ _)); refine blk_far ?_ NB310_309.out _; (with_reducible repeat (first | refine qa_ ?_ _ | refine qd_ ?_ | refine qb_ ?_ _)); refine blk_far ?_ NB310_319.out _; (with_reducible repeat (first | refine qa_ ?_ _ | refine qd_ ?_ | refine qb_ ?_ _)); refine blk_far ?_ NB310_319.out _; (with_reducible repeat (first | refine qa_ ?_ _ | refine qd_ ?_ | refine qb_ ?_ _)); exact BK310.out⟩, ⟨by repeat (first | (with_reducible first | exact HB.out | apply qj_ | apply qg_ | apply qi_ | refine qc_ ?_ GE309.out | refine qc_ ?_ GE310.out | refine qc_ ?_ GE319.out) | exact HB.out)⟩⟩
      ·rw [if_neg c12] at H
       have c12b0 : (((rd_T38 l1 x9_1).f0) == 1) = false := beq_eq_false_iff_ne.mpr c12
       have c12b1 : (((rd_T38 l1 x9_1).f0) != 1) = true := bne_iff_ne.mpr c12
       by_cases c41 : ((rd_T38 l1 x9_1).f0) = 2
       ·rw [if_pos c41] at H
        have c41b0 : (((rd_T38 l1 x9_1).f0) == 2) = true := beq_iff_eq.mpr c41
        have c41b1 : (((rd_T38 l1 x9_1).f0) != 2) = false := bne_eq_false_iff_eq.mpr c41
        clear c41
        replace H := Option.bind_eq_some_iff.mp H
        obtain ⟨⟨t320, t321, t324, t327⟩, A420, H⟩ := H
        replace H : (if t327 = true then (if x7_1.length < 5864062014805 then (selfstabref41_Play.l0 k1 l1 (x7_1 ++ [t324]) x8_1 (wrap64 (x9_1 + 1)) t320 t321) else (none)) else (selfstabref41_Play.l0 k1 l1 x7_1 x8_1 (wrap64 (x9_1 + 1)) t320 t321)) = some (r1, r2, r3, r4) := H
        have A42 := Aside0.mk A420
        clear A420
        by_cases c43 : t327 = true
        ·subst c43
         have H1 : (if x7_1.length < 5864062014805 then (selfstabref41_Play.l0 k1 l1 (x7_1 ++ [t324]) x8_1 (wrap64 (x9_1 + 1)) t320 t321) else (none)) = some (r1, r2, r3, r4) := by rw [if_pos rfl] at H; exact H
         clear H
         have H := H1
         clear H1
         by_cases c44 : x7_1.length < 5864062014805
         ·rw [if_pos c44] at H
          have LMc44 := Aside0.mk c44
          clear c44
          obtain ⟨y329, hy329⟩ : ∃ y_ : List (List Int), y_ = (x7_1 ++ [t324]) := ⟨_, rfl⟩
          replace H : (selfstabref41_Play.l0 k1 l1 y329 x8_1 (wrap64 (x9_1 + 1)) t320 t321) = some (r1, r2, r3, r4) := by first | (rw [hy329]; with_reducible exact H) | (have H2_ := (Option.bind_some _ _).symm.trans H; rw [hy329]; with_reducible exact H2_) | (have H2_ := (Option.bind_some _ _).symm.trans H; with_reducible exact H2_) | with_reducible exact H | (rw [hy329]; exact H) | exact H
          have Ny329 := Aside0.mk hy329
          clear hy329
          have H' := Aside0.mk H
          clear H
          have p312 : 0 ≤ (x9_1 : Int) := of_decide_eq_true (by first | (with_reducible assumption) | assumption)
          have q312 : x9_1 < (l1.length : Int) := of_decide_eq_true (by first | (with_reducible assumption) | assumption)
          (try (obtain ⟨Az312, cz312, ez312⟩ := Kd.V_slice HO_1.out; subst ez312))
          obtain ⟨ad312, A312_2, c312_2, e312, hx312_0, hx312_1, hx312_2, hl312_2, hi312_2⟩ := at_T38 (Kd.V_reads' HO_1.out).2.2 x9_1 p312 q312
          cases e312
          obtain ⟨ce312, hce312, hMe312, hcc312⟩ := Kd.V_get HO_1.out z38 x9_1 p312 (by first | exact q312 | exact of_decide_eq_true (by first | (with_reducible assumption) | assumption) | (have e_ := (Kd.V_reads' HO_1.out).1; omega))
          obtain ⟨ua312_2, uc312_2, rfl, ul312_2, ge312_2⟩ := k38_openF hMe312
          have hv312_2 := hcc312 2 _ rfl
          rw [add_field _ _ 2 (by omega)] at hv312_2
          replace hv312_2 := Option.some.inj (hv312_2.symm.trans hx312_2)
          injection hv312_2 with hva_ hvn_ hvc_
          rw [hva_] at ge312_2
          rw [hvc_] at ul312_2
          have HL312_2 := Aside0.mk (show Kd.V (Kd.int .i64) 3 _ w.heap.size _ _ ((rd_T38 l1 x9_1).f2) from Kd.V_mk ul312_2 ge312_2)
          clear hva_ hvn_ hvc_ ge312_2 ul312_2; clear hcc312 hce312
          have HR312_2 := Aside0.mk hi312_2
          have HC312_2 := Aside0.mk hl312_2
          clear hi312_2 hl312_2
          replace p312 := eq_true p312
          replace q312 := eq_true q312
          have hnb45 := NB309_310.out
          have hnc45 := NB310_309.out
          have hcz46_0 : wr.cell? ⟨gb309, 0, none⟩ = some (.int .i64 x310000_1) := (qm_ BK309.out 0).trans rfl
          have hcz46_1 : wr.cell? ⟨gb309, 1, none⟩ = some (u310001) := (qm_ BK309.out 1).trans rfl
          have hfz46_0 := blk_frozen BK309.out 0
          have hfz46_1 := blk_frozen BK309.out 1
          obtain ⟨Ao47, co47, eo47⟩ := Kd.V_slice HO_310001.out
          subst eo47
          go_wp2_with (first | ((with_reducible refine gate_callee (f := 12) rfl ?_); refine goesL_ (some 53) rfl rfl Try.func12 (by kernel_rfl) rfl #[.agg #[.int .i64 x310000_1, .slice Ao47 x310001_1.length co47]] rfl (by (try simp only [List.map_toArray, List.map_cons, List.map_nil]); first | done | rfl | (simp only [List.length_drop, List.length_take]; rfl)) ?_; (with_reducible refine (selfstabref41_Receive.calls k1 x310000_1 (fun k_ => (((P0_1_ k_ ∨ P1_ k_) ∨ w.heap.size ≤ k_) ∧ (some k_ ≠ (u7 : Value).ownBlock ∧ (k_ ≠ gb309 ∧ k_ ≠ gb310)))) _ _ x310001_1 t320 t321 t324 true _ ?side1 A42.out).mono ?_); (case side1 => exact HO_310001.out); rintro e w48 ⟨v322, v325, rfl, ho0, ho1, hb⟩; refine ⟨_, rfl, ?_⟩; have n0_ := Aside0.mk (ql_ (by (with_reducible repeat (first | apply qe_ | apply qf_ | apply qh_)); exact HO_1.out) hb); have n1_ := Aside0.mk (Kd.N_below (by (with_reducible repeat (first | apply Kd.N_alloc | apply Kd.N_drewN | apply Kd.N_drew)); exact HO_7.out) hb); have n2_ := Aside0.mk (ql_ (by (with_reducible repeat (first | apply qe_ | apply qf_ | apply qh_)); exact HO_310001.out) hb); have n3_ := Aside0.mk (ql_ (by (with_reducible repeat (first | apply qe_ | apply qf_ | apply qh_)); exact HL312_2.out) hb); have n4_ := Aside0.mk (Kd.V_lower (qk_ (ok' := fun k_ => ((P0_1_ k_ ∨ P1_ k_) ∨ w.heap.size ≤ k_) ∧ some k_ ≠ (u7 : Value).ownBlock ∧ k_ ≠ gb309 ∧ k_ ≠ gb310) ho0 (fun k_ hk_ => ⟨Or.elim hk_ (fun hs_ => hs_.1) (fun hn_ => (.inr (Nat.le_trans (below_size (by repeat (first | (with_reducible first | exact HB.out | apply qj_ | apply qg_ | apply qi_ | refine qc_ ?_ GE309.out | refine qc_ ?_ GE310.out) | exact HB.out))) hn_))), Or.elim hk_ (fun hs_ => hs_.2.1) (fun hn_ => (Kd.fresh' (Kd.N_lt (by (with_reducible repeat (first | apply Kd.N_alloc | apply Kd.N_drewN | apply Kd.N_drew)); exact HO_7.out)) k_ hn_)), Or.elim hk_ (fun hs_ => hs_.2.2.1) (fun hn_ => (Kd.freshB (g := gb309) (o := .cells #[.int .i64 x310000_1, .slice Ao47 x310001_1.length co47] 24 (0, 0)) (by (with_reducible repeat (first | refine qa_ ?_ _ | refine qd_ ?_ | refine qb_ ?_ _)); exact BK309.out) k_ hn_)), Or.elim hk_ (fun hs_ => hs_.2.2.2) (fun hn_ => (Kd.freshB (g := gb310) (o := .cells #[.int .i64 0, .slice none 0 0] 24 (0, 0)) (by (with_reducible repeat (first | refine qa_ ?_ _ | refine qd_ ?_ | refine qb_ ?_ _)); exact BK310.out) k_ hn_))⟩)) (below_size (by repeat (first | (with_reducible first | exact HB.out | apply qj_ | apply qg_ | apply qi_ | refine qc_ ?_ GE309.out | refine qc_ ?_ GE310.out) | exact HB.out)))); have n5_ := Aside0.mk (Kd.V_lower (qk_ (ok' := fun k_ => ((P0_1_ k_ ∨ P1_ k_) ∨ w.heap.size ≤ k_) ∧ some k_ ≠ (u7 : Value).ownBlock ∧ k_ ≠ gb309 ∧ k_ ≠ gb310) ho1 (fun k_ hk_ => ⟨Or.elim hk_ (fun hs_ => hs_.1) (fun hn_ => (.inr (Nat.le_trans (below_size (by repeat (first | (with_reducible first | exact HB.out | apply qj_ | apply qg_ | apply qi_ | refine qc_ ?_ GE309.out | refine qc_ ?_ GE310.out) | exact HB.out))) hn_))), Or.elim hk_ (fun hs_ => hs_.2.1) (fun hn_ => (Kd.fresh' (Kd.N_lt (by (with_reducible repeat (first | apply Kd.N_alloc | apply Kd.N_drewN | apply Kd.N_drew)); exact HO_7.out)) k_ hn_)), Or.elim hk_ (fun hs_ => hs_.2.2.1) (fun hn_ => (Kd.freshB (g := gb309) (o := .cells #[.int .i64 x310000_1, .slice Ao47 x310001_1.length co47] 24 (0, 0)) (by (with_reducible repeat (first | refine qa_ ?_ _ | refine qd_ ?_ | refine qb_ ?_ _)); exact BK309.out) k_ hn_)), Or.elim hk_ (fun hs_ => hs_.2.2.2) (fun hn_ => (Kd.freshB (g := gb310) (o := .cells #[.int .i64 0, .slice none 0 0] 24 (0, 0)) (by (with_reducible repeat (first | refine qa_ ?_ _ | refine qd_ ?_ | refine qb_ ?_ _)); exact BK310.out) k_ hn_))⟩)) (below_size (by repeat (first | (with_reducible first | exact HB.out | apply qj_ | apply qg_ | apply qi_ | refine qc_ ?_ GE309.out | refine qc_ ?_ GE310.out) | exact HB.out)))); have n6_ := Aside0.mk (blk_below (g := gb309) (o := .cells #[.int .i64 x310000_1, .slice Ao47 x310001_1.length co47] 24 (0, 0)) (by (with_reducible repeat (first | refine qa_ ?_ _ | refine qd_ ?_ | refine qb_ ?_ _)); exact BK309.out) hb); have n7_ := Aside0.mk (blk_below (g := gb310) (o := .cells #[.int .i64 0, .slice none 0 0] 24 (0, 0)) (by (with_reducible repeat (first | refine qa_ ?_ _ | refine qd_ ?_ | refine qb_ ?_ _)); exact BK310.out) hb); have n8_ := Aside0.mk (Kd.C_below (by repeat (first | (with_reducible exact HR312_2.out) | (with_reducible refine Kd.C_alloc ?_ _) | (with_reducible refine Kd.C_drewN ?_ _) | (with_reducible refine Kd.C_drew ?_) | exact HR312_2.out)) hb); have n9_ := Aside0.mk (below_step (by repeat (first | (with_reducible first | exact HB.out | apply qj_ | apply qg_ | apply qi_ | refine qc_ ?_ GE309.out | refine qc_ ?_ GE310.out) | exact HB.out)) hb); clear HO_1; clear HO_7; clear HO_310001; clear HL312_2; clear BK309; clear BK310; clear HR312_2; clear HB; have HO_1 := n0_; have HO_7 := n1_; have HO_310001 := n2_; have HL312_2 := n3_; have HO323 := n4_; have HO326 := n5_; have BK309 := n6_; have BK310 := n7_; have HR312_2 := n8_; have HB := n9_; clear n0_ n1_ n2_ n3_ n4_ n5_ n6_ n7_ n8_ n9_; (try clear hb); (try clear hb2); (try clear hk); (try clear hi); (try clear ho0); (try clear ho1)) | ((with_reducible refine gate_dst (N := 12) rfl ?_); refine box_event ?hg (N := 12) ?hd (cs := #[.int .i64 0, .slice none 0 0]) (t := 24) ?hr ?_; (case hd => rfl); (case hg => rfl); (case hr => first | (go_simp; done) | (go_simp; rfl)); intro gb328 hg w49 hbox hb; have n0_ := Aside0.mk (ql_ (Kd.V_elderB (by (with_reducible repeat (first | apply qe_ | apply qf_ | apply qh_)); exact HO_1.out) gb328 (Nat.le_of_eq hg.symm)) hb); have n1_ := Aside0.mk (Kd.N_below (Kd.N_elderB (by (with_reducible repeat (first | apply Kd.N_alloc | apply Kd.N_drewN | apply Kd.N_drew)); exact HO_7.out) gb328 (Nat.le_of_eq hg.symm)) hb); have n2_ := Aside0.mk (ql_ (Kd.V_elderB (by (with_reducible repeat (first | apply qe_ | apply qf_ | apply qh_)); exact HO_310001.out) gb328 (Nat.le_of_eq hg.symm)) hb); have n3_ := Aside0.mk (ql_ (Kd.V_elderB (by (with_reducible repeat (first | apply qe_ | apply qf_ | apply qh_)); exact HL312_2.out) gb328 (Nat.le_of_eq hg.symm)) hb); have n4_ := Aside0.mk (ql_ (Kd.V_elderB (by (with_reducible repeat (first | apply qe_ | apply qf_ | apply qh_)); exact HO323.out) gb328 (Nat.le_of_eq hg.symm)) hb); have n5_ := Aside0.mk (ql_ (Kd.V_elderB (by (with_reducible repeat (first | apply qe_ | apply qf_ | apply qh_)); exact HO326.out) gb328 (Nat.le_of_eq hg.symm)) hb); have n6_ := Aside0.mk (blk_below (g := gb309) (o := .cells #[.int .i64 x310000_1, .slice Ao47 x310001_1.length co47] 24 (0, 0)) (by (with_reducible repeat (first | refine qa_ ?_ _ | refine qd_ ?_ | refine qb_ ?_ _)); exact BK309.out) hb); have n7_ := Aside0.mk (blk_below (g := gb310) (o := .cells #[.int .i64 0, .slice none 0 0] 24 (0, 0)) (by (with_reducible repeat (first | refine qa_ ?_ _ | refine qd_ ?_ | refine qb_ ?_ _)); exact BK310.out) hb); have n8_ := Aside0.mk (Kd.C_below (by repeat (first | (with_reducible exact HR312_2.out) | (with_reducible refine Kd.C_alloc ?_ _) | (with_reducible refine Kd.C_drewN ?_ _) | (with_reducible refine Kd.C_drew ?_) | exact HR312_2.out)) hb); have n9_ := Aside0.mk (below_step (by repeat (first | (with_reducible first | exact HB.out | apply qj_ | apply qg_ | apply qi_ | refine qc_ ?_ GE309.out | refine qc_ ?_ GE310.out) | exact HB.out)) hb); have n10_ := Aside0.mk (hbox); have n11_ := Aside0.mk ((by rw [hg]; exact (below_size (by repeat (first | (with_reducible first | exact HB.out | apply qj_ | apply qg_ | apply qi_ | refine qc_ ?_ GE309.out | refine qc_ ?_ GE310.out) | exact HB.out))) : w.heap.size ≤ gb328)); have n12_ := Aside0.mk ((by rw [hg]; exact (below_size (by repeat (first | (with_reducible first | exact HB.out | apply qj_ | apply qg_ | apply qi_ | refine qc_ ?_ GE309.out | refine qc_ ?_ GE310.out) | exact HB.out))) : w.heap.size ≤ gb328)); have n13_ := Aside0.mk ((by rw [hg]; exact Nat.ne_of_lt (blk_lt (g := gb309) (o := .cells #[.int .i64 x310000_1, .slice Ao47 x310001_1.length co47] 24 (0, 0)) (by (with_reducible repeat (first | refine qa_ ?_ _ | refine qd_ ?_ | refine qb_ ?_ _)); exact BK309.out)) : gb309 ≠ gb328)); have n14_ := Aside0.mk ((by rw [hg]; exact Nat.ne_of_gt (blk_lt (g := gb309) (o := .cells #[.int .i64 x310000_1, .slice Ao47 x310001_1.length co47] 24 (0, 0)) (by (with_reducible repeat (first | refine qa_ ?_ _ | refine qd_ ?_ | refine qb_ ?_ _)); exact BK309.out)) : gb328 ≠ gb309)); have n15_ := Aside0.mk ((by rw [hg]; exact Nat.ne_of_lt (blk_lt (g := gb310) (o := .cells #[.int .i64 0, .slice none 0 0] 24 (0, 0)) (by (with_reducible repeat (first | refine qa_ ?_ _ | refine qd_ ?_ | refine qb_ ?_ _)); exact BK310.out)) : gb310 ≠ gb328)); have n16_ := Aside0.mk ((by rw [hg]; exact Nat.ne_of_gt (blk_lt (g := gb310) (o := .cells #[.int .i64 0, .slice none 0 0] 24 (0, 0)) (by (with_reducible repeat (first | refine qa_ ?_ _ | refine qd_ ?_ | refine qb_ ?_ _)); exact BK310.out)) : gb328 ≠ gb310)); clear HO_1; clear HO_7; clear HO_310001; clear HL312_2; clear HO323; clear HO326; clear BK309; clear BK310; clear HR312_2; clear HB; have HO_1 := n0_; have HO_7 := n1_; have HO_310001 := n2_; have HL312_2 := n3_; have HO323 := n4_; have HO326 := n5_; have BK309 := n6_; have BK310 := n7_; have HR312_2 := n8_; have HB := n9_; have BK328 := n10_; have GW328 := n11_; have GE328 := n12_; have NB309_328 := n13_; have NB328_309 := n14_; have NB310_328 := n15_; have NB328_310 := n16_; clear n0_ n1_ n2_ n3_ n4_ n5_ n6_ n7_ n8_ n9_ n10_ n11_ n12_ n13_ n14_ n15_ n16_; clear hb hbox hg; have hnb50 := NB328_309.out; have hnc50 := NB309_328.out; have hnb51 := NB328_310.out; have hnc51 := NB310_328.out; have hcz52_0 : w49.cell? ⟨gb328, 0, none⟩ = some (.int .i64 0) := (qm_ BK328.out 0).trans rfl; have hcz52_1 : w49.cell? ⟨gb328, 1, none⟩ = some (.slice none 0 0) := (qm_ BK328.out 1).trans rfl; have hfz52_0 := blk_frozen BK328.out 0; have hfz52_1 := blk_frozen BK328.out 1; obtain ⟨Ao53, co53, eo53⟩ := Kd.V_slice HO323.out; subst eo53) | ((with_reducible refine gate_store (t := 24) (p := 12) rfl ?_); refine store_event (t := 24) (p := 12) (v := ?vo_w54) (w1 := ((w49.setCell ⟨gb328, 0, none⟩ (.int .i64 t320)).setCell ⟨gb328, 1, none⟩ (.slice Ao53 t321.length co53))) ?hg ?ho ?hn ?hr ?_; (case ho => rfl); (case hg => rfl); (case hn => rfl); (case hr => first | (go_simp; done) | (go_simp; rfl)); intro w54 hw; have n0_ : Aside0 (Kd.V k38 38 w54 w.heap.size (fun k_ => ((P0_1_ k_ ∨ P1_ k_) ∨ w.heap.size ≤ k_) ∧ some k_ ≠ (u7 : Value).ownBlock ∧ k_ ≠ gb309 ∧ k_ ≠ gb310 ∧ k_ ≠ gb328) (.slice (some ad312) l1.length c1) l1) := ⟨(by rw [hw]; exact (by (with_reducible repeat (first | apply qe_ | apply qf_ | apply qh_)); exact qk_ (Kd.V_far (p := ⟨gb328, 1, none⟩) (Kd.V_far (p := ⟨gb328, 0, none⟩) (qk_ HO_1.out (fun k_ hk => (⟨hk, by first | exact hk.2 | exact hk.2.2 | exact hk.2.2.2⟩ : _ ∧ k_ ≠ gb328))) (fun _ hk => hk.2) (.int .i64 t320)) (fun _ hk => hk.2) (.slice Ao53 t321.length co53)) (fun _ hk => ⟨hk.1.1.1, ⟨hk.1.1.2.1, ⟨hk.1.1.2.2.1, ⟨hk.1.1.2.2.2, hk.1.2⟩⟩⟩⟩)))⟩; have n1_ : Aside0 (Kd.N (Kd.slice 3 (Kd.int .i64)) 25 w54 w.heap.size (fun k_ => ((P0_1_ k_ ∨ P1_ k_) ∨ w.heap.size ≤ k_) ∧ k_ ≠ gb309 ∧ k_ ≠ gb310 ∧ k_ ≠ gb328) u7 x7_1) := ⟨(by rw [hw]; exact (by (with_reducible repeat (first | apply Kd.N_alloc | apply Kd.N_drewN | apply Kd.N_drew)); exact Kd.N_mono (Kd.N_far (p := ⟨gb328, 1, none⟩) (Kd.N_far (p := ⟨gb328, 0, none⟩) (Kd.N_mono HO_7.out (fun k_ hk => (⟨hk, by first | exact hk.2 | exact hk.2.2 | exact hk.2.2.2⟩ : _ ∧ k_ ≠ gb328))) (fun _ hk => hk.2) (.int .i64 t320)) (fun _ hk => hk.2) (.slice Ao53 t321.length co53)) (fun _ hk => ⟨hk.1.1.1, ⟨hk.1.1.2.1, ⟨hk.1.1.2.2, hk.1.2⟩⟩⟩)))⟩; have n2_ : Aside0 (Kd.V (Kd.slice 3 (Kd.int .i64)) 25 w54 w.heap.size (fun k_ => ((P0_1_ k_ ∨ P1_ k_) ∨ w.heap.size ≤ k_) ∧ some k_ ≠ (u7 : Value).ownBlock ∧ k_ ≠ gb309 ∧ k_ ≠ gb310 ∧ k_ ≠ gb328) (.slice Ao47 x310001_1.length co47) x310001_1) := ⟨(by rw [hw]; exact (by (with_reducible repeat (first | apply qe_ | apply qf_ | apply qh_)); exact qk_ (Kd.V_far (p := ⟨gb328, 1, none⟩) (Kd.V_far (p := ⟨gb328, 0, none⟩) (qk_ HO_310001.out (fun k_ hk => (⟨hk, by first | exact hk.2 | exact hk.2.2 | exact hk.2.2.2⟩ : _ ∧ k_ ≠ gb328))) (fun _ hk => hk.2) (.int .i64 t320)) (fun _ hk => hk.2) (.slice Ao53 t321.length co53)) (fun _ hk => ⟨hk.1.1.1, ⟨hk.1.1.2.1, ⟨hk.1.1.2.2.1, ⟨hk.1.1.2.2.2, hk.1.2⟩⟩⟩⟩)))⟩; have n3_ : Aside0 (Kd.V (Kd.int .i64) 3 w54 w.heap.size (fun k_ => ((P0_1_ k_ ∨ P1_ k_) ∨ w.heap.size ≤ k_) ∧ some k_ ≠ (u7 : Value).ownBlock ∧ k_ ≠ gb309 ∧ k_ ≠ gb310 ∧ k_ ≠ gb328) (.slice A312_2 ((rd_T38 l1 x9_1).f2).length c312_2) ((rd_T38 l1 x9_1).f2)) := ⟨(by rw [hw]; exact (by (with_reducible repeat (first | apply qe_ | apply qf_ | apply qh_)); exact qk_ (Kd.V_far (p := ⟨gb328, 1, none⟩) (Kd.V_far (p := ⟨gb328, 0, none⟩) (qk_ HL312_2.out (fun k_ hk => (⟨hk, by first | exact hk.2 | exact hk.2.2 | exact hk.2.2.2⟩ : _ ∧ k_ ≠ gb328))) (fun _ hk => hk.2) (.int .i64 t320)) (fun _ hk => hk.2) (.slice Ao53 t321.length co53)) (fun _ hk => ⟨hk.1.1.1, ⟨hk.1.1.2.1, ⟨hk.1.1.2.2.1, ⟨hk.1.1.2.2.2, hk.1.2⟩⟩⟩⟩)))⟩; have n4_ : Aside0 (Kd.V (Kd.slice 3 (Kd.int .i64)) 25 w54 w.heap.size (fun k_ => ((P0_1_ k_ ∨ P1_ k_) ∨ w.heap.size ≤ k_) ∧ some k_ ≠ (u7 : Value).ownBlock ∧ k_ ≠ gb309 ∧ k_ ≠ gb310 ∧ k_ ≠ gb328) (.slice Ao53 t321.length co53) t321) := ⟨(by rw [hw]; exact (by (with_reducible repeat (first | apply qe_ | apply qf_ | apply qh_)); exact qk_ (Kd.V_far (p := ⟨gb328, 1, none⟩) (Kd.V_far (p := ⟨gb328, 0, none⟩) (qk_ HO323.out (fun k_ hk => (⟨hk, by first | exact hk.2 | exact hk.2.2 | exact hk.2.2.2⟩ : _ ∧ k_ ≠ gb328))) (fun _ hk => hk.2) (.int .i64 t320)) (fun _ hk => hk.2) (.slice Ao53 t321.length co53)) (fun _ hk => ⟨hk.1.1.1, ⟨hk.1.1.2.1, ⟨hk.1.1.2.2.1, ⟨hk.1.1.2.2.2, hk.1.2⟩⟩⟩⟩)))⟩; have n5_ : Aside0 (Kd.V (Kd.int .i64) 3 w54 w.heap.size (fun k_ => ((P0_1_ k_ ∨ P1_ k_) ∨ w.heap.size ≤ k_) ∧ some k_ ≠ (u7 : Value).ownBlock ∧ k_ ≠ gb309 ∧ k_ ≠ gb310 ∧ k_ ≠ gb328) v325 t324) := ⟨(by rw [hw]; exact (by (with_reducible repeat (first | apply qe_ | apply qf_ | apply qh_)); exact qk_ (Kd.V_far (p := ⟨gb328, 1, none⟩) (Kd.V_far (p := ⟨gb328, 0, none⟩) (qk_ HO326.out (fun k_ hk => (⟨hk, by first | exact hk.2 | exact hk.2.2 | exact hk.2.2.2⟩ : _ ∧ k_ ≠ gb328))) (fun _ hk => hk.2) (.int .i64 t320)) (fun _ hk => hk.2) (.slice Ao53 t321.length co53)) (fun _ hk => ⟨hk.1.1.1, ⟨hk.1.1.2.1, ⟨hk.1.1.2.2.1, ⟨hk.1.1.2.2.2, hk.1.2⟩⟩⟩⟩)))⟩; have n6_ : Aside0 (w54.heap[gb309]? = some (.cells #[.int .i64 x310000_1, .slice Ao47 x310001_1.length co47] 24 (0, 0))) := ⟨(by rw [hw]; exact (by (with_reducible repeat (first | refine qa_ ?_ _ | refine qd_ ?_ | refine qb_ ?_ _)); refine blk_far ?_ NB309_328.out _; (with_reducible repeat (first | refine qa_ ?_ _ | refine qd_ ?_ | refine qb_ ?_ _)); refine blk_far ?_ NB309_328.out _; (with_reducible repeat (first | refine qa_ ?_ _ | refine qd_ ?_ | refine qb_ ?_ _)); exact BK309.out))⟩; have n7_ : Aside0 (w54.heap[gb310]? = some (.cells #[.int .i64 0, .slice none 0 0] 24 (0, 0))) := ⟨(by rw [hw]; exact (by (with_reducible repeat (first | refine qa_ ?_ _ | refine qd_ ?_ | refine qb_ ?_ _)); refine blk_far ?_ NB310_328.out _; (with_reducible repeat (first | refine qa_ ?_ _ | refine qd_ ?_ | refine qb_ ?_ _)); refine blk_far ?_ NB310_328.out _; (with_reducible repeat (first | refine qa_ ?_ _ | refine qd_ ?_ | refine qb_ ?_ _)); exact BK310.out))⟩; have n8_ : Aside0 (w54.heap[gb328]? = some (.cells #[.int .i64 t320, .slice Ao53 t321.length co53] 24 (0, 0))) := ⟨(by rw [hw]; exact (by (with_reducible repeat (first | refine qa_ ?_ _ | refine qd_ ?_ | refine qb_ ?_ _)); refine blk_put (cs := #[.int .i64 t320, .slice none 0 0]) ?_ 1 _ rfl; (with_reducible repeat (first | refine qa_ ?_ _ | refine qd_ ?_ | refine qb_ ?_ _)); refine blk_put (cs := #[.int .i64 0, .slice none 0 0]) ?_ 0 _ rfl; (with_reducible repeat (first | refine qa_ ?_ _ | refine qd_ ?_ | refine qb_ ?_ _)); exact BK328.out))⟩; have n9_ : Aside0 (Below w.heap.size w w54) := ⟨(by rw [hw]; exact (by repeat (first | (with_reducible first | exact HB.out | apply qj_ | apply qg_ | apply qi_ | refine qc_ ?_ GE309.out | refine qc_ ?_ GE310.out | refine qc_ ?_ GE328.out) | exact HB.out)))⟩; clear hw; clear HO_1; clear HO_7; clear HO_310001; clear HL312_2; clear HO323; clear HO326; clear BK309; clear BK310; clear BK328; clear HB; have HO_1 := n0_; have HO_7 := n1_; have HO_310001 := n2_; have HL312_2 := n3_; have HO323 := n4_; have HO326 := n5_; have BK309 := n6_; have BK310 := n7_; have BK328 := n8_; have HB := n9_; clear n0_ n1_ n2_ n3_ n4_ n5_ n6_ n7_ n8_ n9_; have hcz55_0 : w54.cell? ⟨gb328, 0, none⟩ = some (.int .i64 t320) := (qm_ BK328.out 0).trans rfl; have hcz55_1 : w54.cell? ⟨gb328, 1, none⟩ = some (.slice Ao53 t321.length co53) := (qm_ BK328.out 1).trans rfl; have hfz55_0 := blk_frozen BK328.out 0; have hfz55_1 := blk_frozen BK328.out 1; have hcz56_0 : w54.cell? ⟨gb309, 0, none⟩ = some (.int .i64 x310000_1) := (qm_ BK309.out 0).trans rfl; have hcz56_1 : w54.cell? ⟨gb309, 1, none⟩ = some (.slice Ao47 x310001_1.length co47) := (qm_ BK309.out 1).trans rfl; have hfz56_0 := blk_frozen BK309.out 0; have hfz56_1 := blk_frozen BK309.out 1) | ((with_reducible refine gate_store (t := 24) (p := 2) rfl ?_); refine store_event (t := 24) (p := 2) (v := ?vo_w57) (w1 := ((w54.setCell ⟨gb309, 0, none⟩ (.int .i64 t320)).setCell ⟨gb309, 1, none⟩ (.slice Ao53 t321.length co53))) ?hg ?ho ?hn ?hr ?_; (case ho => rfl); (case hg => rfl); (case hn => rfl); (case hr => first | (go_simp; done) | (go_simp; rfl)); intro w57 hw; have n0_ : Aside0 (Kd.V k38 38 w57 w.heap.size (fun k_ => ((P0_1_ k_ ∨ P1_ k_) ∨ w.heap.size ≤ k_) ∧ some k_ ≠ (u7 : Value).ownBlock ∧ k_ ≠ gb309 ∧ k_ ≠ gb310 ∧ k_ ≠ gb328) (.slice (some ad312) l1.length c1) l1) := ⟨(by rw [hw]; exact (by (with_reducible repeat (first | apply qe_ | apply qf_ | apply qh_)); exact qk_ (Kd.V_far (p := ⟨gb309, 1, none⟩) (Kd.V_far (p := ⟨gb309, 0, none⟩) (qk_ HO_1.out (fun k_ hk => (⟨hk, hk.2.2.1⟩ : _ ∧ k_ ≠ gb309))) (fun _ hk => hk.2) (.int .i64 t320)) (fun _ hk => hk.2) (.slice Ao53 t321.length co53)) (fun _ hk => ⟨hk.1.1, ⟨hk.1.2.1, ⟨hk.1.2.2.1, ⟨hk.1.2.2.2.1, hk.1.2.2.2.2⟩⟩⟩⟩)))⟩; have n1_ : Aside0 (Kd.N (Kd.slice 3 (Kd.int .i64)) 25 w57 w.heap.size (fun k_ => ((P0_1_ k_ ∨ P1_ k_) ∨ w.heap.size ≤ k_) ∧ k_ ≠ gb309 ∧ k_ ≠ gb310 ∧ k_ ≠ gb328) u7 x7_1) := ⟨(by rw [hw]; exact (by (with_reducible repeat (first | apply Kd.N_alloc | apply Kd.N_drewN | apply Kd.N_drew)); exact Kd.N_mono (Kd.N_far (p := ⟨gb309, 1, none⟩) (Kd.N_far (p := ⟨gb309, 0, none⟩) (Kd.N_mono HO_7.out (fun k_ hk => (⟨hk, hk.2.1⟩ : _ ∧ k_ ≠ gb309))) (fun _ hk => hk.2) (.int .i64 t320)) (fun _ hk => hk.2) (.slice Ao53 t321.length co53)) (fun _ hk => ⟨hk.1.1, ⟨hk.1.2.1, ⟨hk.1.2.2.1, hk.1.2.2.2⟩⟩⟩)))⟩; have n2_ : Aside0 (Kd.V (Kd.slice 3 (Kd.int .i64)) 25 w57 w.heap.size (fun k_ => ((P0_1_ k_ ∨ P1_ k_) ∨ w.heap.size ≤ k_) ∧ some k_ ≠ (u7 : Value).ownBlock ∧ k_ ≠ gb309 ∧ k_ ≠ gb310 ∧ k_ ≠ gb328) (.slice Ao47 x310001_1.length co47) x310001_1) := ⟨(by rw [hw]; exact (by (with_reducible repeat (first | apply qe_ | apply qf_ | apply qh_)); exact qk_ (Kd.V_far (p := ⟨gb309, 1, none⟩) (Kd.V_far (p := ⟨gb309, 0, none⟩) (qk_ HO_310001.out (fun k_ hk => (⟨hk, hk.2.2.1⟩ : _ ∧ k_ ≠ gb309))) (fun _ hk => hk.2) (.int .i64 t320)) (fun _ hk => hk.2) (.slice Ao53 t321.length co53)) (fun _ hk => ⟨hk.1.1, ⟨hk.1.2.1, ⟨hk.1.2.2.1, ⟨hk.1.2.2.2.1, hk.1.2.2.2.2⟩⟩⟩⟩)))⟩; have n3_ : Aside0 (Kd.V (Kd.int .i64) 3 w57 w.heap.size (fun k_ => ((P0_1_ k_ ∨ P1_ k_) ∨ w.heap.size ≤ k_) ∧ some k_ ≠ (u7 : Value).ownBlock ∧ k_ ≠ gb309 ∧ k_ ≠ gb310 ∧ k_ ≠ gb328) (.slice A312_2 ((rd_T38 l1 x9_1).f2).length c312_2) ((rd_T38 l1 x9_1).f2)) := ⟨(by rw [hw]; exact (by (with_reducible repeat (first | apply qe_ | apply qf_ | apply qh_)); exact qk_ (Kd.V_far (p := ⟨gb309, 1, none⟩) (Kd.V_far (p := ⟨gb309, 0, none⟩) (qk_ HL312_2.out (fun k_ hk => (⟨hk, hk.2.2.1⟩ : _ ∧ k_ ≠ gb309))) (fun _ hk => hk.2) (.int .i64 t320)) (fun _ hk => hk.2) (.slice Ao53 t321.length co53)) (fun _ hk => ⟨hk.1.1, ⟨hk.1.2.1, ⟨hk.1.2.2.1, ⟨hk.1.2.2.2.1, hk.1.2.2.2.2⟩⟩⟩⟩)))⟩; have n4_ : Aside0 (Kd.V (Kd.slice 3 (Kd.int .i64)) 25 w57 w.heap.size (fun k_ => ((P0_1_ k_ ∨ P1_ k_) ∨ w.heap.size ≤ k_) ∧ some k_ ≠ (u7 : Value).ownBlock ∧ k_ ≠ gb309 ∧ k_ ≠ gb310 ∧ k_ ≠ gb328) (.slice Ao53 t321.length co53) t321) := ⟨(by rw [hw]; exact (by (with_reducible repeat (first | apply qe_ | apply qf_ | apply qh_)); exact qk_ (Kd.V_far (p := ⟨gb309, 1, none⟩) (Kd.V_far (p := ⟨gb309, 0, none⟩) (qk_ HO323.out (fun k_ hk => (⟨hk, hk.2.2.1⟩ : _ ∧ k_ ≠ gb309))) (fun _ hk => hk.2) (.int .i64 t320)) (fun _ hk => hk.2) (.slice Ao53 t321.length co53)) (fun _ hk => ⟨hk.1.1, ⟨hk.1.2.1, ⟨hk.1.2.2.1, ⟨hk.1.2.2.2.1, hk.1.2.2.2.2⟩⟩⟩⟩)))⟩; have n5_ : Aside0 (Kd.V (Kd.int .i64) 3 w57 w.heap.size (fun k_ => ((P0_1_ k_ ∨ P1_ k_) ∨ w.heap.size ≤ k_) ∧ some k_ ≠ (u7 : Value).ownBlock ∧ k_ ≠ gb309 ∧ k_ ≠ gb310 ∧ k_ ≠ gb328) v325 t324) := ⟨(by rw [hw]; exact (by (with_reducible repeat (first | apply qe_ | apply qf_ | apply qh_)); exact qk_ (Kd.V_far (p := ⟨gb309, 1, none⟩) (Kd.V_far (p := ⟨gb309, 0, none⟩) (qk_ HO326.out (fun k_ hk => (⟨hk, hk.2.2.1⟩ : _ ∧ k_ ≠ gb309))) (fun _ hk => hk.2) (.int .i64 t320)) (fun _ hk => hk.2) (.slice Ao53 t321.length co53)) (fun _ hk => ⟨hk.1.1, ⟨hk.1.2.1, ⟨hk.1.2.2.1, ⟨hk.1.2.2.2.1, hk.1.2.2.2.2⟩⟩⟩⟩)))⟩; have n6_ : Aside0 (w57.heap[gb309]? = some (.cells #[.int .i64 t320, .slice Ao53 t321.length co53] 24 (0, 0))) := ⟨(by rw [hw]; exact (by (with_reducible repeat (first | refine qa_ ?_ _ | refine qd_ ?_ | refine qb_ ?_ _)); refine blk_put (cs := #[.int .i64 t320, .slice Ao47 x310001_1.length co47]) ?_ 1 _ rfl; (with_reducible repeat (first | refine qa_ ?_ _ | refine qd_ ?_ | refine qb_ ?_ _)); refine blk_put (cs := #[.int .i64 x310000_1, .slice Ao47 x310001_1.length co47]) ?_ 0 _ rfl; (with_reducible repeat (first | refine qa_ ?_ _ | refine qd_ ?_ | refine qb_ ?_ _)); exact BK309.out))⟩; have n7_ : Aside0 (w57.heap[gb310]? = some (.cells #[.int .i64 0, .slice none 0 0] 24 (0, 0))) := ⟨(by rw [hw]; exact (by (with_reducible repeat (first | refine qa_ ?_ _ | refine qd_ ?_ | refine qb_ ?_ _)); refine blk_far ?_ NB310_309.out _; (with_reducible repeat (first | refine qa_ ?_ _ | refine qd_ ?_ | refine qb_ ?_ _)); refine blk_far ?_ NB310_309.out _; (with_reducible repeat (first | refine qa_ ?_ _ | refine qd_ ?_ | refine qb_ ?_ _)); exact BK310.out))⟩; have n8_ : Aside0 (w57.heap[gb328]? = some (.cells #[.int .i64 t320, .slice Ao53 t321.length co53] 24 (0, 0))) := ⟨(by rw [hw]; exact (by (with_reducible repeat (first | refine qa_ ?_ _ | refine qd_ ?_ | refine qb_ ?_ _)); refine blk_far ?_ NB328_309.out _; (with_reducible repeat (first | refine qa_ ?_ _ | refine qd_ ?_ | refine qb_ ?_ _)); refine blk_far ?_ NB328_309.out _; (with_reducible repeat (first | refine qa_ ?_ _ | refine qd_ ?_ | refine qb_ ?_ _)); exact BK328.out))⟩; have n9_ : Aside0 (Below w.heap.size w w57) := ⟨(by rw [hw]; exact (by repeat (first | (with_reducible first | exact HB.out | apply qj_ | apply qg_ | apply qi_ | refine qc_ ?_ GE309.out | refine qc_ ?_ GE310.out | refine qc_ ?_ GE328.out) | exact HB.out)))⟩; clear hw; clear HO_1; clear HO_7; clear HO_310001; clear HL312_2; clear HO323; clear HO326; clear BK309; clear BK310; clear BK328; clear HB; have HO_1 := n0_; have HO_7 := n1_; have HO_310001 := n2_; have HL312_2 := n3_; have HO323 := n4_; have HO326 := n5_; have BK309 := n6_; have BK310 := n7_; have BK328 := n8_; have HB := n9_; clear n0_ n1_ n2_ n3_ n4_ n5_ n6_ n7_ n8_ n9_; obtain ⟨Ao59, co59, eo59⟩ := Kd.V_slice HO326.out; subst eo59) | ((with_reducible refine gate_builtin (b := .append) (xs := #[.tmp 59, .tmp 61]) rfl ?_); at_builtin; refine Kd.N_append (Kd.slice 3 (Kd.int .i64)) (w0 := w) w.heap.size rfl (.tmp 59) (.tmp 61) 22 25 (.slice none 0 0) 24 rfl Try.underlying22 info25 rfl (by decide) (by omega) u7 x7_1 t324 [.slice Ao59 t324.length co59] (fun k_ => ((P0_1_ k_ ∨ P1_ k_) ∨ w.heap.size ≤ k_) ∧ k_ ≠ gb309 ∧ k_ ≠ gb310 ∧ k_ ≠ gb328) (fun k_ => ((fun k_ => ((P0_1_ k_ ∨ P1_ k_) ∨ w.heap.size ≤ k_) ∧ k_ ≠ gb309 ∧ k_ ≠ gb310 ∧ k_ ≠ gb328)) k_ ∧ some k_ ≠ (u7 : Value).ownBlock) rfl rfl ?aP (fun _ hk => hk) ?aF ?aO ?aB ?aS ?aL ?_; (case aP => exact (Kd.FK_slice_mk (Kd.V_reads' (qk_ (ok' := (fun k_ => ((fun k_ => ((P0_1_ k_ ∨ P1_ k_) ∨ w.heap.size ≤ k_) ∧ k_ ≠ gb309 ∧ k_ ≠ gb310 ∧ k_ ≠ gb328)) k_ ∧ some k_ ≠ (u7 : Value).ownBlock)) (HO326.out) (fun k_ hk => ⟨⟨hk.1, ⟨hk.2.2.1, ⟨hk.2.2.2.1, hk.2.2.2.2⟩⟩⟩, hk.2.1⟩))).2.1 (Kd.V_F (qk_ (ok' := (fun k_ => ((fun k_ => ((P0_1_ k_ ∨ P1_ k_) ∨ w.heap.size ≤ k_) ∧ k_ ≠ gb309 ∧ k_ ≠ gb310 ∧ k_ ≠ gb328)) k_ ∧ some k_ ≠ (u7 : Value).ownBlock)) (HO326.out) (fun k_ hk => ⟨⟨hk.1, ⟨hk.2.2.1, ⟨hk.2.2.2.1, hk.2.2.2.2⟩⟩⟩, hk.2.1⟩))))); (case aB => exact (by repeat (first | (with_reducible first | exact HB.out | apply qj_ | apply qg_ | apply qi_ | refine qc_ ?_ GE309.out | refine qc_ ?_ GE310.out | refine qc_ ?_ GE328.out) | exact HB.out))); (case aF => exact (fun k_ hk => ⟨(.inr (Nat.le_trans (below_size (by repeat (first | (with_reducible first | exact HB.out | apply qj_ | apply qg_ | apply qi_ | refine qc_ ?_ GE309.out | refine qc_ ?_ GE310.out | refine qc_ ?_ GE328.out) | exact HB.out))) hk)), Kd.freshB (g := gb309) (o := .cells #[.int .i64 t320, .slice Ao53 t321.length co53] 24 (0, 0)) (by (with_reducible repeat (first | refine qa_ ?_ _ | refine qd_ ?_ | refine qb_ ?_ _)); exact BK309.out) k_ hk, Kd.freshB (g := gb310) (o := .cells #[.int .i64 0, .slice none 0 0] 24 (0, 0)) (by (with_reducible repeat (first | refine qa_ ?_ _ | refine qd_ ?_ | refine qb_ ?_ _)); exact BK310.out) k_ hk, Kd.freshB (g := gb328) (o := .cells #[.int .i64 t320, .slice Ao53 t321.length co53] 24 (0, 0)) (by (with_reducible repeat (first | refine qa_ ?_ _ | refine qd_ ?_ | refine qb_ ?_ _)); exact BK328.out) k_ hk⟩)); (case aO => exact (by (with_reducible repeat (first | apply Kd.N_alloc | apply Kd.N_drewN | apply Kd.N_drew)); exact HO_7.out)); (case aS => exact (below_size (by repeat (first | (with_reducible first | exact HB.out | apply qj_ | apply qg_ | apply qi_ | refine qc_ ?_ GE309.out | refine qc_ ?_ GE310.out | refine qc_ ?_ GE328.out) | exact HB.out)))); (case aL => have := LMc44.out; omega); intro v330 w58 ho hb hg hat; rw [← Ny329.out] at ho; have n0_ := Aside0.mk (Kd.V_afterv (ok := (fun k_ => ((P0_1_ k_ ∨ P1_ k_) ∨ w.heap.size ≤ k_) ∧ k_ ≠ gb309 ∧ k_ ≠ gb310 ∧ k_ ≠ gb328)) (by (with_reducible repeat (first | apply qe_ | apply qf_ | apply qh_)); exact qk_ HO_1.out (fun _ hk => ⟨⟨hk.1, ⟨hk.2.2.1, ⟨hk.2.2.2.1, hk.2.2.2.2⟩⟩⟩, hk.2.1⟩)) hg hat); have n1_ := Aside0.mk (Kd.V_afterv (ok := (fun k_ => ((P0_1_ k_ ∨ P1_ k_) ∨ w.heap.size ≤ k_) ∧ k_ ≠ gb309 ∧ k_ ≠ gb310 ∧ k_ ≠ gb328)) (by (with_reducible repeat (first | apply qe_ | apply qf_ | apply qh_)); exact qk_ HO_310001.out (fun _ hk => ⟨⟨hk.1, ⟨hk.2.2.1, ⟨hk.2.2.2.1, hk.2.2.2.2⟩⟩⟩, hk.2.1⟩)) hg hat); have n2_ := Aside0.mk (blk_grown (g := gb309) (o := .cells #[.int .i64 t320, .slice Ao53 t321.length co53] 24 (0, 0)) (by (with_reducible repeat (first | refine qa_ ?_ _ | refine qd_ ?_ | refine qb_ ?_ _)); exact BK309.out) hg (Kd.N_ne HO_7.out BK309.out (by decide))); have n3_ := Aside0.mk (blk_grown (g := gb310) (o := .cells #[.int .i64 0, .slice none 0 0] 24 (0, 0)) (by (with_reducible repeat (first | refine qa_ ?_ _ | refine qd_ ?_ | refine qb_ ?_ _)); exact BK310.out) hg (Kd.N_ne HO_7.out BK310.out (by decide))); have n4_ := Aside0.mk (Kd.V_afterv (ok := (fun k_ => ((P0_1_ k_ ∨ P1_ k_) ∨ w.heap.size ≤ k_) ∧ k_ ≠ gb309 ∧ k_ ≠ gb310 ∧ k_ ≠ gb328)) (by (with_reducible repeat (first | apply qe_ | apply qf_ | apply qh_)); exact qk_ HL312_2.out (fun _ hk => ⟨⟨hk.1, ⟨hk.2.2.1, ⟨hk.2.2.2.1, hk.2.2.2.2⟩⟩⟩, hk.2.1⟩)) hg hat); have n5_ := Aside0.mk (Kd.V_afterv (ok := (fun k_ => ((P0_1_ k_ ∨ P1_ k_) ∨ w.heap.size ≤ k_) ∧ k_ ≠ gb309 ∧ k_ ≠ gb310 ∧ k_ ≠ gb328)) (by (with_reducible repeat (first | apply qe_ | apply qf_ | apply qh_)); exact qk_ HO323.out (fun _ hk => ⟨⟨hk.1, ⟨hk.2.2.1, ⟨hk.2.2.2.1, hk.2.2.2.2⟩⟩⟩, hk.2.1⟩)) hg hat); have n6_ := Aside0.mk (Kd.V_afterv (ok := (fun k_ => ((P0_1_ k_ ∨ P1_ k_) ∨ w.heap.size ≤ k_) ∧ k_ ≠ gb309 ∧ k_ ≠ gb310 ∧ k_ ≠ gb328)) (by (with_reducible repeat (first | apply qe_ | apply qf_ | apply qh_)); exact qk_ HO326.out (fun _ hk => ⟨⟨hk.1, ⟨hk.2.2.1, ⟨hk.2.2.2.1, hk.2.2.2.2⟩⟩⟩, hk.2.1⟩)) hg hat); have n7_ := Aside0.mk (blk_grown (g := gb328) (o := .cells #[.int .i64 t320, .slice Ao53 t321.length co53] 24 (0, 0)) (by (with_reducible repeat (first | refine qa_ ?_ _ | refine qd_ ?_ | refine qb_ ?_ _)); exact BK328.out) hg (Kd.N_ne HO_7.out BK328.out (by decide))); have n8_ := Aside0.mk (hb); have n9_ := Aside0.mk (ho); clear HO_1; clear HO_310001; clear BK309; clear BK310; clear HL312_2; clear HO323; clear HO326; clear BK328; clear HB; clear HO_7; have HO_1 := n0_; have HO_310001 := n1_; have BK309 := n2_; have BK310 := n3_; have HL312_2 := n4_; have HO323 := n5_; have HO326 := n6_; have BK328 := n7_; have HB := n8_; have HO331 := n9_; clear n0_ n1_ n2_ n3_ n4_ n5_ n6_ n7_ n8_ n9_; clear ho hb hg hat))
          go_roundg k1
          case measure => have := HK1.out; omega
          case rel => exact ⟨(y329), (x8_1), (wrap64 (x9_1 + 1)), (t320), (t321), (.slice Ao53 t321.length co53), (by first | rfl | (simp; done) | (simp [*]; done)), (by first | rfl | (simp; done) | (simp [*]; done)), H', ⟨by have := HK1.out; omega⟩, ⟨by (with_reducible repeat (first | apply qe_ | apply qf_ | apply qh_)); exact qk_ HO_1.out (fun _ hk => ⟨hk.1.1, ⟨hk.2, ⟨hk.1.2.1, hk.1.2.2.1⟩⟩⟩)⟩, ⟨by (with_reducible repeat (first | apply Kd.N_alloc | apply Kd.N_drewN | apply Kd.N_drew)); exact Kd.N_mono HO331.out (fun _ hk => ⟨hk.1, ⟨hk.2.1, hk.2.2.1⟩⟩)⟩, ⟨by (with_reducible repeat (first | apply qe_ | apply qf_ | apply qh_)); exact qk_ HO323.out (fun _ hk => ⟨hk.1.1, ⟨hk.2, ⟨hk.1.2.1, hk.1.2.2.1⟩⟩⟩)⟩, ⟨by (with_reducible repeat (first | refine qa_ ?_ _ | refine qd_ ?_ | refine qb_ ?_ _)); exact BK309.out⟩, ⟨by (with_reducible repeat (first | refine qa_ ?_ _ | refine qd_ ?_ | refine qb_ ?_ _)); exact BK310.out⟩, ⟨by repeat (first | (with_reducible first | exact HB.out | apply qj_ | apply qg_ | apply qi_ | refine qc_ ?_ GE309.out | refine qc_ ?_ GE310.out | refine qc_ ?_ GE328.out) | exact HB.out)⟩⟩
         ·rw [if_neg c44] at H
          exact absurd H (by simp)
        ·replace c43 := Bool.eq_false_iff.mpr c43
         subst c43
         have H1 : (selfstabref41_Play.l0 k1 l1 x7_1 x8_1 (wrap64 (x9_1 + 1)) t320 t321) = some (r1, r2, r3, r4) := by rw [if_neg (show ¬ (false = true) by decide)] at H; exact H
         clear H
         have H := H1
         clear H1
         have H' := Aside0.mk H
         clear H
         have p312 : 0 ≤ (x9_1 : Int) := of_decide_eq_true (by first | (with_reducible assumption) | assumption)
         have q312 : x9_1 < (l1.length : Int) := of_decide_eq_true (by first | (with_reducible assumption) | assumption)
         (try (obtain ⟨Az312, cz312, ez312⟩ := Kd.V_slice HO_1.out; subst ez312))
         obtain ⟨ad312, A312_2, c312_2, e312, hx312_0, hx312_1, hx312_2, hl312_2, hi312_2⟩ := at_T38 (Kd.V_reads' HO_1.out).2.2 x9_1 p312 q312
         cases e312
         obtain ⟨ce312, hce312, hMe312, hcc312⟩ := Kd.V_get HO_1.out z38 x9_1 p312 (by first | exact q312 | exact of_decide_eq_true (by first | (with_reducible assumption) | assumption) | (have e_ := (Kd.V_reads' HO_1.out).1; omega))
         obtain ⟨ua312_2, uc312_2, rfl, ul312_2, ge312_2⟩ := k38_openF hMe312
         have hv312_2 := hcc312 2 _ rfl
         rw [add_field _ _ 2 (by omega)] at hv312_2
         replace hv312_2 := Option.some.inj (hv312_2.symm.trans hx312_2)
         injection hv312_2 with hva_ hvn_ hvc_
         rw [hva_] at ge312_2
         rw [hvc_] at ul312_2
         have HL312_2 := Aside0.mk (show Kd.V (Kd.int .i64) 3 _ w.heap.size _ _ ((rd_T38 l1 x9_1).f2) from Kd.V_mk ul312_2 ge312_2)
         clear hva_ hvn_ hvc_ ge312_2 ul312_2; clear hcc312 hce312
         have HR312_2 := Aside0.mk hi312_2
         have HC312_2 := Aside0.mk hl312_2
         clear hi312_2 hl312_2
         replace p312 := eq_true p312
         replace q312 := eq_true q312
         have hnb60 := NB309_310.out
         have hnc60 := NB310_309.out
         have hcz61_0 : wr.cell? ⟨gb309, 0, none⟩ = some (.int .i64 x310000_1) := (qm_ BK309.out 0).trans rfl
         have hcz61_1 : wr.cell? ⟨gb309, 1, none⟩ = some (u310001) := (qm_ BK309.out 1).trans rfl
         have hfz61_0 := blk_frozen BK309.out 0
         have hfz61_1 := blk_frozen BK309.out 1
         obtain ⟨Ao62, co62, eo62⟩ := Kd.V_slice HO_310001.out
         subst eo62
         go_wp2_with (first | ((with_reducible refine gate_callee (f := 12) rfl ?_); refine goesL_ (some 53) rfl rfl Try.func12 (by kernel_rfl) rfl #[.agg #[.int .i64 x310000_1, .slice Ao62 x310001_1.length co62]] rfl (by (try simp only [List.map_toArray, List.map_cons, List.map_nil]); first | done | rfl | (simp only [List.length_drop, List.length_take]; rfl)) ?_; (with_reducible refine (selfstabref41_Receive.calls k1 x310000_1 (fun k_ => (((P0_1_ k_ ∨ P1_ k_) ∨ w.heap.size ≤ k_) ∧ (some k_ ≠ (u7 : Value).ownBlock ∧ (k_ ≠ gb309 ∧ k_ ≠ gb310)))) _ _ x310001_1 t320 t321 t324 false _ ?side1 A42.out).mono ?_); (case side1 => exact HO_310001.out); rintro e w63 ⟨v322, v325, rfl, ho0, ho1, hb⟩; refine ⟨_, rfl, ?_⟩; have n0_ := Aside0.mk (ql_ (by (with_reducible repeat (first | apply qe_ | apply qf_ | apply qh_)); exact HO_1.out) hb); have n1_ := Aside0.mk (Kd.N_below (by (with_reducible repeat (first | apply Kd.N_alloc | apply Kd.N_drewN | apply Kd.N_drew)); exact HO_7.out) hb); have n2_ := Aside0.mk (ql_ (by (with_reducible repeat (first | apply qe_ | apply qf_ | apply qh_)); exact HO_310001.out) hb); have n3_ := Aside0.mk (ql_ (by (with_reducible repeat (first | apply qe_ | apply qf_ | apply qh_)); exact HL312_2.out) hb); have n4_ := Aside0.mk (Kd.V_lower (qk_ (ok' := fun k_ => ((P0_1_ k_ ∨ P1_ k_) ∨ w.heap.size ≤ k_) ∧ some k_ ≠ (u7 : Value).ownBlock ∧ k_ ≠ gb309 ∧ k_ ≠ gb310) ho0 (fun k_ hk_ => ⟨Or.elim hk_ (fun hs_ => hs_.1) (fun hn_ => (.inr (Nat.le_trans (below_size (by repeat (first | (with_reducible first | exact HB.out | apply qj_ | apply qg_ | apply qi_ | refine qc_ ?_ GE309.out | refine qc_ ?_ GE310.out) | exact HB.out))) hn_))), Or.elim hk_ (fun hs_ => hs_.2.1) (fun hn_ => (Kd.fresh' (Kd.N_lt (by (with_reducible repeat (first | apply Kd.N_alloc | apply Kd.N_drewN | apply Kd.N_drew)); exact HO_7.out)) k_ hn_)), Or.elim hk_ (fun hs_ => hs_.2.2.1) (fun hn_ => (Kd.freshB (g := gb309) (o := .cells #[.int .i64 x310000_1, .slice Ao62 x310001_1.length co62] 24 (0, 0)) (by (with_reducible repeat (first | refine qa_ ?_ _ | refine qd_ ?_ | refine qb_ ?_ _)); exact BK309.out) k_ hn_)), Or.elim hk_ (fun hs_ => hs_.2.2.2) (fun hn_ => (Kd.freshB (g := gb310) (o := .cells #[.int .i64 0, .slice none 0 0] 24 (0, 0)) (by (with_reducible repeat (first | refine qa_ ?_ _ | refine qd_ ?_ | refine qb_ ?_ _)); exact BK310.out) k_ hn_))⟩)) (below_size (by repeat (first | (with_reducible first | exact HB.out | apply qj_ | apply qg_ | apply qi_ | refine qc_ ?_ GE309.out | refine qc_ ?_ GE310.out) | exact HB.out)))); have n5_ := Aside0.mk (Kd.V_lower (qk_ (ok' := fun k_ => ((P0_1_ k_ ∨ P1_ k_) ∨ w.heap.size ≤ k_) ∧ some k_ ≠ (u7 : Value).ownBlock ∧ k_ ≠ gb309 ∧ k_ ≠ gb310) ho1 (fun k_ hk_ => ⟨Or.elim hk_ (fun hs_ => hs_.1) (fun hn_ => (.inr (Nat.le_trans (below_size (by repeat (first | (with_reducible first | exact HB.out | apply qj_ | apply qg_ | apply qi_ | refine qc_ ?_ GE309.out | refine qc_ ?_ GE310.out) | exact HB.out))) hn_))), Or.elim hk_ (fun hs_ => hs_.2.1) (fun hn_ => (Kd.fresh' (Kd.N_lt (by (with_reducible repeat (first | apply Kd.N_alloc | apply Kd.N_drewN | apply Kd.N_drew)); exact HO_7.out)) k_ hn_)), Or.elim hk_ (fun hs_ => hs_.2.2.1) (fun hn_ => (Kd.freshB (g := gb309) (o := .cells #[.int .i64 x310000_1, .slice Ao62 x310001_1.length co62] 24 (0, 0)) (by (with_reducible repeat (first | refine qa_ ?_ _ | refine qd_ ?_ | refine qb_ ?_ _)); exact BK309.out) k_ hn_)), Or.elim hk_ (fun hs_ => hs_.2.2.2) (fun hn_ => (Kd.freshB (g := gb310) (o := .cells #[.int .i64 0, .slice none 0 0] 24 (0, 0)) (by (with_reducible repeat (first | refine qa_ ?_ _ | refine qd_ ?_ | refine qb_ ?_ _)); exact BK310.out) k_ hn_))⟩)) (below_size (by repeat (first | (with_reducible first | exact HB.out | apply qj_ | apply qg_ | apply qi_ | refine qc_ ?_ GE309.out | refine qc_ ?_ GE310.out) | exact HB.out)))); have n6_ := Aside0.mk (blk_below (g := gb309) (o := .cells #[.int .i64 x310000_1, .slice Ao62 x310001_1.length co62] 24 (0, 0)) (by (with_reducible repeat (first | refine qa_ ?_ _ | refine qd_ ?_ | refine qb_ ?_ _)); exact BK309.out) hb); have n7_ := Aside0.mk (blk_below (g := gb310) (o := .cells #[.int .i64 0, .slice none 0 0] 24 (0, 0)) (by (with_reducible repeat (first | refine qa_ ?_ _ | refine qd_ ?_ | refine qb_ ?_ _)); exact BK310.out) hb); have n8_ := Aside0.mk (Kd.C_below (by repeat (first | (with_reducible exact HR312_2.out) | (with_reducible refine Kd.C_alloc ?_ _) | (with_reducible refine Kd.C_drewN ?_ _) | (with_reducible refine Kd.C_drew ?_) | exact HR312_2.out)) hb); have n9_ := Aside0.mk (below_step (by repeat (first | (with_reducible first | exact HB.out | apply qj_ | apply qg_ | apply qi_ | refine qc_ ?_ GE309.out | refine qc_ ?_ GE310.out) | exact HB.out)) hb); clear HO_1; clear HO_7; clear HO_310001; clear HL312_2; clear BK309; clear BK310; clear HR312_2; clear HB; have HO_1 := n0_; have HO_7 := n1_; have HO_310001 := n2_; have HL312_2 := n3_; have HO323 := n4_; have HO326 := n5_; have BK309 := n6_; have BK310 := n7_; have HR312_2 := n8_; have HB := n9_; clear n0_ n1_ n2_ n3_ n4_ n5_ n6_ n7_ n8_ n9_; (try clear hb); (try clear hb2); (try clear hk); (try clear hi); (try clear ho0); (try clear ho1)) | ((with_reducible refine gate_dst (N := 12) rfl ?_); refine box_event ?hg (N := 12) ?hd (cs := #[.int .i64 0, .slice none 0 0]) (t := 24) ?hr ?_; (case hd => rfl); (case hg => rfl); (case hr => first | (go_simp; done) | (go_simp; rfl)); intro gb328 hg w64 hbox hb; have n0_ := Aside0.mk (ql_ (Kd.V_elderB (by (with_reducible repeat (first | apply qe_ | apply qf_ | apply qh_)); exact HO_1.out) gb328 (Nat.le_of_eq hg.symm)) hb); have n1_ := Aside0.mk (Kd.N_below (Kd.N_elderB (by (with_reducible repeat (first | apply Kd.N_alloc | apply Kd.N_drewN | apply Kd.N_drew)); exact HO_7.out) gb328 (Nat.le_of_eq hg.symm)) hb); have n2_ := Aside0.mk (ql_ (Kd.V_elderB (by (with_reducible repeat (first | apply qe_ | apply qf_ | apply qh_)); exact HO_310001.out) gb328 (Nat.le_of_eq hg.symm)) hb); have n3_ := Aside0.mk (ql_ (Kd.V_elderB (by (with_reducible repeat (first | apply qe_ | apply qf_ | apply qh_)); exact HL312_2.out) gb328 (Nat.le_of_eq hg.symm)) hb); have n4_ := Aside0.mk (ql_ (Kd.V_elderB (by (with_reducible repeat (first | apply qe_ | apply qf_ | apply qh_)); exact HO323.out) gb328 (Nat.le_of_eq hg.symm)) hb); have n5_ := Aside0.mk (ql_ (Kd.V_elderB (by (with_reducible repeat (first | apply qe_ | apply qf_ | apply qh_)); exact HO326.out) gb328 (Nat.le_of_eq hg.symm)) hb); have n6_ := Aside0.mk (blk_below (g := gb309) (o := .cells #[.int .i64 x310000_1, .slice Ao62 x310001_1.length co62] 24 (0, 0)) (by (with_reducible repeat (first | refine qa_ ?_ _ | refine qd_ ?_ | refine qb_ ?_ _)); exact BK309.out) hb); have n7_ := Aside0.mk (blk_below (g := gb310) (o := .cells #[.int .i64 0, .slice none 0 0] 24 (0, 0)) (by (with_reducible repeat (first | refine qa_ ?_ _ | refine qd_ ?_ | refine qb_ ?_ _)); exact BK310.out) hb); have n8_ := Aside0.mk (Kd.C_below (by repeat (first | (with_reducible exact HR312_2.out) | (with_reducible refine Kd.C_alloc ?_ _) | (with_reducible refine Kd.C_drewN ?_ _) | (with_reducible refine Kd.C_drew ?_) | exact HR312_2.out)) hb); have n9_ := Aside0.mk (below_step (by repeat (first | (with_reducible first | exact HB.out | apply qj_ | apply qg_ | apply qi_ | refine qc_ ?_ GE309.out | refine qc_ ?_ GE310.out) | exact HB.out)) hb); have n10_ := Aside0.mk (hbox); have n11_ := Aside0.mk ((by rw [hg]; exact (below_size (by repeat (first | (with_reducible first | exact HB.out | apply qj_ | apply qg_ | apply qi_ | refine qc_ ?_ GE309.out | refine qc_ ?_ GE310.out) | exact HB.out))) : w.heap.size ≤ gb328)); have n12_ := Aside0.mk ((by rw [hg]; exact (below_size (by repeat (first | (with_reducible first | exact HB.out | apply qj_ | apply qg_ | apply qi_ | refine qc_ ?_ GE309.out | refine qc_ ?_ GE310.out) | exact HB.out))) : w.heap.size ≤ gb328)); have n13_ := Aside0.mk ((by rw [hg]; exact Nat.ne_of_lt (blk_lt (g := gb309) (o := .cells #[.int .i64 x310000_1, .slice Ao62 x310001_1.length co62] 24 (0, 0)) (by (with_reducible repeat (first | refine qa_ ?_ _ | refine qd_ ?_ | refine qb_ ?_ _)); exact BK309.out)) : gb309 ≠ gb328)); have n14_ := Aside0.mk ((by rw [hg]; exact Nat.ne_of_gt (blk_lt (g := gb309) (o := .cells #[.int .i64 x310000_1, .slice Ao62 x310001_1.length co62] 24 (0, 0)) (by (with_reducible repeat (first | refine qa_ ?_ _ | refine qd_ ?_ | refine qb_ ?_ _)); exact BK309.out)) : gb328 ≠ gb309)); have n15_ := Aside0.mk ((by rw [hg]; exact Nat.ne_of_lt (blk_lt (g := gb310) (o := .cells #[.int .i64 0, .slice none 0 0] 24 (0, 0)) (by (with_reducible repeat (first | refine qa_ ?_ _ | refine qd_ ?_ | refine qb_ ?_ _)); exact BK310.out)) : gb310 ≠ gb328)); have n16_ := Aside0.mk ((by rw [hg]; exact Nat.ne_of_gt (blk_lt (g := gb310) (o := .cells #[.int .i64 0, .slice none 0 0] 24 (0, 0)) (by (with_reducible repeat (first | refine qa_ ?_ _ | refine qd_ ?_ | refine qb_ ?_ _)); exact BK310.out)) : gb328 ≠ gb310)); clear HO_1; clear HO_7; clear HO_310001; clear HL312_2; clear HO323; clear HO326; clear BK309; clear BK310; clear HR312_2; clear HB; have HO_1 := n0_; have HO_7 := n1_; have HO_310001 := n2_; have HL312_2 := n3_; have HO323 := n4_; have HO326 := n5_; have BK309 := n6_; have BK310 := n7_; have HR312_2 := n8_; have HB := n9_; have BK328 := n10_; have GW328 := n11_; have GE328 := n12_; have NB309_328 := n13_; have NB328_309 := n14_; have NB310_328 := n15_; have NB328_310 := n16_; clear n0_ n1_ n2_ n3_ n4_ n5_ n6_ n7_ n8_ n9_ n10_ n11_ n12_ n13_ n14_ n15_ n16_; clear hb hbox hg; have hnb65 := NB328_309.out; have hnc65 := NB309_328.out; have hnb66 := NB328_310.out; have hnc66 := NB310_328.out; have hcz67_0 : w64.cell? ⟨gb328, 0, none⟩ = some (.int .i64 0) := (qm_ BK328.out 0).trans rfl; have hcz67_1 : w64.cell? ⟨gb328, 1, none⟩ = some (.slice none 0 0) := (qm_ BK328.out 1).trans rfl; have hfz67_0 := blk_frozen BK328.out 0; have hfz67_1 := blk_frozen BK328.out 1; obtain ⟨Ao68, co68, eo68⟩ := Kd.V_slice HO323.out; subst eo68; have hcz69_0 : w64.cell? ⟨gb309, 0, none⟩ = some (.int .i64 x310000_1) := (qm_ BK309.out 0).trans rfl; have hcz69_1 : w64.cell? ⟨gb309, 1, none⟩ = some (.slice Ao62 x310001_1.length co62) := (qm_ BK309.out 1).trans rfl; have hfz69_0 := blk_frozen BK309.out 0; have hfz69_1 := blk_frozen BK309.out 1))
         go_roundg k1
         case measure => have := HK1.out; omega
         case rel => exact ⟨(x7_1), (x8_1), (wrap64 (x9_1 + 1)), (t320), (t321), (.slice Ao68 t321.length co68), (by first | rfl | (simp; done) | (simp [*]; done)), (by first | rfl | (simp; done) | (simp [*]; done)), H', ⟨by have := HK1.out; omega⟩, ⟨by (with_reducible repeat (first | apply qe_ | apply qf_ | apply qh_)); exact qk_ (Kd.V_far (p := ⟨gb309, 1, none⟩) (Kd.V_far (p := ⟨gb309, 0, none⟩) (Kd.V_far (p := ⟨gb328, 1, none⟩) (Kd.V_far (p := ⟨gb328, 0, none⟩) (qk_ (qk_ HO_1.out (fun k_ hk => (⟨hk, by first | exact hk.2 | exact hk.2.2 | exact hk.2.2.2⟩ : _ ∧ k_ ≠ gb328))) (fun k_ hk => (⟨hk, hk.1.1.2.2.1⟩ : _ ∧ k_ ≠ gb309))) (fun _ hk => hk.1.2) (.int .i64 t320)) (fun _ hk => hk.1.2) (.slice Ao68 t321.length co68)) (fun _ hk => hk.2) (.int .i64 t320)) (fun _ hk => hk.2) (.slice Ao68 t321.length co68)) (fun _ hk => ⟨hk.1.1.1.1, ⟨hk.1.1.1.2.1, ⟨hk.1.1.1.2.2.1, hk.1.1.1.2.2.2⟩⟩⟩)⟩, ⟨by (with_reducible repeat (first | apply Kd.N_alloc | apply Kd.N_drewN | apply Kd.N_drew)); exact Kd.N_mono (Kd.N_far (p := ⟨gb309, 1, none⟩) (Kd.N_far (p := ⟨gb309, 0, none⟩) (Kd.N_far (p := ⟨gb328, 1, none⟩) (Kd.N_far (p := ⟨gb328, 0, none⟩) (Kd.N_mono (Kd.N_mono HO_7.out (fun k_ hk => (⟨hk, by first | exact hk.2 | exact hk.2.2 | exact hk.2.2.2⟩ : _ ∧ k_ ≠ gb328))) (fun k_ hk => (⟨hk, hk.1.1.2.1⟩ : _ ∧ k_ ≠ gb309))) (fun _ hk => hk.1.2) (.int .i64 t320)) (fun _ hk => hk.1.2) (.slice Ao68 t321.length co68)) (fun _ hk => hk.2) (.int .i64 t320)) (fun _ hk => hk.2) (.slice Ao68 t321.length co68)) (fun _ hk => ⟨hk.1.1.1.1, ⟨hk.1.1.1.2.1, hk.1.1.1.2.2⟩⟩)⟩, ⟨by (with_reducible repeat (first | apply qe_ | apply qf_ | apply qh_)); exact qk_ (Kd.V_far (p := ⟨gb309, 1, none⟩) (Kd.V_far (p := ⟨gb309, 0, none⟩) (Kd.V_far (p := ⟨gb328, 1, none⟩) (Kd.V_far (p := ⟨gb328, 0, none⟩) (qk_ (qk_ HO323.out (fun k_ hk => (⟨hk, by first | exact hk.2 | exact hk.2.2 | exact hk.2.2.2⟩ : _ ∧ k_ ≠ gb328))) (fun k_ hk => (⟨hk, hk.1.1.2.2.1⟩ : _ ∧ k_ ≠ gb309))) (fun _ hk => hk.1.2) (.int .i64 t320)) (fun _ hk => hk.1.2) (.slice Ao68 t321.length co68)) (fun _ hk => hk.2) (.int .i64 t320)) (fun _ hk => hk.2) (.slice Ao68 t321.length co68)) (fun _ hk => ⟨hk.1.1.1.1, ⟨hk.1.1.1.2.1, ⟨hk.1.1.1.2.2.1, hk.1.1.1.2.2.2⟩⟩⟩)⟩, ⟨by (with_reducible repeat (first | refine qa_ ?_ _ | refine qd_ ?_ | refine qb_ ?_ _)); refine blk_put (cs := #[.int .i64 t320, .slice Ao62 x310001_1.length co62]) ?_ 1 _ rfl; (with_reducible repeat (first | refine qa_ ?_ _ | refine qd_ ?_ | refine qb_ ?_ _)); refine blk_put (cs := #[.int .i64 x310000_1, .slice Ao62 x310001_1.length co62]) ?_ 0 _ rfl; (with_reducible repeat (first | refine qa_ ?_ _ | refine qd_ ?_ | refine qb_ ?_ _)); refine blk_far ?_ NB309_328.out _; (with_reducible repeat (first | refine qa_ ?_ _ | refine qd_ ?_ | refine qb_ ?_ _)); refine blk_far ?_ NB309_328.out _; (with_reducible repeat (first | refine qa_ ?_ _ | refine qd_ ?_ | refine qb_ ?_ _)); exact BK309.out⟩, ⟨by (with_reducible repeat (first | refine qa_ ?_ _ | refine qd_ ?_ | refine qb_ ?_ _)); refine blk_far ?_ NB310_309.out _; (with_reducible repeat (first | refine qa_ ?_ _ | refine qd_ ?_ | refine qb_ ?_ _)); refine blk_far ?_ NB310_309.out _; (with_reducible repeat (first | refine qa_ ?_ _ | refine qd_ ?_ | refine qb_ ?_ _)); refine blk_far ?_ NB310_328.out _; (with_reducible repeat (first | refine qa_ ?_ _ | refine qd_ ?_ | refine qb_ ?_ _)); refine blk_far ?_ NB310_328.out _; (with_reducible repeat (first | refine qa_ ?_ _ | refine qd_ ?_ | refine qb_ ?_ _)); exact BK310.out⟩, ⟨by repeat (first | (with_reducible first | exact HB.out | apply qj_ | apply qg_ | apply qi_ | refine qc_ ?_ GE309.out | refine qc_ ?_ GE310.out | refine qc_ ?_ GE328.out) | exact HB.out)⟩⟩
       ·rw [if_neg c41] at H
        have c41b0 : (((rd_T38 l1 x9_1).f0) == 2) = false := beq_eq_false_iff_ne.mpr c41
        have c41b1 : (((rd_T38 l1 x9_1).f0) != 2) = true := bne_iff_ne.mpr c41
        by_cases c70 : ((rd_T38 l1 x9_1).f0) = 3
        ·rw [if_pos c70] at H
         have c70b0 : (((rd_T38 l1 x9_1).f0) == 3) = true := beq_iff_eq.mpr c70
         have c70b1 : (((rd_T38 l1 x9_1).f0) != 3) = false := bne_eq_false_iff_eq.mpr c70
         clear c70
         replace H := Option.bind_eq_some_iff.mp H
         obtain ⟨⟨t333, t334, t337⟩, A710, H⟩ := H
         replace H : (if t337 = true then (selfstabref41_Play.l0 k1 l1 x7_1 (wrap64 (x8_1 + 1)) (wrap64 (x9_1 + 1)) t333 t334) else (selfstabref41_Play.l0 k1 l1 x7_1 x8_1 (wrap64 (x9_1 + 1)) t333 t334)) = some (r1, r2, r3, r4) := H
         have A71 := Aside0.mk A710
         clear A710
         by_cases c72 : t337 = true
         ·subst c72
          have H1 : (selfstabref41_Play.l0 k1 l1 x7_1 (wrap64 (x8_1 + 1)) (wrap64 (x9_1 + 1)) t333 t334) = some (r1, r2, r3, r4) := by rw [if_pos rfl] at H; exact H
          clear H
          have H := H1
          clear H1
          have H' := Aside0.mk H
          clear H
          have p312 : 0 ≤ (x9_1 : Int) := of_decide_eq_true (by first | (with_reducible assumption) | assumption)
          have q312 : x9_1 < (l1.length : Int) := of_decide_eq_true (by first | (with_reducible assumption) | assumption)
          (try (obtain ⟨Az312, cz312, ez312⟩ := Kd.V_slice HO_1.out; subst ez312))
          obtain ⟨ad312, A312_2, c312_2, e312, hx312_0, hx312_1, hx312_2, hl312_2, hi312_2⟩ := at_T38 (Kd.V_reads' HO_1.out).2.2 x9_1 p312 q312
          cases e312
          obtain ⟨ce312, hce312, hMe312, hcc312⟩ := Kd.V_get HO_1.out z38 x9_1 p312 (by first | exact q312 | exact of_decide_eq_true (by first | (with_reducible assumption) | assumption) | (have e_ := (Kd.V_reads' HO_1.out).1; omega))
          obtain ⟨ua312_2, uc312_2, rfl, ul312_2, ge312_2⟩ := k38_openF hMe312
          have hv312_2 := hcc312 2 _ rfl
          rw [add_field _ _ 2 (by omega)] at hv312_2
          replace hv312_2 := Option.some.inj (hv312_2.symm.trans hx312_2)
          injection hv312_2 with hva_ hvn_ hvc_
          rw [hva_] at ge312_2
          rw [hvc_] at ul312_2
          have HL312_2 := Aside0.mk (show Kd.V (Kd.int .i64) 3 _ w.heap.size _ _ ((rd_T38 l1 x9_1).f2) from Kd.V_mk ul312_2 ge312_2)
          clear hva_ hvn_ hvc_ ge312_2 ul312_2; clear hcc312 hce312
          have HR312_2 := Aside0.mk hi312_2
          have HC312_2 := Aside0.mk hl312_2
          clear hi312_2 hl312_2
          replace p312 := eq_true p312
          replace q312 := eq_true q312
          obtain ⟨Ao73, co73, eo73⟩ := Kd.V_slice HO_310001.out
          subst eo73
          try go_wp2
          have n0_ := Aside0.mk (qh_ HO_1.out)
          have n1_ := Aside0.mk (Kd.N_drew HO_7.out)
          have n2_ := Aside0.mk (qh_ HO_310001.out)
          have n3_ := Aside0.mk (qh_ HL312_2.out)
          have n4_ := Aside0.mk (qd_ BK309.out)
          have n5_ := Aside0.mk (qd_ BK310.out)
          have n6_ := Aside0.mk (Kd.C_drew HR312_2.out)
          have n7_ := Aside0.mk (qi_ HB.out)
          clear HO_1; clear HO_7; clear HO_310001; clear HL312_2; clear BK309; clear BK310; clear HR312_2; clear HB; have HO_1 := n0_; have HO_7 := n1_; have HO_310001 := n2_; have HL312_2 := n3_; have BK309 := n4_; have BK310 := n5_; have HR312_2 := n6_; have HB := n7_; clear n0_ n1_ n2_ n3_ n4_ n5_ n6_ n7_
          have p332 : 0 ≤ (x9_1 : Int) := of_decide_eq_true (by first | (with_reducible assumption) | assumption)
          have q332 : x9_1 < (l1.length : Int) := of_decide_eq_true (by first | (with_reducible assumption) | assumption)
          (try (obtain ⟨Az332, cz332, ez332⟩ := Kd.V_slice HO_1.out; subst ez332))
          obtain ⟨ad332, A332_2, c332_2, e332, hx332_0, hx332_1, hx332_2, hl332_2, hi332_2⟩ := at_T38 (Kd.V_reads' HO_1.out).2.2 x9_1 p332 q332
          obtain rfl : ad312 = ad332 := (by injection e332)
          obtain ⟨ce332, hce332, hMe332, hcc332⟩ := Kd.V_get HO_1.out z38 x9_1 p332 (by first | exact q332 | exact of_decide_eq_true (by first | (with_reducible assumption) | assumption) | (have e_ := (Kd.V_reads' HO_1.out).1; omega))
          obtain ⟨ua332_2, uc332_2, rfl, ul332_2, ge332_2⟩ := k38_openF hMe332
          have hv332_2 := hcc332 2 _ rfl
          rw [add_field _ _ 2 (by omega)] at hv332_2
          replace hv332_2 := Option.some.inj (hv332_2.symm.trans hx332_2)
          injection hv332_2 with hva_ hvn_ hvc_
          rw [hva_] at ge332_2
          rw [hvc_] at ul332_2
          have HL332_2 := Aside0.mk (show Kd.V (Kd.int .i64) 3 _ w.heap.size _ _ ((rd_T38 l1 x9_1).f2) from Kd.V_mk ul332_2 ge332_2)
          clear hva_ hvn_ hvc_ ge332_2 ul332_2; clear hcc332 hce332
          have HR332_2 := Aside0.mk hi332_2
          have HC332_2 := Aside0.mk hl332_2
          clear hi332_2 hl332_2
          replace p332 := eq_true p332
          replace q332 := eq_true q332
          refine start_ (n := 13) (S := fun w' => w'.cell? ⟨gb309, 0, none⟩ = some (.int .i64 x310000_1) ∧ w'.cell? ⟨gb309, 1, none⟩ = some (.slice Ao73 x310001_1.length co73) ∧ w'.cell? (ad312.add ((x9_1).toNat * 3)) = some (.int .i64 ((rd_T38 l1 x9_1).f0)) ∧ w'.cell? ⟨(ad312.add ((x9_1).toNat * 3)).block, (ad312.add ((x9_1).toNat * 3)).off + 1, none⟩ = some (.int .i64 ((rd_T38 l1 x9_1).f1)) ∧ w'.cell? ⟨(ad312.add ((x9_1).toNat * 3)).block, (ad312.add ((x9_1).toNat * 3)).off + 2, none⟩ = some (.slice A332_2 ((rd_T38 l1 x9_1).f2).length c332_2)) (ds := []) #[false, false, false, false, false, false, false, false, false, false, false, false, false] (by kernel_rfl) rfl rfl ⟨(qm_ BK309.out 0).trans rfl, (qm_ BK309.out 1).trans rfl, hx332_0, hx332_1, hx332_2⟩ (fun hHeld => ?_); refine with_tabW selfstabref41_Play.tab20 selfstabref41_Play.bits20 (fun HT_ HW_ => ?_)
          generalize wr.drew = w74 at HO_1 HO_7 HO_310001 HL312_2 BK309 BK310 HR312_2 HB HL332_2 HR332_2 hx332_0 hx332_1 hx332_2 hHeld ⊢
          refine pure_ (i := 1) (N := some 67) (v := ?_) (a' := ?_) #[false, true, false, false, false, false, false, false, false, false, false, false, false] rfl rfl (any_of HT_.out (by kernel_rfl)) (fun _ _ _ h => h) (Or.inl ⟨by rfl, ?_⟩) ?_ ?_
          rotate_left
          ·intro w'
           go_simp
           with_reducible rfl
          rotate_left
          ·simp only [Act.put, List.setIfInBounds_toArray, List.set_cons_zero, List.set_cons_succ, i64_w, i32_w]
           rfl
          refine pure_ (i := 2) (N := some 68) (v := ?_) (a' := ?_) #[false, true, true, false, false, false, false, false, false, false, false, false, false] rfl rfl (any_of HT_.out (by kernel_rfl)) (fun _ _ _ h => h) (Or.inl ⟨by rfl, ?_⟩) ?_ ?_
          rotate_left
          ·intro w'
           go_simp
           with_reducible rfl
          rotate_left
          ·simp only [Act.put, List.setIfInBounds_toArray, List.set_cons_zero, List.set_cons_succ, i64_w, i32_w]
           rfl
          refine pure_ (i := 3) (N := some 69) (v := ?_) (a' := ?_) #[false, true, true, true, false, false, false, false, false, false, false, false, false] rfl rfl (any_of HT_.out (by kernel_rfl)) (fun _ _ _ h => h) (Or.inl ⟨by rfl, ?_⟩) ?_ ?_
          rotate_left
          ·intro w'
           go_simp
           with_reducible rfl
          rotate_left
          ·simp only [Act.put, List.setIfInBounds_toArray, List.set_cons_zero, List.set_cons_succ, i64_w, i32_w]
           rfl
          refine pure_ (i := 4) (N := some 70) (v := ?_) (a' := ?_) #[false, true, true, true, true, false, false, false, false, false, false, false, false] rfl rfl (any_of HT_.out (by kernel_rfl)) (fun _ _ _ h => h) (Or.inl ⟨by rfl, ?_⟩) ?_ ?_
          rotate_left
          ·intro w'
           go_simp
           with_reducible rfl
          rotate_left
          ·simp only [Act.put, List.setIfInBounds_toArray, List.set_cons_zero, List.set_cons_succ, i64_w, i32_w]
           rfl
          refine take_ (i := 0) (N := some 66) (v := ?_) (a' := ?_) #[true, true, true, true, true, false, false, false, false, false, false, false, false] rfl rfl (take_ofW HT_.out HW_.out (by kernel_rfl)) (fun _ _ _ h => h) (Or.inl ⟨by rfl, ?_⟩) hHeld ?_ ?_
          rotate_left
          ·rintro w' ⟨s0, s1, s2, s3, s4⟩
           go_simp
           with_reducible rfl
          rotate_left
          ·simp only [Act.put, List.setIfInBounds_toArray, List.set_cons_zero, List.set_cons_succ, i64_w, i32_w]
           rfl
          refine take_ (i := 5) (N := some 71) (v := ?_) (a' := ?_) #[true, true, true, true, true, true, false, false, false, false, false, false, false] rfl rfl (take_ofW HT_.out HW_.out (by kernel_rfl)) (fun _ _ _ h => h) (Or.inl ⟨by rfl, ?_⟩) hHeld ?_ ?_
          rotate_left
          ·rintro w' ⟨s0, s1, s2, s3, s4⟩
           go_simp
           with_reducible rfl
          rotate_left
          ·simp only [Act.put, List.setIfInBounds_toArray, List.set_cons_zero, List.set_cons_succ, i64_w, i32_w]
           rfl
          refine join_ (σ := Value × Nat) 2 #[true, true, true, true, true, true, true, true, true, true, true, false, false] (fun s_ => [(72, .tuple #[.agg #[.int .i64 t333, s_.1], .bool true]), (15, .pointer (some ⟨s_.2, 0, none⟩)), (65, .tuple #[.agg #[.int .i64 t333, s_.1], .bool true]), (73, .agg #[.int .i64 t333, s_.1]), (74, .bool true)]) (fun s_ w' => (w'.cell? ⟨gb309, 0, none⟩ = some (.int .i64 x310000_1) ∧ w'.cell? ⟨gb309, 1, none⟩ = some (.slice Ao73 x310001_1.length co73) ∧ w'.cell? (ad312.add ((x9_1).toNat * 3)) = some (.int .i64 ((rd_T38 l1 x9_1).f0)) ∧ w'.cell? ⟨(ad312.add ((x9_1).toNat * 3)).block, (ad312.add ((x9_1).toNat * 3)).off + 1, none⟩ = some (.int .i64 ((rd_T38 l1 x9_1).f1)) ∧ w'.cell? ⟨(ad312.add ((x9_1).toNat * 3)).block, (ad312.add ((x9_1).toNat * 3)).off + 2, none⟩ = some (.slice A332_2 ((rd_T38 l1 x9_1).f2).length c332_2)) ∧ (Kd.V (Kd.int .i64) 3 w' w.heap.size (fun k_ => ((P0_1_ k_ ∨ P1_ k_) ∨ w.heap.size ≤ k_) ∧ some k_ ≠ (u7 : Value).ownBlock ∧ k_ ≠ gb309 ∧ k_ ≠ gb310 ∧ k_ ≠ s_.2) (.slice A312_2 ((rd_T38 l1 x9_1).f2).length c312_2) ((rd_T38 l1 x9_1).f2)) ∧ (Kd.V (Kd.int .i64) 3 w' w.heap.size (fun k_ => ((P0_1_ k_ ∨ P1_ k_) ∨ w.heap.size ≤ k_) ∧ some k_ ≠ (u7 : Value).ownBlock ∧ k_ ≠ gb309 ∧ k_ ≠ gb310 ∧ k_ ≠ s_.2) (.slice A332_2 ((rd_T38 l1 x9_1).f2).length c332_2) ((rd_T38 l1 x9_1).f2)) ∧ (Kd.V (Kd.slice 3 (Kd.int .i64)) 25 w' w.heap.size (fun k_ => ((P0_1_ k_ ∨ P1_ k_) ∨ w.heap.size ≤ k_) ∧ some k_ ≠ (u7 : Value).ownBlock ∧ k_ ≠ gb309 ∧ k_ ≠ gb310 ∧ k_ ≠ s_.2) s_.1 t334) ∧ (Kd.V k38 38 w' w.heap.size (fun k_ => ((P0_1_ k_ ∨ P1_ k_) ∨ w.heap.size ≤ k_) ∧ some k_ ≠ (u7 : Value).ownBlock ∧ k_ ≠ gb309 ∧ k_ ≠ gb310 ∧ k_ ≠ s_.2) (.slice (some ad312) l1.length c1) l1) ∧ (Kd.V (Kd.slice 3 (Kd.int .i64)) 25 w' w.heap.size (fun k_ => ((P0_1_ k_ ∨ P1_ k_) ∨ w.heap.size ≤ k_) ∧ some k_ ≠ (u7 : Value).ownBlock ∧ k_ ≠ gb309 ∧ k_ ≠ gb310 ∧ k_ ≠ s_.2) (.slice Ao73 x310001_1.length co73) x310001_1) ∧ (Kd.N (Kd.slice 3 (Kd.int .i64)) 25 w' w.heap.size (fun k_ => ((P0_1_ k_ ∨ P1_ k_) ∨ w.heap.size ≤ k_) ∧ k_ ≠ gb309 ∧ k_ ≠ gb310 ∧ k_ ≠ s_.2) u7 x7_1) ∧ (w'.heap[gb309]? = some (.cells #[.int .i64 x310000_1, .slice Ao73 x310001_1.length co73] 24 (0, 0))) ∧ (w'.heap[gb310]? = some (.cells #[.int .i64 0, .slice none 0 0] 24 (0, 0))) ∧ (w'.heap[s_.2]? = some (.cells #[.int .i64 0, .slice none 0 0] 24 (0, 0))) ∧ (w.heap.size ≤ s_.2) ∧ (w.heap.size ≤ s_.2) ∧ (gb309 ≠ s_.2) ∧ (s_.2 ≠ gb309) ∧ (gb310 ≠ s_.2) ∧ (s_.2 ≠ gb310) ∧ (Below w.heap.size w w')) ?_ ?_
          rotate_left
          ·intro hCont
           refine two_ (i := 6) (j := 10) (Ni := some 72) (Nj := some 15) #[true, true, true, true, true, true, true, false, false, false, false, false, false] #[true, true, true, true, true, true, false, false, false, false, true, false, false] rfl rfl rfl rfl (two_of HT_.out (by kernel_rfl)) (by decide) (by decide) (fun K hK => ?_) (fun K hK => ?_)
           ·skip
            refine goes_ Try.func14 (by kernel_rfl) rfl #[.agg #[.int .i64 x310000_1, .slice Ao73 x310001_1.length co73], .int .i64 ((rd_T38 l1 x9_1).f1)] (by rfl) rfl rfl (by (try simp only [List.map_toArray, List.map_cons, List.map_nil]); first | done | rfl | (simp only [List.length_drop, List.length_take]; rfl)) ?_
            with_reducible refine (selfstabref41_Lose.calls k1 x310000_1 (fun k_ => (((P0_1_ k_ ∨ P1_ k_) ∨ w.heap.size ≤ k_) ∧ (some k_ ≠ (u7 : Value).ownBlock ∧ (k_ ≠ gb309 ∧ k_ ≠ gb310)))) _ _ x310001_1 ((rd_T38 l1 x9_1).f1) t333 t334 true _ ?side1 A71.out).mono ?_
            (case side1 => exact HO_310001.out)
            rintro e w75 ⟨v335, rfl, ho0, hb⟩
            have HS2_ := (hb.cell (World.block_lt_of_cell? _ _ (hHeld.2.2.1))).trans (hHeld.2.2.1)
            have HS3_ := (hb.cell (World.block_lt_of_cell? _ _ (hHeld.2.2.2.1))).trans (hHeld.2.2.2.1)
            have HS4_ := (hb.cell (World.block_lt_of_cell? _ _ (hHeld.2.2.2.2))).trans (hHeld.2.2.2.2)
            refine ⟨_, rfl, ?_⟩
            have n0_ := Aside0.mk (ql_ (by (with_reducible repeat (first | apply qe_ | apply qf_ | apply qh_)); exact HO_1.out) hb)
            have n1_ := Aside0.mk (Kd.N_below (by (with_reducible repeat (first | apply Kd.N_alloc | apply Kd.N_drewN | apply Kd.N_drew)); exact HO_7.out) hb)
            have n2_ := Aside0.mk (ql_ (by (with_reducible repeat (first | apply qe_ | apply qf_ | apply qh_)); exact HO_310001.out) hb)
            have n3_ := Aside0.mk (ql_ (by (with_reducible repeat (first | apply qe_ | apply qf_ | apply qh_)); exact HL312_2.out) hb)
            have n4_ := Aside0.mk (ql_ (by (with_reducible repeat (first | apply qe_ | apply qf_ | apply qh_)); exact HL332_2.out) hb)
            have n5_ := Aside0.mk (Kd.V_lower (qk_ (ok' := fun k_ => ((P0_1_ k_ ∨ P1_ k_) ∨ w.heap.size ≤ k_) ∧ some k_ ≠ (u7 : Value).ownBlock ∧ k_ ≠ gb309 ∧ k_ ≠ gb310) ho0 (fun k_ hk_ => ⟨Or.elim hk_ (fun hs_ => hs_.1) (fun hn_ => (.inr (Nat.le_trans (below_size (by repeat (first | (with_reducible first | exact HB.out | apply qj_ | apply qg_ | apply qi_ | refine qc_ ?_ GE309.out | refine qc_ ?_ GE310.out) | exact HB.out))) hn_))), Or.elim hk_ (fun hs_ => hs_.2.1) (fun hn_ => (Kd.fresh' (Kd.N_lt (by (with_reducible repeat (first | apply Kd.N_alloc | apply Kd.N_drewN | apply Kd.N_drew)); exact HO_7.out)) k_ hn_)), Or.elim hk_ (fun hs_ => hs_.2.2.1) (fun hn_ => (Kd.freshB (g := gb309) (o := .cells #[.int .i64 x310000_1, .slice Ao73 x310001_1.length co73] 24 (0, 0)) (by (with_reducible repeat (first | refine qa_ ?_ _ | refine qd_ ?_ | refine qb_ ?_ _)); exact BK309.out) k_ hn_)), Or.elim hk_ (fun hs_ => hs_.2.2.2) (fun hn_ => (Kd.freshB (g := gb310) (o := .cells #[.int .i64 0, .slice none 0 0] 24 (0, 0)) (by (with_reducible repeat (first | refine qa_ ?_ _ | refine qd_ ?_ | refine qb_ ?_ _)); exact BK310.out) k_ hn_))⟩)) (below_size (by repeat (first | (with_reducible first | exact HB.out | apply qj_ | apply qg_ | apply qi_ | refine qc_ ?_ GE309.out | refine qc_ ?_ GE310.out) | exact HB.out))))
            have n6_ := Aside0.mk (blk_below (g := gb309) (o := .cells #[.int .i64 x310000_1, .slice Ao73 x310001_1.length co73] 24 (0, 0)) (by (with_reducible repeat (first | refine qa_ ?_ _ | refine qd_ ?_ | refine qb_ ?_ _)); exact BK309.out) hb)
            have n7_ := Aside0.mk (blk_below (g := gb310) (o := .cells #[.int .i64 0, .slice none 0 0] 24 (0, 0)) (by (with_reducible repeat (first | refine qa_ ?_ _ | refine qd_ ?_ | refine qb_ ?_ _)); exact BK310.out) hb)
            have n8_ := Aside0.mk (Kd.C_below (by repeat (first | (with_reducible exact HR312_2.out) | (with_reducible refine Kd.C_alloc ?_ _) | (with_reducible refine Kd.C_drewN ?_ _) | (with_reducible refine Kd.C_drew ?_) | exact HR312_2.out)) hb)
            have n9_ := Aside0.mk (Kd.C_below (by repeat (first | (with_reducible exact HR332_2.out) | (with_reducible refine Kd.C_alloc ?_ _) | (with_reducible refine Kd.C_drewN ?_ _) | (with_reducible refine Kd.C_drew ?_) | exact HR332_2.out)) hb)
            have n10_ := Aside0.mk (below_step (by repeat (first | (with_reducible first | exact HB.out | apply qj_ | apply qg_ | apply qi_ | refine qc_ ?_ GE309.out | refine qc_ ?_ GE310.out) | exact HB.out)) hb)
            clear HO_1; clear HO_7; clear HO_310001; clear HL312_2; clear HL332_2; clear BK309; clear BK310; clear HR312_2; clear HR332_2; clear HB; have HO_1 := n0_; have HO_7 := n1_; have HO_310001 := n2_; have HL312_2 := n3_; have HL332_2 := n4_; have HO336 := n5_; have BK309 := n6_; have BK310 := n7_; have HR312_2 := n8_; have HR332_2 := n9_; have HB := n10_; clear n0_ n1_ n2_ n3_ n4_ n5_ n6_ n7_ n8_ n9_ n10_; (try clear hb); (try clear hb2); (try clear hk); (try clear hi); (try clear ho0)
            refine hK.out _ _ ⟨(qm_ BK309.out 0).trans rfl, (qm_ BK309.out 1).trans rfl, HS2_, HS3_, HS4_⟩ (fun hHeld => ?_)
            clear hK K
            refine norm_ (a' := ?_) ?_ ?_
            rotate_left
            ·show Act.put _ (some 72) _ = _
             simp only [Act.put, List.setIfInBounds_toArray, List.set_cons_zero, List.set_cons_succ, i64_w, i32_w]
             rfl
            refine pure_ (i := 7) (N := some 65) (v := ?_) (a' := ?_) #[true, true, true, true, true, true, true, true, false, false, false, false, false] rfl rfl (any_of HT_.out (by kernel_rfl)) (fun _ _ _ h => h) (Or.inl ⟨by rfl, ?_⟩) ?_ ?_
            rotate_left
            ·intro w'
             go_simp
             with_reducible rfl
            rotate_left
            ·simp only [Act.put, List.setIfInBounds_toArray, List.set_cons_zero, List.set_cons_succ, i64_w, i32_w]
             rfl
            refine pure_ (i := 8) (N := some 73) (v := ?_) (a' := ?_) #[true, true, true, true, true, true, true, true, true, false, false, false, false] rfl rfl (any_of HT_.out (by kernel_rfl)) (fun _ _ _ h => h) (Or.inl ⟨by rfl, ?_⟩) ?_ ?_
            rotate_left
            ·intro w'
             go_simp
             with_reducible rfl
            rotate_left
            ·simp only [Act.put, List.setIfInBounds_toArray, List.set_cons_zero, List.set_cons_succ, i64_w, i32_w]
             rfl
            refine pure_ (i := 9) (N := some 74) (v := ?_) (a' := ?_) #[true, true, true, true, true, true, true, true, true, true, false, false, false] rfl rfl (any_of HT_.out (by kernel_rfl)) (fun _ _ _ h => h) (Or.inl ⟨by rfl, ?_⟩) ?_ ?_
            rotate_left
            ·intro w'
             go_simp
             with_reducible rfl
            rotate_left
            ·simp only [Act.put, List.setIfInBounds_toArray, List.set_cons_zero, List.set_cons_succ, i64_w, i32_w]
             rfl
            refine one_ (i := 10) (N := some 15) #[true, true, true, true, true, true, true, true, true, true, true, false, false] rfl rfl (one_of HT_.out (by kernel_rfl)) (by decide) (fun K hK => ?_)
            refine box_step ?hg (N := 15) ?hd (cs := #[.int .i64 0, .slice none 0 0]) (t := 24) ?hr ?_; (case hd => rfl); (case hg => rfl); (case hr => first | (go_simp; done) | (go_simp; rfl))
            intro gb338 hg w76 hbox hb
            have HS2_ := (hb.cell (World.block_lt_of_cell? _ _ (hHeld.2.2.1))).trans (hHeld.2.2.1)
            have HS3_ := (hb.cell (World.block_lt_of_cell? _ _ (hHeld.2.2.2.1))).trans (hHeld.2.2.2.1)
            have HS4_ := (hb.cell (World.block_lt_of_cell? _ _ (hHeld.2.2.2.2))).trans (hHeld.2.2.2.2)
            have n0_ := Aside0.mk (ql_ (Kd.V_elderB (by (with_reducible repeat (first | apply qe_ | apply qf_ | apply qh_)); exact HO_1.out) gb338 (Nat.le_of_eq hg.symm)) hb)
            have n1_ := Aside0.mk (Kd.N_below (Kd.N_elderB (by (with_reducible repeat (first | apply Kd.N_alloc | apply Kd.N_drewN | apply Kd.N_drew)); exact HO_7.out) gb338 (Nat.le_of_eq hg.symm)) hb)
            have n2_ := Aside0.mk (ql_ (Kd.V_elderB (by (with_reducible repeat (first | apply qe_ | apply qf_ | apply qh_)); exact HO_310001.out) gb338 (Nat.le_of_eq hg.symm)) hb)
            have n3_ := Aside0.mk (ql_ (Kd.V_elderB (by (with_reducible repeat (first | apply qe_ | apply qf_ | apply qh_)); exact HL312_2.out) gb338 (Nat.le_of_eq hg.symm)) hb)
            have n4_ := Aside0.mk (ql_ (Kd.V_elderB (by (with_reducible repeat (first | apply qe_ | apply qf_ | apply qh_)); exact HL332_2.out) gb338 (Nat.le_of_eq hg.symm)) hb)
            have n5_ := Aside0.mk (ql_ (Kd.V_elderB (by (with_reducible repeat (first | apply qe_ | apply qf_ | apply qh_)); exact HO336.out) gb338 (Nat.le_of_eq hg.symm)) hb)
            have n6_ := Aside0.mk (blk_below (g := gb309) (o := .cells #[.int .i64 x310000_1, .slice Ao73 x310001_1.length co73] 24 (0, 0)) (by (with_reducible repeat (first | refine qa_ ?_ _ | refine qd_ ?_ | refine qb_ ?_ _)); exact BK309.out) hb)
            have n7_ := Aside0.mk (blk_below (g := gb310) (o := .cells #[.int .i64 0, .slice none 0 0] 24 (0, 0)) (by (with_reducible repeat (first | refine qa_ ?_ _ | refine qd_ ?_ | refine qb_ ?_ _)); exact BK310.out) hb)
            have n8_ := Aside0.mk (Kd.C_below (by repeat (first | (with_reducible exact HR312_2.out) | (with_reducible refine Kd.C_alloc ?_ _) | (with_reducible refine Kd.C_drewN ?_ _) | (with_reducible refine Kd.C_drew ?_) | exact HR312_2.out)) hb)
            have n9_ := Aside0.mk (Kd.C_below (by repeat (first | (with_reducible exact HR332_2.out) | (with_reducible refine Kd.C_alloc ?_ _) | (with_reducible refine Kd.C_drewN ?_ _) | (with_reducible refine Kd.C_drew ?_) | exact HR332_2.out)) hb)
            have n10_ := Aside0.mk (below_step (by repeat (first | (with_reducible first | exact HB.out | apply qj_ | apply qg_ | apply qi_ | refine qc_ ?_ GE309.out | refine qc_ ?_ GE310.out) | exact HB.out)) hb)
            have n11_ := Aside0.mk (hbox)
            have n12_ := Aside0.mk ((by rw [hg]; exact (below_size (by repeat (first | (with_reducible first | exact HB.out | apply qj_ | apply qg_ | apply qi_ | refine qc_ ?_ GE309.out | refine qc_ ?_ GE310.out) | exact HB.out))) : w.heap.size ≤ gb338))
            have n13_ := Aside0.mk ((by rw [hg]; exact (below_size (by repeat (first | (with_reducible first | exact HB.out | apply qj_ | apply qg_ | apply qi_ | refine qc_ ?_ GE309.out | refine qc_ ?_ GE310.out) | exact HB.out))) : w.heap.size ≤ gb338))
            have n14_ := Aside0.mk ((by rw [hg]; exact Nat.ne_of_lt (blk_lt (g := gb309) (o := .cells #[.int .i64 x310000_1, .slice Ao73 x310001_1.length co73] 24 (0, 0)) (by (with_reducible repeat (first | refine qa_ ?_ _ | refine qd_ ?_ | refine qb_ ?_ _)); exact BK309.out)) : gb309 ≠ gb338))
            have n15_ := Aside0.mk ((by rw [hg]; exact Nat.ne_of_gt (blk_lt (g := gb309) (o := .cells #[.int .i64 x310000_1, .slice Ao73 x310001_1.length co73] 24 (0, 0)) (by (with_reducible repeat (first | refine qa_ ?_ _ | refine qd_ ?_ | refine qb_ ?_ _)); exact BK309.out)) : gb338 ≠ gb309))
            have n16_ := Aside0.mk ((by rw [hg]; exact Nat.ne_of_lt (blk_lt (g := gb310) (o := .cells #[.int .i64 0, .slice none 0 0] 24 (0, 0)) (by (with_reducible repeat (first | refine qa_ ?_ _ | refine qd_ ?_ | refine qb_ ?_ _)); exact BK310.out)) : gb310 ≠ gb338))
            have n17_ := Aside0.mk ((by rw [hg]; exact Nat.ne_of_gt (blk_lt (g := gb310) (o := .cells #[.int .i64 0, .slice none 0 0] 24 (0, 0)) (by (with_reducible repeat (first | refine qa_ ?_ _ | refine qd_ ?_ | refine qb_ ?_ _)); exact BK310.out)) : gb338 ≠ gb310))
            clear HO_1; clear HO_7; clear HO_310001; clear HL312_2; clear HL332_2; clear HO336; clear BK309; clear BK310; clear HR312_2; clear HR332_2; clear HB; have HO_1 := n0_; have HO_7 := n1_; have HO_310001 := n2_; have HL312_2 := n3_; have HL332_2 := n4_; have HO336 := n5_; have BK309 := n6_; have BK310 := n7_; have HR312_2 := n8_; have HR332_2 := n9_; have HB := n10_; have BK338 := n11_; have GW338 := n12_; have GE338 := n13_; have NB309_338 := n14_; have NB338_309 := n15_; have NB310_338 := n16_; have NB338_310 := n17_; clear n0_ n1_ n2_ n3_ n4_ n5_ n6_ n7_ n8_ n9_ n10_ n11_ n12_ n13_ n14_ n15_ n16_ n17_; clear hb hbox hg
            refine hK.out _ _ ⟨(qm_ BK309.out 0).trans rfl, (qm_ BK309.out 1).trans rfl, HS2_, HS3_, HS4_⟩ (fun hHeld => ?_)
            clear hK K
            refine norm_ (a' := ?_) ?_ ?_
            rotate_left
            ·show Act.put _ (some 15) _ = _
             simp only [Act.put, List.setIfInBounds_toArray, List.set_cons_zero, List.set_cons_succ, i64_w, i32_w]
             rfl
            exact norm_ (by simp only [putAll, Act.put, List.setIfInBounds_toArray, List.set_cons_zero, List.set_cons_succ]) (hCont (v335, gb338) _ ⟨hHeld, (by (with_reducible repeat (first | apply qe_ | apply qf_ | apply qh_)); exact qk_ HL312_2.out (fun _ hk => ⟨hk.1.1, ⟨hk.1.2.1, ⟨hk.1.2.2.1, ⟨hk.1.2.2.2, hk.2⟩⟩⟩⟩)), (by (with_reducible repeat (first | apply qe_ | apply qf_ | apply qh_)); exact qk_ HL332_2.out (fun _ hk => ⟨hk.1.1, ⟨hk.1.2.1, ⟨hk.1.2.2.1, ⟨hk.1.2.2.2, hk.2⟩⟩⟩⟩)), (by (with_reducible repeat (first | apply qe_ | apply qf_ | apply qh_)); exact qk_ HO336.out (fun _ hk => ⟨hk.1.1, ⟨hk.1.2.1, ⟨hk.1.2.2.1, ⟨hk.1.2.2.2, hk.2⟩⟩⟩⟩)), (by (with_reducible repeat (first | apply qe_ | apply qf_ | apply qh_)); exact qk_ HO_1.out (fun _ hk => ⟨hk.1.1, ⟨hk.1.2.1, ⟨hk.1.2.2.1, ⟨hk.1.2.2.2, hk.2⟩⟩⟩⟩)), (by (with_reducible repeat (first | apply qe_ | apply qf_ | apply qh_)); exact qk_ HO_310001.out (fun _ hk => ⟨hk.1.1, ⟨hk.1.2.1, ⟨hk.1.2.2.1, ⟨hk.1.2.2.2, hk.2⟩⟩⟩⟩)), (by (with_reducible repeat (first | apply Kd.N_alloc | apply Kd.N_drewN | apply Kd.N_drew)); exact Kd.N_mono HO_7.out (fun _ hk => ⟨hk.1.1, ⟨hk.1.2.1, ⟨hk.1.2.2, hk.2⟩⟩⟩)), (by (with_reducible repeat (first | refine qa_ ?_ _ | refine qd_ ?_ | refine qb_ ?_ _)); exact BK309.out), (by (with_reducible repeat (first | refine qa_ ?_ _ | refine qd_ ?_ | refine qb_ ?_ _)); exact BK310.out), (by (with_reducible repeat (first | refine qa_ ?_ _ | refine qd_ ?_ | refine qb_ ?_ _)); exact BK338.out), GW338.out, GE338.out, NB309_338.out, NB338_309.out, NB310_338.out, NB338_310.out, (by repeat (first | (with_reducible first | exact HB.out | apply qj_ | apply qg_ | apply qi_ | refine qc_ ?_ GE309.out | refine qc_ ?_ GE310.out | refine qc_ ?_ GE338.out) | exact HB.out))⟩)
           ·skip
            refine box_step ?hg (N := 15) ?hd (cs := #[.int .i64 0, .slice none 0 0]) (t := 24) ?hr ?_; (case hd => rfl); (case hg => rfl); (case hr => first | (go_simp; done) | (go_simp; rfl))
            intro gb338 hg w75 hbox hb
            have HS2_ := (hb.cell (World.block_lt_of_cell? _ _ (hHeld.2.2.1))).trans (hHeld.2.2.1)
            have HS3_ := (hb.cell (World.block_lt_of_cell? _ _ (hHeld.2.2.2.1))).trans (hHeld.2.2.2.1)
            have HS4_ := (hb.cell (World.block_lt_of_cell? _ _ (hHeld.2.2.2.2))).trans (hHeld.2.2.2.2)
            have n0_ := Aside0.mk (ql_ (Kd.V_elderB (by (with_reducible repeat (first | apply qe_ | apply qf_ | apply qh_)); exact HO_1.out) gb338 (Nat.le_of_eq hg.symm)) hb)
            have n1_ := Aside0.mk (Kd.N_below (Kd.N_elderB (by (with_reducible repeat (first | apply Kd.N_alloc | apply Kd.N_drewN | apply Kd.N_drew)); exact HO_7.out) gb338 (Nat.le_of_eq hg.symm)) hb)
            have n2_ := Aside0.mk (ql_ (Kd.V_elderB (by (with_reducible repeat (first | apply qe_ | apply qf_ | apply qh_)); exact HO_310001.out) gb338 (Nat.le_of_eq hg.symm)) hb)
            have n3_ := Aside0.mk (ql_ (Kd.V_elderB (by (with_reducible repeat (first | apply qe_ | apply qf_ | apply qh_)); exact HL312_2.out) gb338 (Nat.le_of_eq hg.symm)) hb)
            have n4_ := Aside0.mk (ql_ (Kd.V_elderB (by (with_reducible repeat (first | apply qe_ | apply qf_ | apply qh_)); exact HL332_2.out) gb338 (Nat.le_of_eq hg.symm)) hb)
            have n5_ := Aside0.mk (blk_below (g := gb309) (o := .cells #[.int .i64 x310000_1, .slice Ao73 x310001_1.length co73] 24 (0, 0)) (by (with_reducible repeat (first | refine qa_ ?_ _ | refine qd_ ?_ | refine qb_ ?_ _)); exact BK309.out) hb)
            have n6_ := Aside0.mk (blk_below (g := gb310) (o := .cells #[.int .i64 0, .slice none 0 0] 24 (0, 0)) (by (with_reducible repeat (first | refine qa_ ?_ _ | refine qd_ ?_ | refine qb_ ?_ _)); exact BK310.out) hb)
            have n7_ := Aside0.mk (Kd.C_below (by repeat (first | (with_reducible exact HR312_2.out) | (with_reducible refine Kd.C_alloc ?_ _) | (with_reducible refine Kd.C_drewN ?_ _) | (with_reducible refine Kd.C_drew ?_) | exact HR312_2.out)) hb)
            have n8_ := Aside0.mk (Kd.C_below (by repeat (first | (with_reducible exact HR332_2.out) | (with_reducible refine Kd.C_alloc ?_ _) | (with_reducible refine Kd.C_drewN ?_ _) | (with_reducible refine Kd.C_drew ?_) | exact HR332_2.out)) hb)
            have n9_ := Aside0.mk (below_step (by repeat (first | (with_reducible first | exact HB.out | apply qj_ | apply qg_ | apply qi_ | refine qc_ ?_ GE309.out | refine qc_ ?_ GE310.out) | exact HB.out)) hb)
            have n10_ := Aside0.mk (hbox)
            have n11_ := Aside0.mk ((by rw [hg]; exact (below_size (by repeat (first | (with_reducible first | exact HB.out | apply qj_ | apply qg_ | apply qi_ | refine qc_ ?_ GE309.out | refine qc_ ?_ GE310.out) | exact HB.out))) : w.heap.size ≤ gb338))
            have n12_ := Aside0.mk ((by rw [hg]; exact (below_size (by repeat (first | (with_reducible first | exact HB.out | apply qj_ | apply qg_ | apply qi_ | refine qc_ ?_ GE309.out | refine qc_ ?_ GE310.out) | exact HB.out))) : w.heap.size ≤ gb338))
            have n13_ := Aside0.mk ((by rw [hg]; exact Nat.ne_of_lt (blk_lt (g := gb309) (o := .cells #[.int .i64 x310000_1, .slice Ao73 x310001_1.length co73] 24 (0, 0)) (by (with_reducible repeat (first | refine qa_ ?_ _ | refine qd_ ?_ | refine qb_ ?_ _)); exact BK309.out)) : gb309 ≠ gb338))
            have n14_ := Aside0.mk ((by rw [hg]; exact Nat.ne_of_gt (blk_lt (g := gb309) (o := .cells #[.int .i64 x310000_1, .slice Ao73 x310001_1.length co73] 24 (0, 0)) (by (with_reducible repeat (first | refine qa_ ?_ _ | refine qd_ ?_ | refine qb_ ?_ _)); exact BK309.out)) : gb338 ≠ gb309))
            have n15_ := Aside0.mk ((by rw [hg]; exact Nat.ne_of_lt (blk_lt (g := gb310) (o := .cells #[.int .i64 0, .slice none 0 0] 24 (0, 0)) (by (with_reducible repeat (first | refine qa_ ?_ _ | refine qd_ ?_ | refine qb_ ?_ _)); exact BK310.out)) : gb310 ≠ gb338))
            have n16_ := Aside0.mk ((by rw [hg]; exact Nat.ne_of_gt (blk_lt (g := gb310) (o := .cells #[.int .i64 0, .slice none 0 0] 24 (0, 0)) (by (with_reducible repeat (first | refine qa_ ?_ _ | refine qd_ ?_ | refine qb_ ?_ _)); exact BK310.out)) : gb338 ≠ gb310))
            clear HO_1; clear HO_7; clear HO_310001; clear HL312_2; clear HL332_2; clear BK309; clear BK310; clear HR312_2; clear HR332_2; clear HB; have HO_1 := n0_; have HO_7 := n1_; have HO_310001 := n2_; have HL312_2 := n3_; have HL332_2 := n4_; have BK309 := n5_; have BK310 := n6_; have HR312_2 := n7_; have HR332_2 := n8_; have HB := n9_; have BK338 := n10_; have GW338 := n11_; have GE338 := n12_; have NB309_338 := n13_; have NB338_309 := n14_; have NB310_338 := n15_; have NB338_310 := n16_; clear n0_ n1_ n2_ n3_ n4_ n5_ n6_ n7_ n8_ n9_ n10_ n11_ n12_ n13_ n14_ n15_ n16_; clear hb hbox hg
            refine hK.out _ _ ⟨(qm_ BK309.out 0).trans rfl, (qm_ BK309.out 1).trans rfl, HS2_, HS3_, HS4_⟩ (fun hHeld => ?_)
            clear hK K
            refine norm_ (a' := ?_) ?_ ?_
            rotate_left
            ·show Act.put _ (some 15) _ = _
             simp only [Act.put, List.setIfInBounds_toArray, List.set_cons_zero, List.set_cons_succ, i64_w, i32_w]
             rfl
            refine one_ (i := 6) (N := some 72) #[true, true, true, true, true, true, true, false, false, false, true, false, false] rfl rfl (one_of HT_.out (by kernel_rfl)) (by decide) (fun K hK => ?_)
            refine goes_ Try.func14 (by kernel_rfl) rfl #[.agg #[.int .i64 x310000_1, .slice Ao73 x310001_1.length co73], .int .i64 ((rd_T38 l1 x9_1).f1)] (by rfl) rfl rfl (by (try simp only [List.map_toArray, List.map_cons, List.map_nil]); first | done | rfl | (simp only [List.length_drop, List.length_take]; rfl)) ?_
            with_reducible refine (selfstabref41_Lose.calls k1 x310000_1 (fun k_ => ((((P0_1_ k_ ∨ P1_ k_) ∨ w.heap.size ≤ k_) ∧ (some k_ ≠ (u7 : Value).ownBlock ∧ (k_ ≠ gb309 ∧ k_ ≠ gb310))) ∧ k_ ≠ gb338)) _ _ x310001_1 ((rd_T38 l1 x9_1).f1) t333 t334 true _ ?side1 A71.out).mono ?_
            (case side1 => exact HO_310001.out)
            rintro e w76 ⟨v335, rfl, ho0, hb⟩
            have HS2_ := (hb.cell (World.block_lt_of_cell? _ _ (hHeld.2.2.1))).trans (hHeld.2.2.1)
            have HS3_ := (hb.cell (World.block_lt_of_cell? _ _ (hHeld.2.2.2.1))).trans (hHeld.2.2.2.1)
            have HS4_ := (hb.cell (World.block_lt_of_cell? _ _ (hHeld.2.2.2.2))).trans (hHeld.2.2.2.2)
            refine ⟨_, rfl, ?_⟩
            have n0_ := Aside0.mk (ql_ (by (with_reducible repeat (first | apply qe_ | apply qf_ | apply qh_)); exact HO_1.out) hb)
            have n1_ := Aside0.mk (Kd.N_below (by (with_reducible repeat (first | apply Kd.N_alloc | apply Kd.N_drewN | apply Kd.N_drew)); exact HO_7.out) hb)
            have n2_ := Aside0.mk (ql_ (by (with_reducible repeat (first | apply qe_ | apply qf_ | apply qh_)); exact HO_310001.out) hb)
            have n3_ := Aside0.mk (ql_ (by (with_reducible repeat (first | apply qe_ | apply qf_ | apply qh_)); exact HL312_2.out) hb)
            have n4_ := Aside0.mk (ql_ (by (with_reducible repeat (first | apply qe_ | apply qf_ | apply qh_)); exact HL332_2.out) hb)
            have n5_ := Aside0.mk (Kd.V_lower (qk_ (ok' := fun k_ => ((P0_1_ k_ ∨ P1_ k_) ∨ w.heap.size ≤ k_) ∧ some k_ ≠ (u7 : Value).ownBlock ∧ k_ ≠ gb309 ∧ k_ ≠ gb310 ∧ k_ ≠ gb338) ho0 (fun k_ hk_ => ⟨Or.elim hk_ (fun hs_ => hs_.1.1) (fun hn_ => (.inr (Nat.le_trans (below_size (by repeat (first | (with_reducible first | exact HB.out | apply qj_ | apply qg_ | apply qi_ | refine qc_ ?_ GE309.out | refine qc_ ?_ GE310.out | refine qc_ ?_ GE338.out) | exact HB.out))) hn_))), Or.elim hk_ (fun hs_ => hs_.1.2.1) (fun hn_ => (Kd.fresh' (Kd.N_lt (by (with_reducible repeat (first | apply Kd.N_alloc | apply Kd.N_drewN | apply Kd.N_drew)); exact HO_7.out)) k_ hn_)), Or.elim hk_ (fun hs_ => hs_.1.2.2.1) (fun hn_ => (Kd.freshB (g := gb309) (o := .cells #[.int .i64 x310000_1, .slice Ao73 x310001_1.length co73] 24 (0, 0)) (by (with_reducible repeat (first | refine qa_ ?_ _ | refine qd_ ?_ | refine qb_ ?_ _)); exact BK309.out) k_ hn_)), Or.elim hk_ (fun hs_ => hs_.1.2.2.2) (fun hn_ => (Kd.freshB (g := gb310) (o := .cells #[.int .i64 0, .slice none 0 0] 24 (0, 0)) (by (with_reducible repeat (first | refine qa_ ?_ _ | refine qd_ ?_ | refine qb_ ?_ _)); exact BK310.out) k_ hn_)), Or.elim hk_ (fun hs_ => hs_.2) (fun hn_ => (Kd.freshB (g := gb338) (o := .cells #[.int .i64 0, .slice none 0 0] 24 (0, 0)) (by (with_reducible repeat (first | refine qa_ ?_ _ | refine qd_ ?_ | refine qb_ ?_ _)); exact BK338.out) k_ hn_))⟩)) (below_size (by repeat (first | (with_reducible first | exact HB.out | apply qj_ | apply qg_ | apply qi_ | refine qc_ ?_ GE309.out | refine qc_ ?_ GE310.out | refine qc_ ?_ GE338.out) | exact HB.out))))
            have n6_ := Aside0.mk (blk_below (g := gb309) (o := .cells #[.int .i64 x310000_1, .slice Ao73 x310001_1.length co73] 24 (0, 0)) (by (with_reducible repeat (first | refine qa_ ?_ _ | refine qd_ ?_ | refine qb_ ?_ _)); exact BK309.out) hb)
            have n7_ := Aside0.mk (blk_below (g := gb310) (o := .cells #[.int .i64 0, .slice none 0 0] 24 (0, 0)) (by (with_reducible repeat (first | refine qa_ ?_ _ | refine qd_ ?_ | refine qb_ ?_ _)); exact BK310.out) hb)
            have n8_ := Aside0.mk (Kd.C_below (by repeat (first | (with_reducible exact HR312_2.out) | (with_reducible refine Kd.C_alloc ?_ _) | (with_reducible refine Kd.C_drewN ?_ _) | (with_reducible refine Kd.C_drew ?_) | exact HR312_2.out)) hb)
            have n9_ := Aside0.mk (Kd.C_below (by repeat (first | (with_reducible exact HR332_2.out) | (with_reducible refine Kd.C_alloc ?_ _) | (with_reducible refine Kd.C_drewN ?_ _) | (with_reducible refine Kd.C_drew ?_) | exact HR332_2.out)) hb)
            have n10_ := Aside0.mk (blk_below (g := gb338) (o := .cells #[.int .i64 0, .slice none 0 0] 24 (0, 0)) (by (with_reducible repeat (first | refine qa_ ?_ _ | refine qd_ ?_ | refine qb_ ?_ _)); exact BK338.out) hb)
            have n11_ := Aside0.mk (below_step (by repeat (first | (with_reducible first | exact HB.out | apply qj_ | apply qg_ | apply qi_ | refine qc_ ?_ GE309.out | refine qc_ ?_ GE310.out | refine qc_ ?_ GE338.out) | exact HB.out)) hb)
            clear HO_1; clear HO_7; clear HO_310001; clear HL312_2; clear HL332_2; clear BK309; clear BK310; clear HR312_2; clear HR332_2; clear BK338; clear HB; have HO_1 := n0_; have HO_7 := n1_; have HO_310001 := n2_; have HL312_2 := n3_; have HL332_2 := n4_; have HO336 := n5_; have BK309 := n6_; have BK310 := n7_; have HR312_2 := n8_; have HR332_2 := n9_; have BK338 := n10_; have HB := n11_; clear n0_ n1_ n2_ n3_ n4_ n5_ n6_ n7_ n8_ n9_ n10_ n11_; (try clear hb); (try clear hb2); (try clear hk); (try clear hi); (try clear ho0)
            refine hK.out _ _ ⟨(qm_ BK309.out 0).trans rfl, (qm_ BK309.out 1).trans rfl, HS2_, HS3_, HS4_⟩ (fun hHeld => ?_)
            clear hK K
            refine norm_ (a' := ?_) ?_ ?_
            rotate_left
            ·show Act.put _ (some 72) _ = _
             simp only [Act.put, List.setIfInBounds_toArray, List.set_cons_zero, List.set_cons_succ, i64_w, i32_w]
             rfl
            refine pure_ (i := 7) (N := some 65) (v := ?_) (a' := ?_) #[true, true, true, true, true, true, true, true, false, false, true, false, false] rfl rfl (any_of HT_.out (by kernel_rfl)) (fun _ _ _ h => h) (Or.inl ⟨by rfl, ?_⟩) ?_ ?_
            rotate_left
            ·intro w'
             go_simp
             with_reducible rfl
            rotate_left
            ·simp only [Act.put, List.setIfInBounds_toArray, List.set_cons_zero, List.set_cons_succ, i64_w, i32_w]
             rfl
            refine pure_ (i := 8) (N := some 73) (v := ?_) (a' := ?_) #[true, true, true, true, true, true, true, true, true, false, true, false, false] rfl rfl (any_of HT_.out (by kernel_rfl)) (fun _ _ _ h => h) (Or.inl ⟨by rfl, ?_⟩) ?_ ?_
            rotate_left
            ·intro w'
             go_simp
             with_reducible rfl
            rotate_left
            ·simp only [Act.put, List.setIfInBounds_toArray, List.set_cons_zero, List.set_cons_succ, i64_w, i32_w]
             rfl
            refine pure_ (i := 9) (N := some 74) (v := ?_) (a' := ?_) #[true, true, true, true, true, true, true, true, true, true, true, false, false] rfl rfl (any_of HT_.out (by kernel_rfl)) (fun _ _ _ h => h) (Or.inl ⟨by rfl, ?_⟩) ?_ ?_
            rotate_left
            ·intro w'
             go_simp
             with_reducible rfl
            rotate_left
            ·simp only [Act.put, List.setIfInBounds_toArray, List.set_cons_zero, List.set_cons_succ, i64_w, i32_w]
             rfl
            exact norm_ (by simp only [putAll, Act.put, List.setIfInBounds_toArray, List.set_cons_zero, List.set_cons_succ]) (hCont (v335, gb338) _ ⟨hHeld, (by (with_reducible repeat (first | apply qe_ | apply qf_ | apply qh_)); exact qk_ HL312_2.out (fun _ hk => ⟨hk.1.1, ⟨hk.1.2.1, ⟨hk.1.2.2.1, ⟨hk.1.2.2.2, hk.2⟩⟩⟩⟩)), (by (with_reducible repeat (first | apply qe_ | apply qf_ | apply qh_)); exact qk_ HL332_2.out (fun _ hk => ⟨hk.1.1, ⟨hk.1.2.1, ⟨hk.1.2.2.1, ⟨hk.1.2.2.2, hk.2⟩⟩⟩⟩)), (by (with_reducible repeat (first | apply qe_ | apply qf_ | apply qh_)); exact HO336.out), (by (with_reducible repeat (first | apply qe_ | apply qf_ | apply qh_)); exact qk_ HO_1.out (fun _ hk => ⟨hk.1.1, ⟨hk.1.2.1, ⟨hk.1.2.2.1, ⟨hk.1.2.2.2, hk.2⟩⟩⟩⟩)), (by (with_reducible repeat (first | apply qe_ | apply qf_ | apply qh_)); exact qk_ HO_310001.out (fun _ hk => ⟨hk.1.1, ⟨hk.1.2.1, ⟨hk.1.2.2.1, ⟨hk.1.2.2.2, hk.2⟩⟩⟩⟩)), (by (with_reducible repeat (first | apply Kd.N_alloc | apply Kd.N_drewN | apply Kd.N_drew)); exact Kd.N_mono HO_7.out (fun _ hk => ⟨hk.1.1, ⟨hk.1.2.1, ⟨hk.1.2.2, hk.2⟩⟩⟩)), (by (with_reducible repeat (first | refine qa_ ?_ _ | refine qd_ ?_ | refine qb_ ?_ _)); exact BK309.out), (by (with_reducible repeat (first | refine qa_ ?_ _ | refine qd_ ?_ | refine qb_ ?_ _)); exact BK310.out), (by (with_reducible repeat (first | refine qa_ ?_ _ | refine qd_ ?_ | refine qb_ ?_ _)); exact BK338.out), GW338.out, GE338.out, NB309_338.out, NB338_309.out, NB310_338.out, NB338_310.out, (by repeat (first | (with_reducible first | exact HB.out | apply qj_ | apply qg_ | apply qi_ | refine qc_ ?_ GE309.out | refine qc_ ?_ GE310.out | refine qc_ ?_ GE338.out) | exact HB.out))⟩)
          rintro ⟨v335, gb338⟩ w77 ⟨hS_, h0_, h1_, h2_, h3_, h4_, h5_, h6_, h7_, h8_, h9_, h10_, h11_, h12_, h13_, h14_, h15_⟩
          have n0_ : Aside0 (Kd.V (Kd.int .i64) 3 w77 w.heap.size (fun k_ => ((P0_1_ k_ ∨ P1_ k_) ∨ w.heap.size ≤ k_) ∧ some k_ ≠ (u7 : Value).ownBlock ∧ k_ ≠ gb309 ∧ k_ ≠ gb310 ∧ k_ ≠ gb338) (.slice A312_2 ((rd_T38 l1 x9_1).f2).length c312_2) ((rd_T38 l1 x9_1).f2)) := ⟨h0_⟩
          have n1_ : Aside0 (Kd.V (Kd.int .i64) 3 w77 w.heap.size (fun k_ => ((P0_1_ k_ ∨ P1_ k_) ∨ w.heap.size ≤ k_) ∧ some k_ ≠ (u7 : Value).ownBlock ∧ k_ ≠ gb309 ∧ k_ ≠ gb310 ∧ k_ ≠ gb338) (.slice A332_2 ((rd_T38 l1 x9_1).f2).length c332_2) ((rd_T38 l1 x9_1).f2)) := ⟨h1_⟩
          have n2_ : Aside0 (Kd.V (Kd.slice 3 (Kd.int .i64)) 25 w77 w.heap.size (fun k_ => ((P0_1_ k_ ∨ P1_ k_) ∨ w.heap.size ≤ k_) ∧ some k_ ≠ (u7 : Value).ownBlock ∧ k_ ≠ gb309 ∧ k_ ≠ gb310 ∧ k_ ≠ gb338) v335 t334) := ⟨h2_⟩
          have n3_ : Aside0 (Kd.V k38 38 w77 w.heap.size (fun k_ => ((P0_1_ k_ ∨ P1_ k_) ∨ w.heap.size ≤ k_) ∧ some k_ ≠ (u7 : Value).ownBlock ∧ k_ ≠ gb309 ∧ k_ ≠ gb310 ∧ k_ ≠ gb338) (.slice (some ad312) l1.length c1) l1) := ⟨h3_⟩
          have n4_ : Aside0 (Kd.V (Kd.slice 3 (Kd.int .i64)) 25 w77 w.heap.size (fun k_ => ((P0_1_ k_ ∨ P1_ k_) ∨ w.heap.size ≤ k_) ∧ some k_ ≠ (u7 : Value).ownBlock ∧ k_ ≠ gb309 ∧ k_ ≠ gb310 ∧ k_ ≠ gb338) (.slice Ao73 x310001_1.length co73) x310001_1) := ⟨h4_⟩
          have n5_ : Aside0 (Kd.N (Kd.slice 3 (Kd.int .i64)) 25 w77 w.heap.size (fun k_ => ((P0_1_ k_ ∨ P1_ k_) ∨ w.heap.size ≤ k_) ∧ k_ ≠ gb309 ∧ k_ ≠ gb310 ∧ k_ ≠ gb338) u7 x7_1) := ⟨h5_⟩
          have n6_ : Aside0 (w77.heap[gb309]? = some (.cells #[.int .i64 x310000_1, .slice Ao73 x310001_1.length co73] 24 (0, 0))) := ⟨h6_⟩
          have n7_ : Aside0 (w77.heap[gb310]? = some (.cells #[.int .i64 0, .slice none 0 0] 24 (0, 0))) := ⟨h7_⟩
          have n8_ : Aside0 (w77.heap[gb338]? = some (.cells #[.int .i64 0, .slice none 0 0] 24 (0, 0))) := ⟨h8_⟩
          have n9_ : Aside0 (w.heap.size ≤ gb338) := ⟨h9_⟩
          have n10_ : Aside0 (w.heap.size ≤ gb338) := ⟨h10_⟩
          have n11_ : Aside0 (gb309 ≠ gb338) := ⟨h11_⟩
          have n12_ : Aside0 (gb338 ≠ gb309) := ⟨h12_⟩
          have n13_ : Aside0 (gb310 ≠ gb338) := ⟨h13_⟩
          have n14_ : Aside0 (gb338 ≠ gb310) := ⟨h14_⟩
          have n15_ : Aside0 (Below w.heap.size w w77) := ⟨h15_⟩
          clear HO_1; clear HO_7; clear HO_310001; clear HL312_2; clear BK309; clear BK310; clear HR312_2; clear HB; clear h0_ h1_ h2_ h3_ h4_ h5_ h6_ h7_ h8_ h9_ h10_ h11_ h12_ h13_ h14_ h15_; have HL312_2 := n0_; have HL332_2 := n1_; have HO336 := n2_; have HO_1 := n3_; have HO_310001 := n4_; have HO_7 := n5_; have BK309 := n6_; have BK310 := n7_; have BK338 := n8_; have GW338 := n9_; have GE338 := n10_; have NB309_338 := n11_; have NB338_309 := n12_; have NB310_338 := n13_; have NB338_310 := n14_; have HB := n15_; clear n0_ n1_ n2_ n3_ n4_ n5_ n6_ n7_ n8_ n9_ n10_ n11_ n12_ n13_ n14_ n15_
          have hHeld : w77.cell? ⟨gb309, 0, none⟩ = some (.int .i64 x310000_1) ∧ w77.cell? ⟨gb309, 1, none⟩ = some (.slice Ao73 x310001_1.length co73) ∧ w77.cell? (ad312.add ((x9_1).toNat * 3)) = some (.int .i64 ((rd_T38 l1 x9_1).f0)) ∧ w77.cell? ⟨(ad312.add ((x9_1).toNat * 3)).block, (ad312.add ((x9_1).toNat * 3)).off + 1, none⟩ = some (.int .i64 ((rd_T38 l1 x9_1).f1)) ∧ w77.cell? ⟨(ad312.add ((x9_1).toNat * 3)).block, (ad312.add ((x9_1).toNat * 3)).off + 2, none⟩ = some (.slice A332_2 ((rd_T38 l1 x9_1).f2).length c332_2) := hS_
          obtain ⟨Ao79, co79, eo79⟩ := Kd.V_slice HO336.out
          (first | subst eo79 | (injection eo79 with f1_ f2_ f3_; have f4_ := f1_.symm; have f5_ := f3_.symm; clear f1_ f2_ f3_; subst f4_; subst f5_))
          refine norm_ (a' := ?_) ?_ ?_
          rotate_left
          ·simp only [putAll, Act.put, List.setIfInBounds_toArray, List.set_cons_zero, List.set_cons_succ]
           rfl
          refine one_ (i := 11) (N := none) #[true, true, true, true, true, true, true, true, true, true, true, true, false] rfl rfl (one_of HT_.out (by kernel_rfl)) (by decide) (fun K hK => ?_)
          have hs78 : w77.cell? ⟨gb338, 0, none⟩ = some (.int .i64 0) := (qm_ BK338.out 0).trans rfl
          have hfs78 := blk_frozen BK338.out 0
          have hns78_0 := NB309_338.out
          have hns78_1 := NB310_338.out
          have hms78_0 := NB338_309.out
          have hms78_1 := NB338_310.out
          have hs80 : w77.cell? ⟨gb338, 1, none⟩ = some (.slice none 0 0) := (qm_ BK338.out 1).trans rfl
          have hfs80 := blk_frozen BK338.out 1
          have hns80_0 := NB309_338.out
          have hns80_1 := NB310_338.out
          have hms80_0 := NB338_309.out
          have hms80_1 := NB338_310.out
          refine skip_ (w1 := ?_) (by rfl) rfl ?_ ?_
          rotate_left
          ·go_simp
           rfl
          refine hK.out _ _ ⟨((cell_far (p := ⟨gb338, _, none⟩) NB309_338.out _).trans (((cell_far (p := ⟨gb338, _, none⟩) NB309_338.out _).trans (hHeld.1)))), ((cell_far (p := ⟨gb338, _, none⟩) NB309_338.out _).trans (((cell_far (p := ⟨gb338, _, none⟩) NB309_338.out _).trans (hHeld.2.1)))), ((cell_far (p := ⟨gb338, _, none⟩) (by have e_ := Kd.own_blk (vA_ HO_1.out c11b0 c10b0 (by decide) (fun _ hk => hk.2.2.2.2)); first | exact e_ | (rw [add_block]; exact e_) | (show (Addr.add _ _).block ≠ _; rw [add_block]; exact e_) | (dsimp only; exact e_)) _).trans (((cell_far (p := ⟨gb338, _, none⟩) (by have e_ := Kd.own_blk (vA_ HO_1.out c11b0 c10b0 (by decide) (fun _ hk => hk.2.2.2.2)); first | exact e_ | (rw [add_block]; exact e_) | (show (Addr.add _ _).block ≠ _; rw [add_block]; exact e_) | (dsimp only; exact e_)) _).trans (hHeld.2.2.1)))), ((cell_far (p := ⟨gb338, _, none⟩) (by have e_ := Kd.own_blk (vA_ HO_1.out c11b0 c10b0 (by decide) (fun _ hk => hk.2.2.2.2)); first | exact e_ | (rw [add_block]; exact e_) | (show (Addr.add _ _).block ≠ _; rw [add_block]; exact e_) | (dsimp only; exact e_)) _).trans (((cell_far (p := ⟨gb338, _, none⟩) (by have e_ := Kd.own_blk (vA_ HO_1.out c11b0 c10b0 (by decide) (fun _ hk => hk.2.2.2.2)); first | exact e_ | (rw [add_block]; exact e_) | (show (Addr.add _ _).block ≠ _; rw [add_block]; exact e_) | (dsimp only; exact e_)) _).trans (hHeld.2.2.2.1)))), ((cell_far (p := ⟨gb338, _, none⟩) (by have e_ := Kd.own_blk (vA_ HO_1.out c11b0 c10b0 (by decide) (fun _ hk => hk.2.2.2.2)); first | exact e_ | (rw [add_block]; exact e_) | (show (Addr.add _ _).block ≠ _; rw [add_block]; exact e_) | (dsimp only; exact e_)) _).trans (((cell_far (p := ⟨gb338, _, none⟩) (by have e_ := Kd.own_blk (vA_ HO_1.out c11b0 c10b0 (by decide) (fun _ hk => hk.2.2.2.2)); first | exact e_ | (rw [add_block]; exact e_) | (show (Addr.add _ _).block ≠ _; rw [add_block]; exact e_) | (dsimp only; exact e_)) _).trans (hHeld.2.2.2.2))))⟩ (fun hHeld => ?_)
          clear hK K
          refine pure_ (i := 12) (N := some 16) (v := ?_) (a' := ?_) #[true, true, true, true, true, true, true, true, true, true, true, true, true] rfl rfl (any_of HT_.out (by kernel_rfl)) (fun _ _ _ h => h) (Or.inl ⟨by rfl, ?_⟩) ?_ ?_
          rotate_left
          ·intro w'
           go_simp
           with_reducible rfl
          rotate_left
          ·simp only [Act.put, List.setIfInBounds_toArray, List.set_cons_zero, List.set_cons_succ, i64_w, i32_w]
           rfl
          refine done_ (done_of HT_.out (by kernel_rfl)) ?_
          have hnb81 := NB338_309.out
          have hnc81 := NB309_338.out
          have hnb82 := NB338_310.out
          have hnc82 := NB310_338.out
          have hcz83_0 : w77.cell? ⟨gb338, 0, none⟩ = some (.int .i64 0) := (qm_ BK338.out 0).trans rfl
          have hcz83_1 : w77.cell? ⟨gb338, 1, none⟩ = some (.slice none 0 0) := (qm_ BK338.out 1).trans rfl
          have hfz83_0 := blk_frozen BK338.out 0
          have hfz83_1 := blk_frozen BK338.out 1
          have hnb84 := NB309_310.out
          have hnc84 := NB310_309.out
          have hcz85_0 : w77.cell? ⟨gb309, 0, none⟩ = some (.int .i64 x310000_1) := (qm_ BK309.out 0).trans rfl
          have hcz85_1 : w77.cell? ⟨gb309, 1, none⟩ = some (.slice Ao73 x310001_1.length co73) := (qm_ BK309.out 1).trans rfl
          have hfz85_0 := blk_frozen BK309.out 0
          have hfz85_1 := blk_frozen BK309.out 1
          try go_wp2
          go_roundg k1
          case measure => have := HK1.out; omega
          case rel => exact ⟨(x7_1), (wrap64 (x8_1 + 1)), (wrap64 (x9_1 + 1)), (t333), (t334), (.slice Ao79 t334.length co79), (by first | rfl | (simp; done) | (simp [*]; done)), (by first | rfl | (simp; done) | (simp [*]; done)), H', ⟨by have := HK1.out; omega⟩, ⟨by (with_reducible repeat (first | apply qe_ | apply qf_ | apply qh_)); exact qk_ (Kd.V_far (p := ⟨gb309, 1, none⟩) (Kd.V_far (p := ⟨gb309, 0, none⟩) (Kd.V_far (p := ⟨gb338, 1, none⟩) (Kd.V_far (p := ⟨gb338, 0, none⟩) (qk_ (qk_ HO_1.out (fun k_ hk => (⟨hk, hk.2.2.2.2⟩ : _ ∧ k_ ≠ gb338))) (fun k_ hk => (⟨hk, hk.1.2.2.1⟩ : _ ∧ k_ ≠ gb309))) (fun _ hk => hk.1.2) (.int .i64 t333)) (fun _ hk => hk.1.2) (.slice Ao79 t334.length co79)) (fun _ hk => hk.2) (.int .i64 t333)) (fun _ hk => hk.2) (.slice Ao79 t334.length co79)) (fun _ hk => ⟨hk.1.1.1, ⟨hk.1.1.2.1, ⟨hk.1.1.2.2.1, hk.1.1.2.2.2.1⟩⟩⟩)⟩, ⟨by (with_reducible repeat (first | apply Kd.N_alloc | apply Kd.N_drewN | apply Kd.N_drew)); exact Kd.N_mono (Kd.N_far (p := ⟨gb309, 1, none⟩) (Kd.N_far (p := ⟨gb309, 0, none⟩) (Kd.N_far (p := ⟨gb338, 1, none⟩) (Kd.N_far (p := ⟨gb338, 0, none⟩) (Kd.N_mono (Kd.N_mono HO_7.out (fun k_ hk => (⟨hk, hk.2.2.2⟩ : _ ∧ k_ ≠ gb338))) (fun k_ hk => (⟨hk, hk.1.2.1⟩ : _ ∧ k_ ≠ gb309))) (fun _ hk => hk.1.2) (.int .i64 t333)) (fun _ hk => hk.1.2) (.slice Ao79 t334.length co79)) (fun _ hk => hk.2) (.int .i64 t333)) (fun _ hk => hk.2) (.slice Ao79 t334.length co79)) (fun _ hk => ⟨hk.1.1.1, ⟨hk.1.1.2.1, hk.1.1.2.2.1⟩⟩)⟩, ⟨by (with_reducible repeat (first | apply qe_ | apply qf_ | apply qh_)); exact qk_ (Kd.V_far (p := ⟨gb309, 1, none⟩) (Kd.V_far (p := ⟨gb309, 0, none⟩) (Kd.V_far (p := ⟨gb338, 1, none⟩) (Kd.V_far (p := ⟨gb338, 0, none⟩) (qk_ (qk_ HO336.out (fun k_ hk => (⟨hk, hk.2.2.2.2⟩ : _ ∧ k_ ≠ gb338))) (fun k_ hk => (⟨hk, hk.1.2.2.1⟩ : _ ∧ k_ ≠ gb309))) (fun _ hk => hk.1.2) (.int .i64 t333)) (fun _ hk => hk.1.2) (.slice Ao79 t334.length co79)) (fun _ hk => hk.2) (.int .i64 t333)) (fun _ hk => hk.2) (.slice Ao79 t334.length co79)) (fun _ hk => ⟨hk.1.1.1, ⟨hk.1.1.2.1, ⟨hk.1.1.2.2.1, hk.1.1.2.2.2.1⟩⟩⟩)⟩, ⟨by (with_reducible repeat (first | refine qa_ ?_ _ | refine qd_ ?_ | refine qb_ ?_ _)); refine blk_put (cs := #[.int .i64 t333, .slice Ao73 x310001_1.length co73]) ?_ 1 _ rfl; (with_reducible repeat (first | refine qa_ ?_ _ | refine qd_ ?_ | refine qb_ ?_ _)); refine blk_put (cs := #[.int .i64 x310000_1, .slice Ao73 x310001_1.length co73]) ?_ 0 _ rfl; (with_reducible repeat (first | refine qa_ ?_ _ | refine qd_ ?_ | refine qb_ ?_ _)); refine blk_far ?_ NB309_338.out _; (with_reducible repeat (first | refine qa_ ?_ _ | refine qd_ ?_ | refine qb_ ?_ _)); refine blk_far ?_ NB309_338.out _; (with_reducible repeat (first | refine qa_ ?_ _ | refine qd_ ?_ | refine qb_ ?_ _)); exact BK309.out⟩, ⟨by (with_reducible repeat (first | refine qa_ ?_ _ | refine qd_ ?_ | refine qb_ ?_ _)); refine blk_far ?_ NB310_309.out _; (with_reducible repeat (first | refine qa_ ?_ _ | refine qd_ ?_ | refine qb_ ?_ _)); refine blk_far ?_ NB310_309.out _; (with_reducible repeat (first | refine qa_ ?_ _ | refine qd_ ?_ | refine qb_ ?_ _)); refine blk_far ?_ NB310_338.out _; (with_reducible repeat (first | refine qa_ ?_ _ | refine qd_ ?_ | refine qb_ ?_ _)); refine blk_far ?_ NB310_338.out _; (with_reducible repeat (first | refine qa_ ?_ _ | refine qd_ ?_ | refine qb_ ?_ _)); exact BK310.out⟩, ⟨by repeat (first | (with_reducible first | exact HB.out | apply qj_ | apply qg_ | apply qi_ | refine qc_ ?_ GE309.out | refine qc_ ?_ GE310.out | refine qc_ ?_ GE338.out) | exact HB.out)⟩⟩
         ·replace c72 := Bool.eq_false_iff.mpr c72
          subst c72
          have H1 : (selfstabref41_Play.l0 k1 l1 x7_1 x8_1 (wrap64 (x9_1 + 1)) t333 t334) = some (r1, r2, r3, r4) := by rw [if_neg (show ¬ (false = true) by decide)] at H; exact H
          clear H
          have H := H1
          clear H1
          have H' := Aside0.mk H
          clear H
          have p312 : 0 ≤ (x9_1 : Int) := of_decide_eq_true (by first | (with_reducible assumption) | assumption)
          have q312 : x9_1 < (l1.length : Int) := of_decide_eq_true (by first | (with_reducible assumption) | assumption)
          (try (obtain ⟨Az312, cz312, ez312⟩ := Kd.V_slice HO_1.out; subst ez312))
          obtain ⟨ad312, A312_2, c312_2, e312, hx312_0, hx312_1, hx312_2, hl312_2, hi312_2⟩ := at_T38 (Kd.V_reads' HO_1.out).2.2 x9_1 p312 q312
          cases e312
          obtain ⟨ce312, hce312, hMe312, hcc312⟩ := Kd.V_get HO_1.out z38 x9_1 p312 (by first | exact q312 | exact of_decide_eq_true (by first | (with_reducible assumption) | assumption) | (have e_ := (Kd.V_reads' HO_1.out).1; omega))
          obtain ⟨ua312_2, uc312_2, rfl, ul312_2, ge312_2⟩ := k38_openF hMe312
          have hv312_2 := hcc312 2 _ rfl
          rw [add_field _ _ 2 (by omega)] at hv312_2
          replace hv312_2 := Option.some.inj (hv312_2.symm.trans hx312_2)
          injection hv312_2 with hva_ hvn_ hvc_
          rw [hva_] at ge312_2
          rw [hvc_] at ul312_2
          have HL312_2 := Aside0.mk (show Kd.V (Kd.int .i64) 3 _ w.heap.size _ _ ((rd_T38 l1 x9_1).f2) from Kd.V_mk ul312_2 ge312_2)
          clear hva_ hvn_ hvc_ ge312_2 ul312_2; clear hcc312 hce312
          have HR312_2 := Aside0.mk hi312_2
          have HC312_2 := Aside0.mk hl312_2
          clear hi312_2 hl312_2
          replace p312 := eq_true p312
          replace q312 := eq_true q312
          obtain ⟨Ao86, co86, eo86⟩ := Kd.V_slice HO_310001.out
          subst eo86
          try go_wp2
          have n0_ := Aside0.mk (qh_ HO_1.out)
          have n1_ := Aside0.mk (Kd.N_drew HO_7.out)
          have n2_ := Aside0.mk (qh_ HO_310001.out)
          have n3_ := Aside0.mk (qh_ HL312_2.out)
          have n4_ := Aside0.mk (qd_ BK309.out)
          have n5_ := Aside0.mk (qd_ BK310.out)
          have n6_ := Aside0.mk (Kd.C_drew HR312_2.out)
          have n7_ := Aside0.mk (qi_ HB.out)
          clear HO_1; clear HO_7; clear HO_310001; clear HL312_2; clear BK309; clear BK310; clear HR312_2; clear HB; have HO_1 := n0_; have HO_7 := n1_; have HO_310001 := n2_; have HL312_2 := n3_; have BK309 := n4_; have BK310 := n5_; have HR312_2 := n6_; have HB := n7_; clear n0_ n1_ n2_ n3_ n4_ n5_ n6_ n7_
          have p332 : 0 ≤ (x9_1 : Int) := of_decide_eq_true (by first | (with_reducible assumption) | assumption)
          have q332 : x9_1 < (l1.length : Int) := of_decide_eq_true (by first | (with_reducible assumption) | assumption)
          (try (obtain ⟨Az332, cz332, ez332⟩ := Kd.V_slice HO_1.out; subst ez332))
          obtain ⟨ad332, A332_2, c332_2, e332, hx332_0, hx332_1, hx332_2, hl332_2, hi332_2⟩ := at_T38 (Kd.V_reads' HO_1.out).2.2 x9_1 p332 q332
          obtain rfl : ad312 = ad332 := (by injection e332)
          obtain ⟨ce332, hce332, hMe332, hcc332⟩ := Kd.V_get HO_1.out z38 x9_1 p332 (by first | exact q332 | exact of_decide_eq_true (by first | (with_reducible assumption) | assumption) | (have e_ := (Kd.V_reads' HO_1.out).1; omega))
          obtain ⟨ua332_2, uc332_2, rfl, ul332_2, ge332_2⟩ := k38_openF hMe332
          have hv332_2 := hcc332 2 _ rfl
          rw [add_field _ _ 2 (by omega)] at hv332_2
          replace hv332_2 := Option.some.inj (hv332_2.symm.trans hx332_2)
          injection hv332_2 with hva_ hvn_ hvc_
          rw [hva_] at ge332_2
          rw [hvc_] at ul332_2
          have HL332_2 := Aside0.mk (show Kd.V (Kd.int .i64) 3 _ w.heap.size _ _ ((rd_T38 l1 x9_1).f2) from Kd.V_mk ul332_2 ge332_2)
          clear hva_ hvn_ hvc_ ge332_2 ul332_2; clear hcc332 hce332
          have HR332_2 := Aside0.mk hi332_2
          have HC332_2 := Aside0.mk hl332_2
          clear hi332_2 hl332_2
          replace p332 := eq_true p332
          replace q332 := eq_true q332
          refine start_ (n := 13) (S := fun w' => w'.cell? ⟨gb309, 0, none⟩ = some (.int .i64 x310000_1) ∧ w'.cell? ⟨gb309, 1, none⟩ = some (.slice Ao86 x310001_1.length co86) ∧ w'.cell? (ad312.add ((x9_1).toNat * 3)) = some (.int .i64 ((rd_T38 l1 x9_1).f0)) ∧ w'.cell? ⟨(ad312.add ((x9_1).toNat * 3)).block, (ad312.add ((x9_1).toNat * 3)).off + 1, none⟩ = some (.int .i64 ((rd_T38 l1 x9_1).f1)) ∧ w'.cell? ⟨(ad312.add ((x9_1).toNat * 3)).block, (ad312.add ((x9_1).toNat * 3)).off + 2, none⟩ = some (.slice A332_2 ((rd_T38 l1 x9_1).f2).length c332_2)) (ds := []) #[false, false, false, false, false, false, false, false, false, false, false, false, false] (by kernel_rfl) rfl rfl ⟨(qm_ BK309.out 0).trans rfl, (qm_ BK309.out 1).trans rfl, hx332_0, hx332_1, hx332_2⟩ (fun hHeld => ?_); refine with_tabW selfstabref41_Play.tab20 selfstabref41_Play.bits20 (fun HT_ HW_ => ?_)
          generalize wr.drew = w87 at HO_1 HO_7 HO_310001 HL312_2 BK309 BK310 HR312_2 HB HL332_2 HR332_2 hx332_0 hx332_1 hx332_2 hHeld ⊢
          refine pure_ (i := 1) (N := some 67) (v := ?_) (a' := ?_) #[false, true, false, false, false, false, false, false, false, false, false, false, false] rfl rfl (any_of HT_.out (by kernel_rfl)) (fun _ _ _ h => h) (Or.inl ⟨by rfl, ?_⟩) ?_ ?_
          rotate_left
          ·intro w'
           go_simp
           with_reducible rfl
          rotate_left
          ·simp only [Act.put, List.setIfInBounds_toArray, List.set_cons_zero, List.set_cons_succ, i64_w, i32_w]
           rfl
          refine pure_ (i := 2) (N := some 68) (v := ?_) (a' := ?_) #[false, true, true, false, false, false, false, false, false, false, false, false, false] rfl rfl (any_of HT_.out (by kernel_rfl)) (fun _ _ _ h => h) (Or.inl ⟨by rfl, ?_⟩) ?_ ?_
          rotate_left
          ·intro w'
           go_simp
           with_reducible rfl
          rotate_left
          ·simp only [Act.put, List.setIfInBounds_toArray, List.set_cons_zero, List.set_cons_succ, i64_w, i32_w]
           rfl
          refine pure_ (i := 3) (N := some 69) (v := ?_) (a' := ?_) #[false, true, true, true, false, false, false, false, false, false, false, false, false] rfl rfl (any_of HT_.out (by kernel_rfl)) (fun _ _ _ h => h) (Or.inl ⟨by rfl, ?_⟩) ?_ ?_
          rotate_left
          ·intro w'
           go_simp
           with_reducible rfl
          rotate_left
          ·simp only [Act.put, List.setIfInBounds_toArray, List.set_cons_zero, List.set_cons_succ, i64_w, i32_w]
           rfl
          refine pure_ (i := 4) (N := some 70) (v := ?_) (a' := ?_) #[false, true, true, true, true, false, false, false, false, false, false, false, false] rfl rfl (any_of HT_.out (by kernel_rfl)) (fun _ _ _ h => h) (Or.inl ⟨by rfl, ?_⟩) ?_ ?_
          rotate_left
          ·intro w'
           go_simp
           with_reducible rfl
          rotate_left
          ·simp only [Act.put, List.setIfInBounds_toArray, List.set_cons_zero, List.set_cons_succ, i64_w, i32_w]
           rfl
          refine take_ (i := 0) (N := some 66) (v := ?_) (a' := ?_) #[true, true, true, true, true, false, false, false, false, false, false, false, false] rfl rfl (take_ofW HT_.out HW_.out (by kernel_rfl)) (fun _ _ _ h => h) (Or.inl ⟨by rfl, ?_⟩) hHeld ?_ ?_
          rotate_left
          ·rintro w' ⟨s0, s1, s2, s3, s4⟩
           go_simp
           with_reducible rfl
          rotate_left
          ·simp only [Act.put, List.setIfInBounds_toArray, List.set_cons_zero, List.set_cons_succ, i64_w, i32_w]
           rfl
          refine take_ (i := 5) (N := some 71) (v := ?_) (a' := ?_) #[true, true, true, true, true, true, false, false, false, false, false, false, false] rfl rfl (take_ofW HT_.out HW_.out (by kernel_rfl)) (fun _ _ _ h => h) (Or.inl ⟨by rfl, ?_⟩) hHeld ?_ ?_
          rotate_left
          ·rintro w' ⟨s0, s1, s2, s3, s4⟩
           go_simp
           with_reducible rfl
          rotate_left
          ·simp only [Act.put, List.setIfInBounds_toArray, List.set_cons_zero, List.set_cons_succ, i64_w, i32_w]
           rfl
          refine join_ (σ := Value × Nat) 2 #[true, true, true, true, true, true, true, true, true, true, true, false, false] (fun s_ => [(72, .tuple #[.agg #[.int .i64 t333, s_.1], .bool false]), (15, .pointer (some ⟨s_.2, 0, none⟩)), (65, .tuple #[.agg #[.int .i64 t333, s_.1], .bool false]), (73, .agg #[.int .i64 t333, s_.1]), (74, .bool false)]) (fun s_ w' => (w'.cell? ⟨gb309, 0, none⟩ = some (.int .i64 x310000_1) ∧ w'.cell? ⟨gb309, 1, none⟩ = some (.slice Ao86 x310001_1.length co86) ∧ w'.cell? (ad312.add ((x9_1).toNat * 3)) = some (.int .i64 ((rd_T38 l1 x9_1).f0)) ∧ w'.cell? ⟨(ad312.add ((x9_1).toNat * 3)).block, (ad312.add ((x9_1).toNat * 3)).off + 1, none⟩ = some (.int .i64 ((rd_T38 l1 x9_1).f1)) ∧ w'.cell? ⟨(ad312.add ((x9_1).toNat * 3)).block, (ad312.add ((x9_1).toNat * 3)).off + 2, none⟩ = some (.slice A332_2 ((rd_T38 l1 x9_1).f2).length c332_2)) ∧ (Kd.V (Kd.int .i64) 3 w' w.heap.size (fun k_ => ((P0_1_ k_ ∨ P1_ k_) ∨ w.heap.size ≤ k_) ∧ some k_ ≠ (u7 : Value).ownBlock ∧ k_ ≠ gb309 ∧ k_ ≠ gb310 ∧ k_ ≠ s_.2) (.slice A312_2 ((rd_T38 l1 x9_1).f2).length c312_2) ((rd_T38 l1 x9_1).f2)) ∧ (Kd.V (Kd.int .i64) 3 w' w.heap.size (fun k_ => ((P0_1_ k_ ∨ P1_ k_) ∨ w.heap.size ≤ k_) ∧ some k_ ≠ (u7 : Value).ownBlock ∧ k_ ≠ gb309 ∧ k_ ≠ gb310 ∧ k_ ≠ s_.2) (.slice A332_2 ((rd_T38 l1 x9_1).f2).length c332_2) ((rd_T38 l1 x9_1).f2)) ∧ (Kd.V (Kd.slice 3 (Kd.int .i64)) 25 w' w.heap.size (fun k_ => ((P0_1_ k_ ∨ P1_ k_) ∨ w.heap.size ≤ k_) ∧ some k_ ≠ (u7 : Value).ownBlock ∧ k_ ≠ gb309 ∧ k_ ≠ gb310 ∧ k_ ≠ s_.2) s_.1 t334) ∧ (Kd.V k38 38 w' w.heap.size (fun k_ => ((P0_1_ k_ ∨ P1_ k_) ∨ w.heap.size ≤ k_) ∧ some k_ ≠ (u7 : Value).ownBlock ∧ k_ ≠ gb309 ∧ k_ ≠ gb310 ∧ k_ ≠ s_.2) (.slice (some ad312) l1.length c1) l1) ∧ (Kd.V (Kd.slice 3 (Kd.int .i64)) 25 w' w.heap.size (fun k_ => ((P0_1_ k_ ∨ P1_ k_) ∨ w.heap.size ≤ k_) ∧ some k_ ≠ (u7 : Value).ownBlock ∧ k_ ≠ gb309 ∧ k_ ≠ gb310 ∧ k_ ≠ s_.2) (.slice Ao86 x310001_1.length co86) x310001_1) ∧ (Kd.N (Kd.slice 3 (Kd.int .i64)) 25 w' w.heap.size (fun k_ => ((P0_1_ k_ ∨ P1_ k_) ∨ w.heap.size ≤ k_) ∧ k_ ≠ gb309 ∧ k_ ≠ gb310 ∧ k_ ≠ s_.2) u7 x7_1) ∧ (w'.heap[gb309]? = some (.cells #[.int .i64 x310000_1, .slice Ao86 x310001_1.length co86] 24 (0, 0))) ∧ (w'.heap[gb310]? = some (.cells #[.int .i64 0, .slice none 0 0] 24 (0, 0))) ∧ (w'.heap[s_.2]? = some (.cells #[.int .i64 0, .slice none 0 0] 24 (0, 0))) ∧ (w.heap.size ≤ s_.2) ∧ (w.heap.size ≤ s_.2) ∧ (gb309 ≠ s_.2) ∧ (s_.2 ≠ gb309) ∧ (gb310 ≠ s_.2) ∧ (s_.2 ≠ gb310) ∧ (Below w.heap.size w w')) ?_ ?_
          rotate_left
          ·intro hCont
           refine two_ (i := 6) (j := 10) (Ni := some 72) (Nj := some 15) #[true, true, true, true, true, true, true, false, false, false, false, false, false] #[true, true, true, true, true, true, false, false, false, false, true, false, false] rfl rfl rfl rfl (two_of HT_.out (by kernel_rfl)) (by decide) (by decide) (fun K hK => ?_) (fun K hK => ?_)
           ·skip
            refine goes_ Try.func14 (by kernel_rfl) rfl #[.agg #[.int .i64 x310000_1, .slice Ao86 x310001_1.length co86], .int .i64 ((rd_T38 l1 x9_1).f1)] (by rfl) rfl rfl (by (try simp only [List.map_toArray, List.map_cons, List.map_nil]); first | done | rfl | (simp only [List.length_drop, List.length_take]; rfl)) ?_
            with_reducible refine (selfstabref41_Lose.calls k1 x310000_1 (fun k_ => (((P0_1_ k_ ∨ P1_ k_) ∨ w.heap.size ≤ k_) ∧ (some k_ ≠ (u7 : Value).ownBlock ∧ (k_ ≠ gb309 ∧ k_ ≠ gb310)))) _ _ x310001_1 ((rd_T38 l1 x9_1).f1) t333 t334 false _ ?side1 A71.out).mono ?_
            (case side1 => exact HO_310001.out)
            rintro e w88 ⟨v335, rfl, ho0, hb⟩
            have HS2_ := (hb.cell (World.block_lt_of_cell? _ _ (hHeld.2.2.1))).trans (hHeld.2.2.1)
            have HS3_ := (hb.cell (World.block_lt_of_cell? _ _ (hHeld.2.2.2.1))).trans (hHeld.2.2.2.1)
            have HS4_ := (hb.cell (World.block_lt_of_cell? _ _ (hHeld.2.2.2.2))).trans (hHeld.2.2.2.2)
            refine ⟨_, rfl, ?_⟩
            have n0_ := Aside0.mk (ql_ (by (with_reducible repeat (first | apply qe_ | apply qf_ | apply qh_)); exact HO_1.out) hb)
            have n1_ := Aside0.mk (Kd.N_below (by (with_reducible repeat (first | apply Kd.N_alloc | apply Kd.N_drewN | apply Kd.N_drew)); exact HO_7.out) hb)
            have n2_ := Aside0.mk (ql_ (by (with_reducible repeat (first | apply qe_ | apply qf_ | apply qh_)); exact HO_310001.out) hb)
            have n3_ := Aside0.mk (ql_ (by (with_reducible repeat (first | apply qe_ | apply qf_ | apply qh_)); exact HL312_2.out) hb)
            have n4_ := Aside0.mk (ql_ (by (with_reducible repeat (first | apply qe_ | apply qf_ | apply qh_)); exact HL332_2.out) hb)
            have n5_ := Aside0.mk (Kd.V_lower (qk_ (ok' := fun k_ => ((P0_1_ k_ ∨ P1_ k_) ∨ w.heap.size ≤ k_) ∧ some k_ ≠ (u7 : Value).ownBlock ∧ k_ ≠ gb309 ∧ k_ ≠ gb310) ho0 (fun k_ hk_ => ⟨Or.elim hk_ (fun hs_ => hs_.1) (fun hn_ => (.inr (Nat.le_trans (below_size (by repeat (first | (with_reducible first | exact HB.out | apply qj_ | apply qg_ | apply qi_ | refine qc_ ?_ GE309.out | refine qc_ ?_ GE310.out) | exact HB.out))) hn_))), Or.elim hk_ (fun hs_ => hs_.2.1) (fun hn_ => (Kd.fresh' (Kd.N_lt (by (with_reducible repeat (first | apply Kd.N_alloc | apply Kd.N_drewN | apply Kd.N_drew)); exact HO_7.out)) k_ hn_)), Or.elim hk_ (fun hs_ => hs_.2.2.1) (fun hn_ => (Kd.freshB (g := gb309) (o := .cells #[.int .i64 x310000_1, .slice Ao86 x310001_1.length co86] 24 (0, 0)) (by (with_reducible repeat (first | refine qa_ ?_ _ | refine qd_ ?_ | refine qb_ ?_ _)); exact BK309.out) k_ hn_)), Or.elim hk_ (fun hs_ => hs_.2.2.2) (fun hn_ => (Kd.freshB (g := gb310) (o := .cells #[.int .i64 0, .slice none 0 0] 24 (0, 0)) (by (with_reducible repeat (first | refine qa_ ?_ _ | refine qd_ ?_ | refine qb_ ?_ _)); exact BK310.out) k_ hn_))⟩)) (below_size (by repeat (first | (with_reducible first | exact HB.out | apply qj_ | apply qg_ | apply qi_ | refine qc_ ?_ GE309.out | refine qc_ ?_ GE310.out) | exact HB.out))))
            have n6_ := Aside0.mk (blk_below (g := gb309) (o := .cells #[.int .i64 x310000_1, .slice Ao86 x310001_1.length co86] 24 (0, 0)) (by (with_reducible repeat (first | refine qa_ ?_ _ | refine qd_ ?_ | refine qb_ ?_ _)); exact BK309.out) hb)
            have n7_ := Aside0.mk (blk_below (g := gb310) (o := .cells #[.int .i64 0, .slice none 0 0] 24 (0, 0)) (by (with_reducible repeat (first | refine qa_ ?_ _ | refine qd_ ?_ | refine qb_ ?_ _)); exact BK310.out) hb)
            have n8_ := Aside0.mk (Kd.C_below (by repeat (first | (with_reducible exact HR312_2.out) | (with_reducible refine Kd.C_alloc ?_ _) | (with_reducible refine Kd.C_drewN ?_ _) | (with_reducible refine Kd.C_drew ?_) | exact HR312_2.out)) hb)
            have n9_ := Aside0.mk (Kd.C_below (by repeat (first | (with_reducible exact HR332_2.out) | (with_reducible refine Kd.C_alloc ?_ _) | (with_reducible refine Kd.C_drewN ?_ _) | (with_reducible refine Kd.C_drew ?_) | exact HR332_2.out)) hb)
            have n10_ := Aside0.mk (below_step (by repeat (first | (with_reducible first | exact HB.out | apply qj_ | apply qg_ | apply qi_ | refine qc_ ?_ GE309.out | refine qc_ ?_ GE310.out) | exact HB.out)) hb)
            clear HO_1; clear HO_7; clear HO_310001; clear HL312_2; clear HL332_2; clear BK309; clear BK310; clear HR312_2; clear HR332_2; clear HB; have HO_1 := n0_; have HO_7 := n1_; have HO_310001 := n2_; have HL312_2 := n3_; have HL332_2 := n4_; have HO336 := n5_; have BK309 := n6_; have BK310 := n7_; have HR312_2 := n8_; have HR332_2 := n9_; have HB := n10_; clear n0_ n1_ n2_ n3_ n4_ n5_ n6_ n7_ n8_ n9_ n10_; (try clear hb); (try clear hb2); (try clear hk); (try clear hi); (try clear ho0)
            refine hK.out _ _ ⟨(qm_ BK309.out 0).trans rfl, (qm_ BK309.out 1).trans rfl, HS2_, HS3_, HS4_⟩ (fun hHeld => ?_)
            clear hK K
            refine norm_ (a' := ?_) ?_ ?_
            rotate_left
            ·show Act.put _ (some 72) _ = _
             simp only [Act.put, List.setIfInBounds_toArray, List.set_cons_zero, List.set_cons_succ, i64_w, i32_w]
             rfl
            refine pure_ (i := 7) (N := some 65) (v := ?_) (a' := ?_) #[true, true, true, true, true, true, true, true, false, false, false, false, false] rfl rfl (any_of HT_.out (by kernel_rfl)) (fun _ _ _ h => h) (Or.inl ⟨by rfl, ?_⟩) ?_ ?_
            rotate_left
            ·intro w'
             go_simp
             with_reducible rfl
            rotate_left
            ·simp only [Act.put, List.setIfInBounds_toArray, List.set_cons_zero, List.set_cons_succ, i64_w, i32_w]
             rfl
            refine pure_ (i := 8) (N := some 73) (v := ?_) (a' := ?_) #[true, true, true, true, true, true, true, true, true, false, false, false, false] rfl rfl (any_of HT_.out (by kernel_rfl)) (fun _ _ _ h => h) (Or.inl ⟨by rfl, ?_⟩) ?_ ?_
            rotate_left
            ·intro w'
             go_simp
             with_reducible rfl
            rotate_left
            ·simp only [Act.put, List.setIfInBounds_toArray, List.set_cons_zero, List.set_cons_succ, i64_w, i32_w]
             rfl
            refine pure_ (i := 9) (N := some 74) (v := ?_) (a' := ?_) #[true, true, true, true, true, true, true, true, true, true, false, false, false] rfl rfl (any_of HT_.out (by kernel_rfl)) (fun _ _ _ h => h) (Or.inl ⟨by rfl, ?_⟩) ?_ ?_
            rotate_left
            ·intro w'
             go_simp
             with_reducible rfl
            rotate_left
            ·simp only [Act.put, List.setIfInBounds_toArray, List.set_cons_zero, List.set_cons_succ, i64_w, i32_w]
             rfl
            refine one_ (i := 10) (N := some 15) #[true, true, true, true, true, true, true, true, true, true, true, false, false] rfl rfl (one_of HT_.out (by kernel_rfl)) (by decide) (fun K hK => ?_)
            refine box_step ?hg (N := 15) ?hd (cs := #[.int .i64 0, .slice none 0 0]) (t := 24) ?hr ?_; (case hd => rfl); (case hg => rfl); (case hr => first | (go_simp; done) | (go_simp; rfl))
            intro gb338 hg w89 hbox hb
            have HS2_ := (hb.cell (World.block_lt_of_cell? _ _ (hHeld.2.2.1))).trans (hHeld.2.2.1)
            have HS3_ := (hb.cell (World.block_lt_of_cell? _ _ (hHeld.2.2.2.1))).trans (hHeld.2.2.2.1)
            have HS4_ := (hb.cell (World.block_lt_of_cell? _ _ (hHeld.2.2.2.2))).trans (hHeld.2.2.2.2)
            have n0_ := Aside0.mk (ql_ (Kd.V_elderB (by (with_reducible repeat (first | apply qe_ | apply qf_ | apply qh_)); exact HO_1.out) gb338 (Nat.le_of_eq hg.symm)) hb)
            have n1_ := Aside0.mk (Kd.N_below (Kd.N_elderB (by (with_reducible repeat (first | apply Kd.N_alloc | apply Kd.N_drewN | apply Kd.N_drew)); exact HO_7.out) gb338 (Nat.le_of_eq hg.symm)) hb)
            have n2_ := Aside0.mk (ql_ (Kd.V_elderB (by (with_reducible repeat (first | apply qe_ | apply qf_ | apply qh_)); exact HO_310001.out) gb338 (Nat.le_of_eq hg.symm)) hb)
            have n3_ := Aside0.mk (ql_ (Kd.V_elderB (by (with_reducible repeat (first | apply qe_ | apply qf_ | apply qh_)); exact HL312_2.out) gb338 (Nat.le_of_eq hg.symm)) hb)
            have n4_ := Aside0.mk (ql_ (Kd.V_elderB (by (with_reducible repeat (first | apply qe_ | apply qf_ | apply qh_)); exact HL332_2.out) gb338 (Nat.le_of_eq hg.symm)) hb)
            have n5_ := Aside0.mk (ql_ (Kd.V_elderB (by (with_reducible repeat (first | apply qe_ | apply qf_ | apply qh_)); exact HO336.out) gb338 (Nat.le_of_eq hg.symm)) hb)
            have n6_ := Aside0.mk (blk_below (g := gb309) (o := .cells #[.int .i64 x310000_1, .slice Ao86 x310001_1.length co86] 24 (0, 0)) (by (with_reducible repeat (first | refine qa_ ?_ _ | refine qd_ ?_ | refine qb_ ?_ _)); exact BK309.out) hb)
            have n7_ := Aside0.mk (blk_below (g := gb310) (o := .cells #[.int .i64 0, .slice none 0 0] 24 (0, 0)) (by (with_reducible repeat (first | refine qa_ ?_ _ | refine qd_ ?_ | refine qb_ ?_ _)); exact BK310.out) hb)
            have n8_ := Aside0.mk (Kd.C_below (by repeat (first | (with_reducible exact HR312_2.out) | (with_reducible refine Kd.C_alloc ?_ _) | (with_reducible refine Kd.C_drewN ?_ _) | (with_reducible refine Kd.C_drew ?_) | exact HR312_2.out)) hb)
            have n9_ := Aside0.mk (Kd.C_below (by repeat (first | (with_reducible exact HR332_2.out) | (with_reducible refine Kd.C_alloc ?_ _) | (with_reducible refine Kd.C_drewN ?_ _) | (with_reducible refine Kd.C_drew ?_) | exact HR332_2.out)) hb)
            have n10_ := Aside0.mk (below_step (by repeat (first | (with_reducible first | exact HB.out | apply qj_ | apply qg_ | apply qi_ | refine qc_ ?_ GE309.out | refine qc_ ?_ GE310.out) | exact HB.out)) hb)
            have n11_ := Aside0.mk (hbox)
            have n12_ := Aside0.mk ((by rw [hg]; exact (below_size (by repeat (first | (with_reducible first | exact HB.out | apply qj_ | apply qg_ | apply qi_ | refine qc_ ?_ GE309.out | refine qc_ ?_ GE310.out) | exact HB.out))) : w.heap.size ≤ gb338))
            have n13_ := Aside0.mk ((by rw [hg]; exact (below_size (by repeat (first | (with_reducible first | exact HB.out | apply qj_ | apply qg_ | apply qi_ | refine qc_ ?_ GE309.out | refine qc_ ?_ GE310.out) | exact HB.out))) : w.heap.size ≤ gb338))
            have n14_ := Aside0.mk ((by rw [hg]; exact Nat.ne_of_lt (blk_lt (g := gb309) (o := .cells #[.int .i64 x310000_1, .slice Ao86 x310001_1.length co86] 24 (0, 0)) (by (with_reducible repeat (first | refine qa_ ?_ _ | refine qd_ ?_ | refine qb_ ?_ _)); exact BK309.out)) : gb309 ≠ gb338))
            have n15_ := Aside0.mk ((by rw [hg]; exact Nat.ne_of_gt (blk_lt (g := gb309) (o := .cells #[.int .i64 x310000_1, .slice Ao86 x310001_1.length co86] 24 (0, 0)) (by (with_reducible repeat (first | refine qa_ ?_ _ | refine qd_ ?_ | refine qb_ ?_ _)); exact BK309.out)) : gb338 ≠ gb309))
            have n16_ := Aside0.mk ((by rw [hg]; exact Nat.ne_of_lt (blk_lt (g := gb310) (o := .cells #[.int .i64 0, .slice none 0 0] 24 (0, 0)) (by (with_reducible repeat (first | refine qa_ ?_ _ | refine qd_ ?_ | refine qb_ ?_ _)); exact BK310.out)) : gb310 ≠ gb338))
            have n17_ := Aside0.mk ((by rw [hg]; exact Nat.ne_of_gt (blk_lt (g := gb310) (o := .cells #[.int .i64 0, .slice none 0 0] 24 (0, 0)) (by (with_reducible repeat (first | refine qa_ ?_ _ | refine qd_ ?_ | refine qb_ ?_ _)); exact BK310.out)) : gb338 ≠ gb310))
            clear HO_1; clear HO_7; clear HO_310001; clear HL312_2; clear HL332_2; clear HO336; clear BK309; clear BK310; clear HR312_2; clear HR332_2; clear HB; have HO_1 := n0_; have HO_7 := n1_; have HO_310001 := n2_; have HL312_2 := n3_; have HL332_2 := n4_; have HO336 := n5_; have BK309 := n6_; have BK310 := n7_; have HR312_2 := n8_; have HR332_2 := n9_; have HB := n10_; have BK338 := n11_; have GW338 := n12_; have GE338 := n13_; have NB309_338 := n14_; have NB338_309 := n15_; have NB310_338 := n16_; have NB338_310 := n17_; clear n0_ n1_ n2_ n3_ n4_ n5_ n6_ n7_ n8_ n9_ n10_ n11_ n12_ n13_ n14_ n15_ n16_ n17_; clear hb hbox hg
            refine hK.out _ _ ⟨(qm_ BK309.out 0).trans rfl, (qm_ BK309.out 1).trans rfl, HS2_, HS3_, HS4_⟩ (fun hHeld => ?_)
            clear hK K
            refine norm_ (a' := ?_) ?_ ?_
            rotate_left
            ·show Act.put _ (some 15) _ = _
             simp only [Act.put, List.setIfInBounds_toArray, List.set_cons_zero, List.set_cons_succ, i64_w, i32_w]
             rfl
            exact norm_ (by simp only [putAll, Act.put, List.setIfInBounds_toArray, List.set_cons_zero, List.set_cons_succ]) (hCont (v335, gb338) _ ⟨hHeld, (by (with_reducible repeat (first | apply qe_ | apply qf_ | apply qh_)); exact qk_ HL312_2.out (fun _ hk => ⟨hk.1.1, ⟨hk.1.2.1, ⟨hk.1.2.2.1, ⟨hk.1.2.2.2, hk.2⟩⟩⟩⟩)), (by (with_reducible repeat (first | apply qe_ | apply qf_ | apply qh_)); exact qk_ HL332_2.out (fun _ hk => ⟨hk.1.1, ⟨hk.1.2.1, ⟨hk.1.2.2.1, ⟨hk.1.2.2.2, hk.2⟩⟩⟩⟩)), (by (with_reducible repeat (first | apply qe_ | apply qf_ | apply qh_)); exact qk_ HO336.out (fun _ hk => ⟨hk.1.1, ⟨hk.1.2.1, ⟨hk.1.2.2.1, ⟨hk.1.2.2.2, hk.2⟩⟩⟩⟩)), (by (with_reducible repeat (first | apply qe_ | apply qf_ | apply qh_)); exact qk_ HO_1.out (fun _ hk => ⟨hk.1.1, ⟨hk.1.2.1, ⟨hk.1.2.2.1, ⟨hk.1.2.2.2, hk.2⟩⟩⟩⟩)), (by (with_reducible repeat (first | apply qe_ | apply qf_ | apply qh_)); exact qk_ HO_310001.out (fun _ hk => ⟨hk.1.1, ⟨hk.1.2.1, ⟨hk.1.2.2.1, ⟨hk.1.2.2.2, hk.2⟩⟩⟩⟩)), (by (with_reducible repeat (first | apply Kd.N_alloc | apply Kd.N_drewN | apply Kd.N_drew)); exact Kd.N_mono HO_7.out (fun _ hk => ⟨hk.1.1, ⟨hk.1.2.1, ⟨hk.1.2.2, hk.2⟩⟩⟩)), (by (with_reducible repeat (first | refine qa_ ?_ _ | refine qd_ ?_ | refine qb_ ?_ _)); exact BK309.out), (by (with_reducible repeat (first | refine qa_ ?_ _ | refine qd_ ?_ | refine qb_ ?_ _)); exact BK310.out), (by (with_reducible repeat (first | refine qa_ ?_ _ | refine qd_ ?_ | refine qb_ ?_ _)); exact BK338.out), GW338.out, GE338.out, NB309_338.out, NB338_309.out, NB310_338.out, NB338_310.out, (by repeat (first | (with_reducible first | exact HB.out | apply qj_ | apply qg_ | apply qi_ | refine qc_ ?_ GE309.out | refine qc_ ?_ GE310.out | refine qc_ ?_ GE338.out) | exact HB.out))⟩)
           ·skip
            refine box_step ?hg (N := 15) ?hd (cs := #[.int .i64 0, .slice none 0 0]) (t := 24) ?hr ?_; (case hd => rfl); (case hg => rfl); (case hr => first | (go_simp; done) | (go_simp; rfl))
            intro gb338 hg w88 hbox hb
            have HS2_ := (hb.cell (World.block_lt_of_cell? _ _ (hHeld.2.2.1))).trans (hHeld.2.2.1)
            have HS3_ := (hb.cell (World.block_lt_of_cell? _ _ (hHeld.2.2.2.1))).trans (hHeld.2.2.2.1)
            have HS4_ := (hb.cell (World.block_lt_of_cell? _ _ (hHeld.2.2.2.2))).trans (hHeld.2.2.2.2)
            have n0_ := Aside0.mk (ql_ (Kd.V_elderB (by (with_reducible repeat (first | apply qe_ | apply qf_ | apply qh_)); exact HO_1.out) gb338 (Nat.le_of_eq hg.symm)) hb)
            have n1_ := Aside0.mk (Kd.N_below (Kd.N_elderB (by (with_reducible repeat (first | apply Kd.N_alloc | apply Kd.N_drewN | apply Kd.N_drew)); exact HO_7.out) gb338 (Nat.le_of_eq hg.symm)) hb)
            have n2_ := Aside0.mk (ql_ (Kd.V_elderB (by (with_reducible repeat (first | apply qe_ | apply qf_ | apply qh_)); exact HO_310001.out) gb338 (Nat.le_of_eq hg.symm)) hb)
            have n3_ := Aside0.mk (ql_ (Kd.V_elderB (by (with_reducible repeat (first | apply qe_ | apply qf_ | apply qh_)); exact HL312_2.out) gb338 (Nat.le_of_eq hg.symm)) hb)
            have n4_ := Aside0.mk (ql_ (Kd.V_elderB (by (with_reducible repeat (first | apply qe_ | apply qf_ | apply qh_)); exact HL332_2.out) gb338 (Nat.le_of_eq hg.symm)) hb)
            have n5_ := Aside0.mk (blk_below (g := gb309) (o := .cells #[.int .i64 x310000_1, .slice Ao86 x310001_1.length co86] 24 (0, 0)) (by (with_reducible repeat (first | refine qa_ ?_ _ | refine qd_ ?_ | refine qb_ ?_ _)); exact BK309.out) hb)
            have n6_ := Aside0.mk (blk_below (g := gb310) (o := .cells #[.int .i64 0, .slice none 0 0] 24 (0, 0)) (by (with_reducible repeat (first | refine qa_ ?_ _ | refine qd_ ?_ | refine qb_ ?_ _)); exact BK310.out) hb)
            have n7_ := Aside0.mk (Kd.C_below (by repeat (first | (with_reducible exact HR312_2.out) | (with_reducible refine Kd.C_alloc ?_ _) | (with_reducible refine Kd.C_drewN ?_ _) | (with_reducible refine Kd.C_drew ?_) | exact HR312_2.out)) hb)
            have n8_ := Aside0.mk (Kd.C_below (by repeat (first | (with_reducible exact HR332_2.out) | (with_reducible refine Kd.C_alloc ?_ _) | (with_reducible refine Kd.C_drewN ?_ _) | (with_reducible refine Kd.C_drew ?_) | exact HR332_2.out)) hb)
            have n9_ := Aside0.mk (below_step (by repeat (first | (with_reducible first | exact HB.out | apply qj_ | apply qg_ | apply qi_ | refine qc_ ?_ GE309.out | refine qc_ ?_ GE310.out) | exact HB.out)) hb)
            have n10_ := Aside0.mk (hbox)
            have n11_ := Aside0.mk ((by rw [hg]; exact (below_size (by repeat (first | (with_reducible first | exact HB.out | apply qj_ | apply qg_ | apply qi_ | refine qc_ ?_ GE309.out | refine qc_ ?_ GE310.out) | exact HB.out))) : w.heap.size ≤ gb338))
            have n12_ := Aside0.mk ((by rw [hg]; exact (below_size (by repeat (first | (with_reducible first | exact HB.out | apply qj_ | apply qg_ | apply qi_ | refine qc_ ?_ GE309.out | refine qc_ ?_ GE310.out) | exact HB.out))) : w.heap.size ≤ gb338))
            have n13_ := Aside0.mk ((by rw [hg]; exact Nat.ne_of_lt (blk_lt (g := gb309) (o := .cells #[.int .i64 x310000_1, .slice Ao86 x310001_1.length co86] 24 (0, 0)) (by (with_reducible repeat (first | refine qa_ ?_ _ | refine qd_ ?_ | refine qb_ ?_ _)); exact BK309.out)) : gb309 ≠ gb338))
            have n14_ := Aside0.mk ((by rw [hg]; exact Nat.ne_of_gt (blk_lt (g := gb309) (o := .cells #[.int .i64 x310000_1, .slice Ao86 x310001_1.length co86] 24 (0, 0)) (by (with_reducible repeat (first | refine qa_ ?_ _ | refine qd_ ?_ | refine qb_ ?_ _)); exact BK309.out)) : gb338 ≠ gb309))
            have n15_ := Aside0.mk ((by rw [hg]; exact Nat.ne_of_lt (blk_lt (g := gb310) (o := .cells #[.int .i64 0, .slice none 0 0] 24 (0, 0)) (by (with_reducible repeat (first | refine qa_ ?_ _ | refine qd_ ?_ | refine qb_ ?_ _)); exact BK310.out)) : gb310 ≠ gb338))
            have n16_ := Aside0.mk ((by rw [hg]; exact Nat.ne_of_gt (blk_lt (g := gb310) (o := .cells #[.int .i64 0, .slice none 0 0] 24 (0, 0)) (by (with_reducible repeat (first | refine qa_ ?_ _ | refine qd_ ?_ | refine qb_ ?_ _)); exact BK310.out)) : gb338 ≠ gb310))
            clear HO_1; clear HO_7; clear HO_310001; clear HL312_2; clear HL332_2; clear BK309; clear BK310; clear HR312_2; clear HR332_2; clear HB; have HO_1 := n0_; have HO_7 := n1_; have HO_310001 := n2_; have HL312_2 := n3_; have HL332_2 := n4_; have BK309 := n5_; have BK310 := n6_; have HR312_2 := n7_; have HR332_2 := n8_; have HB := n9_; have BK338 := n10_; have GW338 := n11_; have GE338 := n12_; have NB309_338 := n13_; have NB338_309 := n14_; have NB310_338 := n15_; have NB338_310 := n16_; clear n0_ n1_ n2_ n3_ n4_ n5_ n6_ n7_ n8_ n9_ n10_ n11_ n12_ n13_ n14_ n15_ n16_; clear hb hbox hg
            refine hK.out _ _ ⟨(qm_ BK309.out 0).trans rfl, (qm_ BK309.out 1).trans rfl, HS2_, HS3_, HS4_⟩ (fun hHeld => ?_)
            clear hK K
            refine norm_ (a' := ?_) ?_ ?_
            rotate_left
            ·show Act.put _ (some 15) _ = _
             simp only [Act.put, List.setIfInBounds_toArray, List.set_cons_zero, List.set_cons_succ, i64_w, i32_w]
             rfl
            refine one_ (i := 6) (N := some 72) #[true, true, true, true, true, true, true, false, false, false, true, false, false] rfl rfl (one_of HT_.out (by kernel_rfl)) (by decide) (fun K hK => ?_)
            refine goes_ Try.func14 (by kernel_rfl) rfl #[.agg #[.int .i64 x310000_1, .slice Ao86 x310001_1.length co86], .int .i64 ((rd_T38 l1 x9_1).f1)] (by rfl) rfl rfl (by (try simp only [List.map_toArray, List.map_cons, List.map_nil]); first | done | rfl | (simp only [List.length_drop, List.length_take]; rfl)) ?_
            with_reducible refine (selfstabref41_Lose.calls k1 x310000_1 (fun k_ => ((((P0_1_ k_ ∨ P1_ k_) ∨ w.heap.size ≤ k_) ∧ (some k_ ≠ (u7 : Value).ownBlock ∧ (k_ ≠ gb309 ∧ k_ ≠ gb310))) ∧ k_ ≠ gb338)) _ _ x310001_1 ((rd_T38 l1 x9_1).f1) t333 t334 false _ ?side1 A71.out).mono ?_
            (case side1 => exact HO_310001.out)
            rintro e w89 ⟨v335, rfl, ho0, hb⟩
            have HS2_ := (hb.cell (World.block_lt_of_cell? _ _ (hHeld.2.2.1))).trans (hHeld.2.2.1)
            have HS3_ := (hb.cell (World.block_lt_of_cell? _ _ (hHeld.2.2.2.1))).trans (hHeld.2.2.2.1)
            have HS4_ := (hb.cell (World.block_lt_of_cell? _ _ (hHeld.2.2.2.2))).trans (hHeld.2.2.2.2)
            refine ⟨_, rfl, ?_⟩
            have n0_ := Aside0.mk (ql_ (by (with_reducible repeat (first | apply qe_ | apply qf_ | apply qh_)); exact HO_1.out) hb)
            have n1_ := Aside0.mk (Kd.N_below (by (with_reducible repeat (first | apply Kd.N_alloc | apply Kd.N_drewN | apply Kd.N_drew)); exact HO_7.out) hb)
            have n2_ := Aside0.mk (ql_ (by (with_reducible repeat (first | apply qe_ | apply qf_ | apply qh_)); exact HO_310001.out) hb)
            have n3_ := Aside0.mk (ql_ (by (with_reducible repeat (first | apply qe_ | apply qf_ | apply qh_)); exact HL312_2.out) hb)
            have n4_ := Aside0.mk (ql_ (by (with_reducible repeat (first | apply qe_ | apply qf_ | apply qh_)); exact HL332_2.out) hb)
            have n5_ := Aside0.mk (Kd.V_lower (qk_ (ok' := fun k_ => ((P0_1_ k_ ∨ P1_ k_) ∨ w.heap.size ≤ k_) ∧ some k_ ≠ (u7 : Value).ownBlock ∧ k_ ≠ gb309 ∧ k_ ≠ gb310 ∧ k_ ≠ gb338) ho0 (fun k_ hk_ => ⟨Or.elim hk_ (fun hs_ => hs_.1.1) (fun hn_ => (.inr (Nat.le_trans (below_size (by repeat (first | (with_reducible first | exact HB.out | apply qj_ | apply qg_ | apply qi_ | refine qc_ ?_ GE309.out | refine qc_ ?_ GE310.out | refine qc_ ?_ GE338.out) | exact HB.out))) hn_))), Or.elim hk_ (fun hs_ => hs_.1.2.1) (fun hn_ => (Kd.fresh' (Kd.N_lt (by (with_reducible repeat (first | apply Kd.N_alloc | apply Kd.N_drewN | apply Kd.N_drew)); exact HO_7.out)) k_ hn_)), Or.elim hk_ (fun hs_ => hs_.1.2.2.1) (fun hn_ => (Kd.freshB (g := gb309) (o := .cells #[.int .i64 x310000_1, .slice Ao86 x310001_1.length co86] 24 (0, 0)) (by (with_reducible repeat (first | refine qa_ ?_ _ | refine qd_ ?_ | refine qb_ ?_ _)); exact BK309.out) k_ hn_)), Or.elim hk_ (fun hs_ => hs_.1.2.2.2) (fun hn_ => (Kd.freshB (g := gb310) (o := .cells #[.int .i64 0, .slice none 0 0] 24 (0, 0)) (by (with_reducible repeat (first | refine qa_ ?_ _ | refine qd_ ?_ | refine qb_ ?_ _)); exact BK310.out) k_ hn_)), Or.elim hk_ (fun hs_ => hs_.2) (fun hn_ => (Kd.freshB (g := gb338) (o := .cells #[.int .i64 0, .slice none 0 0] 24 (0, 0)) (by (with_reducible repeat (first | refine qa_ ?_ _ | refine qd_ ?_ | refine qb_ ?_ _)); exact BK338.out) k_ hn_))⟩)) (below_size (by repeat (first | (with_reducible first | exact HB.out | apply qj_ | apply qg_ | apply qi_ | refine qc_ ?_ GE309.out | refine qc_ ?_ GE310.out | refine qc_ ?_ GE338.out) | exact HB.out))))
            have n6_ := Aside0.mk (blk_below (g := gb309) (o := .cells #[.int .i64 x310000_1, .slice Ao86 x310001_1.length co86] 24 (0, 0)) (by (with_reducible repeat (first | refine qa_ ?_ _ | refine qd_ ?_ | refine qb_ ?_ _)); exact BK309.out) hb)
            have n7_ := Aside0.mk (blk_below (g := gb310) (o := .cells #[.int .i64 0, .slice none 0 0] 24 (0, 0)) (by (with_reducible repeat (first | refine qa_ ?_ _ | refine qd_ ?_ | refine qb_ ?_ _)); exact BK310.out) hb)
            have n8_ := Aside0.mk (Kd.C_below (by repeat (first | (with_reducible exact HR312_2.out) | (with_reducible refine Kd.C_alloc ?_ _) | (with_reducible refine Kd.C_drewN ?_ _) | (with_reducible refine Kd.C_drew ?_) | exact HR312_2.out)) hb)
            have n9_ := Aside0.mk (Kd.C_below (by repeat (first | (with_reducible exact HR332_2.out) | (with_reducible refine Kd.C_alloc ?_ _) | (with_reducible refine Kd.C_drewN ?_ _) | (with_reducible refine Kd.C_drew ?_) | exact HR332_2.out)) hb)
            have n10_ := Aside0.mk (blk_below (g := gb338) (o := .cells #[.int .i64 0, .slice none 0 0] 24 (0, 0)) (by (with_reducible repeat (first | refine qa_ ?_ _ | refine qd_ ?_ | refine qb_ ?_ _)); exact BK338.out) hb)
            have n11_ := Aside0.mk (below_step (by repeat (first | (with_reducible first | exact HB.out | apply qj_ | apply qg_ | apply qi_ | refine qc_ ?_ GE309.out | refine qc_ ?_ GE310.out | refine qc_ ?_ GE338.out) | exact HB.out)) hb)
            clear HO_1; clear HO_7; clear HO_310001; clear HL312_2; clear HL332_2; clear BK309; clear BK310; clear HR312_2; clear HR332_2; clear BK338; clear HB; have HO_1 := n0_; have HO_7 := n1_; have HO_310001 := n2_; have HL312_2 := n3_; have HL332_2 := n4_; have HO336 := n5_; have BK309 := n6_; have BK310 := n7_; have HR312_2 := n8_; have HR332_2 := n9_; have BK338 := n10_; have HB := n11_; clear n0_ n1_ n2_ n3_ n4_ n5_ n6_ n7_ n8_ n9_ n10_ n11_; (try clear hb); (try clear hb2); (try clear hk); (try clear hi); (try clear ho0)
            refine hK.out _ _ ⟨(qm_ BK309.out 0).trans rfl, (qm_ BK309.out 1).trans rfl, HS2_, HS3_, HS4_⟩ (fun hHeld => ?_)
            clear hK K
            refine norm_ (a' := ?_) ?_ ?_
            rotate_left
            ·show Act.put _ (some 72) _ = _
             simp only [Act.put, List.setIfInBounds_toArray, List.set_cons_zero, List.set_cons_succ, i64_w, i32_w]
             rfl
            refine pure_ (i := 7) (N := some 65) (v := ?_) (a' := ?_) #[true, true, true, true, true, true, true, true, false, false, true, false, false] rfl rfl (any_of HT_.out (by kernel_rfl)) (fun _ _ _ h => h) (Or.inl ⟨by rfl, ?_⟩) ?_ ?_
            rotate_left
            ·intro w'
             go_simp
             with_reducible rfl
            rotate_left
            ·simp only [Act.put, List.setIfInBounds_toArray, List.set_cons_zero, List.set_cons_succ, i64_w, i32_w]
             rfl
            refine pure_ (i := 8) (N := some 73) (v := ?_) (a' := ?_) #[true, true, true, true, true, true, true, true, true, false, true, false, false] rfl rfl (any_of HT_.out (by kernel_rfl)) (fun _ _ _ h => h) (Or.inl ⟨by rfl, ?_⟩) ?_ ?_
            rotate_left
            ·intro w'
             go_simp
             with_reducible rfl
            rotate_left
            ·simp only [Act.put, List.setIfInBounds_toArray, List.set_cons_zero, List.set_cons_succ, i64_w, i32_w]
             rfl
            refine pure_ (i := 9) (N := some 74) (v := ?_) (a' := ?_) #[true, true, true, true, true, true, true, true, true, true, true, false, false] rfl rfl (any_of HT_.out (by kernel_rfl)) (fun _ _ _ h => h) (Or.inl ⟨by rfl, ?_⟩) ?_ ?_
            rotate_left
            ·intro w'
             go_simp
             with_reducible rfl
            rotate_left
            ·simp only [Act.put, List.setIfInBounds_toArray, List.set_cons_zero, List.set_cons_succ, i64_w, i32_w]
             rfl
            exact norm_ (by simp only [putAll, Act.put, List.setIfInBounds_toArray, List.set_cons_zero, List.set_cons_succ]) (hCont (v335, gb338) _ ⟨hHeld, (by (with_reducible repeat (first | apply qe_ | apply qf_ | apply qh_)); exact qk_ HL312_2.out (fun _ hk => ⟨hk.1.1, ⟨hk.1.2.1, ⟨hk.1.2.2.1, ⟨hk.1.2.2.2, hk.2⟩⟩⟩⟩)), (by (with_reducible repeat (first | apply qe_ | apply qf_ | apply qh_)); exact qk_ HL332_2.out (fun _ hk => ⟨hk.1.1, ⟨hk.1.2.1, ⟨hk.1.2.2.1, ⟨hk.1.2.2.2, hk.2⟩⟩⟩⟩)), (by (with_reducible repeat (first | apply qe_ | apply qf_ | apply qh_)); exact HO336.out), (by (with_reducible repeat (first | apply qe_ | apply qf_ | apply qh_)); exact qk_ HO_1.out (fun _ hk => ⟨hk.1.1, ⟨hk.1.2.1, ⟨hk.1.2.2.1, ⟨hk.1.2.2.2, hk.2⟩⟩⟩⟩)), (by (with_reducible repeat (first | apply qe_ | apply qf_ | apply qh_)); exact qk_ HO_310001.out (fun _ hk => ⟨hk.1.1, ⟨hk.1.2.1, ⟨hk.1.2.2.1, ⟨hk.1.2.2.2, hk.2⟩⟩⟩⟩)), (by (with_reducible repeat (first | apply Kd.N_alloc | apply Kd.N_drewN | apply Kd.N_drew)); exact Kd.N_mono HO_7.out (fun _ hk => ⟨hk.1.1, ⟨hk.1.2.1, ⟨hk.1.2.2, hk.2⟩⟩⟩)), (by (with_reducible repeat (first | refine qa_ ?_ _ | refine qd_ ?_ | refine qb_ ?_ _)); exact BK309.out), (by (with_reducible repeat (first | refine qa_ ?_ _ | refine qd_ ?_ | refine qb_ ?_ _)); exact BK310.out), (by (with_reducible repeat (first | refine qa_ ?_ _ | refine qd_ ?_ | refine qb_ ?_ _)); exact BK338.out), GW338.out, GE338.out, NB309_338.out, NB338_309.out, NB310_338.out, NB338_310.out, (by repeat (first | (with_reducible first | exact HB.out | apply qj_ | apply qg_ | apply qi_ | refine qc_ ?_ GE309.out | refine qc_ ?_ GE310.out | refine qc_ ?_ GE338.out) | exact HB.out))⟩)
          rintro ⟨v335, gb338⟩ w90 ⟨hS_, h0_, h1_, h2_, h3_, h4_, h5_, h6_, h7_, h8_, h9_, h10_, h11_, h12_, h13_, h14_, h15_⟩
          have n0_ : Aside0 (Kd.V (Kd.int .i64) 3 w90 w.heap.size (fun k_ => ((P0_1_ k_ ∨ P1_ k_) ∨ w.heap.size ≤ k_) ∧ some k_ ≠ (u7 : Value).ownBlock ∧ k_ ≠ gb309 ∧ k_ ≠ gb310 ∧ k_ ≠ gb338) (.slice A312_2 ((rd_T38 l1 x9_1).f2).length c312_2) ((rd_T38 l1 x9_1).f2)) := ⟨h0_⟩
          have n1_ : Aside0 (Kd.V (Kd.int .i64) 3 w90 w.heap.size (fun k_ => ((P0_1_ k_ ∨ P1_ k_) ∨ w.heap.size ≤ k_) ∧ some k_ ≠ (u7 : Value).ownBlock ∧ k_ ≠ gb309 ∧ k_ ≠ gb310 ∧ k_ ≠ gb338) (.slice A332_2 ((rd_T38 l1 x9_1).f2).length c332_2) ((rd_T38 l1 x9_1).f2)) := ⟨h1_⟩
          have n2_ : Aside0 (Kd.V (Kd.slice 3 (Kd.int .i64)) 25 w90 w.heap.size (fun k_ => ((P0_1_ k_ ∨ P1_ k_) ∨ w.heap.size ≤ k_) ∧ some k_ ≠ (u7 : Value).ownBlock ∧ k_ ≠ gb309 ∧ k_ ≠ gb310 ∧ k_ ≠ gb338) v335 t334) := ⟨h2_⟩
          have n3_ : Aside0 (Kd.V k38 38 w90 w.heap.size (fun k_ => ((P0_1_ k_ ∨ P1_ k_) ∨ w.heap.size ≤ k_) ∧ some k_ ≠ (u7 : Value).ownBlock ∧ k_ ≠ gb309 ∧ k_ ≠ gb310 ∧ k_ ≠ gb338) (.slice (some ad312) l1.length c1) l1) := ⟨h3_⟩
          have n4_ : Aside0 (Kd.V (Kd.slice 3 (Kd.int .i64)) 25 w90 w.heap.size (fun k_ => ((P0_1_ k_ ∨ P1_ k_) ∨ w.heap.size ≤ k_) ∧ some k_ ≠ (u7 : Value).ownBlock ∧ k_ ≠ gb309 ∧ k_ ≠ gb310 ∧ k_ ≠ gb338) (.slice Ao86 x310001_1.length co86) x310001_1) := ⟨h4_⟩
          have n5_ : Aside0 (Kd.N (Kd.slice 3 (Kd.int .i64)) 25 w90 w.heap.size (fun k_ => ((P0_1_ k_ ∨ P1_ k_) ∨ w.heap.size ≤ k_) ∧ k_ ≠ gb309 ∧ k_ ≠ gb310 ∧ k_ ≠ gb338) u7 x7_1) := ⟨h5_⟩
          have n6_ : Aside0 (w90.heap[gb309]? = some (.cells #[.int .i64 x310000_1, .slice Ao86 x310001_1.length co86] 24 (0, 0))) := ⟨h6_⟩
          have n7_ : Aside0 (w90.heap[gb310]? = some (.cells #[.int .i64 0, .slice none 0 0] 24 (0, 0))) := ⟨h7_⟩
          have n8_ : Aside0 (w90.heap[gb338]? = some (.cells #[.int .i64 0, .slice none 0 0] 24 (0, 0))) := ⟨h8_⟩
          have n9_ : Aside0 (w.heap.size ≤ gb338) := ⟨h9_⟩
          have n10_ : Aside0 (w.heap.size ≤ gb338) := ⟨h10_⟩
          have n11_ : Aside0 (gb309 ≠ gb338) := ⟨h11_⟩
          have n12_ : Aside0 (gb338 ≠ gb309) := ⟨h12_⟩
          have n13_ : Aside0 (gb310 ≠ gb338) := ⟨h13_⟩
          have n14_ : Aside0 (gb338 ≠ gb310) := ⟨h14_⟩
          have n15_ : Aside0 (Below w.heap.size w w90) := ⟨h15_⟩
          clear HO_1; clear HO_7; clear HO_310001; clear HL312_2; clear BK309; clear BK310; clear HR312_2; clear HB; clear h0_ h1_ h2_ h3_ h4_ h5_ h6_ h7_ h8_ h9_ h10_ h11_ h12_ h13_ h14_ h15_; have HL312_2 := n0_; have HL332_2 := n1_; have HO336 := n2_; have HO_1 := n3_; have HO_310001 := n4_; have HO_7 := n5_; have BK309 := n6_; have BK310 := n7_; have BK338 := n8_; have GW338 := n9_; have GE338 := n10_; have NB309_338 := n11_; have NB338_309 := n12_; have NB310_338 := n13_; have NB338_310 := n14_; have HB := n15_; clear n0_ n1_ n2_ n3_ n4_ n5_ n6_ n7_ n8_ n9_ n10_ n11_ n12_ n13_ n14_ n15_
          have hHeld : w90.cell? ⟨gb309, 0, none⟩ = some (.int .i64 x310000_1) ∧ w90.cell? ⟨gb309, 1, none⟩ = some (.slice Ao86 x310001_1.length co86) ∧ w90.cell? (ad312.add ((x9_1).toNat * 3)) = some (.int .i64 ((rd_T38 l1 x9_1).f0)) ∧ w90.cell? ⟨(ad312.add ((x9_1).toNat * 3)).block, (ad312.add ((x9_1).toNat * 3)).off + 1, none⟩ = some (.int .i64 ((rd_T38 l1 x9_1).f1)) ∧ w90.cell? ⟨(ad312.add ((x9_1).toNat * 3)).block, (ad312.add ((x9_1).toNat * 3)).off + 2, none⟩ = some (.slice A332_2 ((rd_T38 l1 x9_1).f2).length c332_2) := hS_
          obtain ⟨Ao92, co92, eo92⟩ := Kd.V_slice HO336.out
          (first | subst eo92 | (injection eo92 with f1_ f2_ f3_; have f4_ := f1_.symm; have f5_ := f3_.symm; clear f1_ f2_ f3_; subst f4_; subst f5_))
          refine norm_ (a' := ?_) ?_ ?_
          rotate_left
          ·simp only [putAll, Act.put, List.setIfInBounds_toArray, List.set_cons_zero, List.set_cons_succ]
           rfl
          refine one_ (i := 11) (N := none) #[true, true, true, true, true, true, true, true, true, true, true, true, false] rfl rfl (one_of HT_.out (by kernel_rfl)) (by decide) (fun K hK => ?_)
          have hs91 : w90.cell? ⟨gb338, 0, none⟩ = some (.int .i64 0) := (qm_ BK338.out 0).trans rfl
          have hfs91 := blk_frozen BK338.out 0
          have hns91_0 := NB309_338.out
          have hns91_1 := NB310_338.out
          have hms91_0 := NB338_309.out
          have hms91_1 := NB338_310.out
          have hs93 : w90.cell? ⟨gb338, 1, none⟩ = some (.slice none 0 0) := (qm_ BK338.out 1).trans rfl
          have hfs93 := blk_frozen BK338.out 1
          have hns93_0 := NB309_338.out
          have hns93_1 := NB310_338.out
          have hms93_0 := NB338_309.out
          have hms93_1 := NB338_310.out
          refine skip_ (w1 := ?_) (by rfl) rfl ?_ ?_
          rotate_left
          ·go_simp
           rfl
          refine hK.out _ _ ⟨((cell_far (p := ⟨gb338, _, none⟩) NB309_338.out _).trans (((cell_far (p := ⟨gb338, _, none⟩) NB309_338.out _).trans (hHeld.1)))), ((cell_far (p := ⟨gb338, _, none⟩) NB309_338.out _).trans (((cell_far (p := ⟨gb338, _, none⟩) NB309_338.out _).trans (hHeld.2.1)))), ((cell_far (p := ⟨gb338, _, none⟩) (by have e_ := Kd.own_blk (vA_ HO_1.out c11b0 c10b0 (by decide) (fun _ hk => hk.2.2.2.2)); first | exact e_ | (rw [add_block]; exact e_) | (show (Addr.add _ _).block ≠ _; rw [add_block]; exact e_) | (dsimp only; exact e_)) _).trans (((cell_far (p := ⟨gb338, _, none⟩) (by have e_ := Kd.own_blk (vA_ HO_1.out c11b0 c10b0 (by decide) (fun _ hk => hk.2.2.2.2)); first | exact e_ | (rw [add_block]; exact e_) | (show (Addr.add _ _).block ≠ _; rw [add_block]; exact e_) | (dsimp only; exact e_)) _).trans (hHeld.2.2.1)))), ((cell_far (p := ⟨gb338, _, none⟩) (by have e_ := Kd.own_blk (vA_ HO_1.out c11b0 c10b0 (by decide) (fun _ hk => hk.2.2.2.2)); first | exact e_ | (rw [add_block]; exact e_) | (show (Addr.add _ _).block ≠ _; rw [add_block]; exact e_) | (dsimp only; exact e_)) _).trans (((cell_far (p := ⟨gb338, _, none⟩) (by have e_ := Kd.own_blk (vA_ HO_1.out c11b0 c10b0 (by decide) (fun _ hk => hk.2.2.2.2)); first | exact e_ | (rw [add_block]; exact e_) | (show (Addr.add _ _).block ≠ _; rw [add_block]; exact e_) | (dsimp only; exact e_)) _).trans (hHeld.2.2.2.1)))), ((cell_far (p := ⟨gb338, _, none⟩) (by have e_ := Kd.own_blk (vA_ HO_1.out c11b0 c10b0 (by decide) (fun _ hk => hk.2.2.2.2)); first | exact e_ | (rw [add_block]; exact e_) | (show (Addr.add _ _).block ≠ _; rw [add_block]; exact e_) | (dsimp only; exact e_)) _).trans (((cell_far (p := ⟨gb338, _, none⟩) (by have e_ := Kd.own_blk (vA_ HO_1.out c11b0 c10b0 (by decide) (fun _ hk => hk.2.2.2.2)); first | exact e_ | (rw [add_block]; exact e_) | (show (Addr.add _ _).block ≠ _; rw [add_block]; exact e_) | (dsimp only; exact e_)) _).trans (hHeld.2.2.2.2))))⟩ (fun hHeld => ?_)
          clear hK K
          refine pure_ (i := 12) (N := some 16) (v := ?_) (a' := ?_) #[true, true, true, true, true, true, true, true, true, true, true, true, true] rfl rfl (any_of HT_.out (by kernel_rfl)) (fun _ _ _ h => h) (Or.inl ⟨by rfl, ?_⟩) ?_ ?_
          rotate_left
          ·intro w'
           go_simp
           with_reducible rfl
          rotate_left
          ·simp only [Act.put, List.setIfInBounds_toArray, List.set_cons_zero, List.set_cons_succ, i64_w, i32_w]
           rfl
          refine done_ (done_of HT_.out (by kernel_rfl)) ?_
          have hnb94 := NB338_309.out
          have hnc94 := NB309_338.out
          have hnb95 := NB338_310.out
          have hnc95 := NB310_338.out
          have hcz96_0 : w90.cell? ⟨gb338, 0, none⟩ = some (.int .i64 0) := (qm_ BK338.out 0).trans rfl
          have hcz96_1 : w90.cell? ⟨gb338, 1, none⟩ = some (.slice none 0 0) := (qm_ BK338.out 1).trans rfl
          have hfz96_0 := blk_frozen BK338.out 0
          have hfz96_1 := blk_frozen BK338.out 1
          have hnb97 := NB309_310.out
          have hnc97 := NB310_309.out
          have hcz98_0 : w90.cell? ⟨gb309, 0, none⟩ = some (.int .i64 x310000_1) := (qm_ BK309.out 0).trans rfl
          have hcz98_1 : w90.cell? ⟨gb309, 1, none⟩ = some (.slice Ao86 x310001_1.length co86) := (qm_ BK309.out 1).trans rfl
          have hfz98_0 := blk_frozen BK309.out 0
          have hfz98_1 := blk_frozen BK309.out 1
          try go_wp2
          go_roundg k1
          case measure => have := HK1.out; omega
          case rel => exact ⟨(x7_1), (x8_1), (wrap64 (x9_1 + 1)), (t333), (t334), (.slice Ao92 t334.length co92), (by first | rfl | (simp; done) | (simp [*]; done)), (by first | rfl | (simp; done) | (simp [*]; done)), H', ⟨by have := HK1.out; omega⟩, ⟨by (with_reducible repeat (first | apply qe_ | apply qf_ | apply qh_)); exact qk_ (Kd.V_far (p := ⟨gb309, 1, none⟩) (Kd.V_far (p := ⟨gb309, 0, none⟩) (Kd.V_far (p := ⟨gb338, 1, none⟩) (Kd.V_far (p := ⟨gb338, 0, none⟩) (qk_ (qk_ HO_1.out (fun k_ hk => (⟨hk, hk.2.2.2.2⟩ : _ ∧ k_ ≠ gb338))) (fun k_ hk => (⟨hk, hk.1.2.2.1⟩ : _ ∧ k_ ≠ gb309))) (fun _ hk => hk.1.2) (.int .i64 t333)) (fun _ hk => hk.1.2) (.slice Ao92 t334.length co92)) (fun _ hk => hk.2) (.int .i64 t333)) (fun _ hk => hk.2) (.slice Ao92 t334.length co92)) (fun _ hk => ⟨hk.1.1.1, ⟨hk.1.1.2.1, ⟨hk.1.1.2.2.1, hk.1.1.2.2.2.1⟩⟩⟩)⟩, ⟨by (with_reducible repeat (first | apply Kd.N_alloc | apply Kd.N_drewN | apply Kd.N_drew)); exact Kd.N_mono (Kd.N_far (p := ⟨gb309, 1, none⟩) (Kd.N_far (p := ⟨gb309, 0, none⟩) (Kd.N_far (p := ⟨gb338, 1, none⟩) (Kd.N_far (p := ⟨gb338, 0, none⟩) (Kd.N_mono (Kd.N_mono HO_7.out (fun k_ hk => (⟨hk, hk.2.2.2⟩ : _ ∧ k_ ≠ gb338))) (fun k_ hk => (⟨hk, hk.1.2.1⟩ : _ ∧ k_ ≠ gb309))) (fun _ hk => hk.1.2) (.int .i64 t333)) (fun _ hk => hk.1.2) (.slice Ao92 t334.length co92)) (fun _ hk => hk.2) (.int .i64 t333)) (fun _ hk => hk.2) (.slice Ao92 t334.length co92)) (fun _ hk => ⟨hk.1.1.1, ⟨hk.1.1.2.1, hk.1.1.2.2.1⟩⟩)⟩, ⟨by (with_reducible repeat (first | apply qe_ | apply qf_ | apply qh_)); exact qk_ (Kd.V_far (p := ⟨gb309, 1, none⟩) (Kd.V_far (p := ⟨gb309, 0, none⟩) (Kd.V_far (p := ⟨gb338, 1, none⟩) (Kd.V_far (p := ⟨gb338, 0, none⟩) (qk_ (qk_ HO336.out (fun k_ hk => (⟨hk, hk.2.2.2.2⟩ : _ ∧ k_ ≠ gb338))) (fun k_ hk => (⟨hk, hk.1.2.2.1⟩ : _ ∧ k_ ≠ gb309))) (fun _ hk => hk.1.2) (.int .i64 t333)) (fun _ hk => hk.1.2) (.slice Ao92 t334.length co92)) (fun _ hk => hk.2) (.int .i64 t333)) (fun _ hk => hk.2) (.slice Ao92 t334.length co92)) (fun _ hk => ⟨hk.1.1.1, ⟨hk.1.1.2.1, ⟨hk.1.1.2.2.1, hk.1.1.2.2.2.1⟩⟩⟩)⟩, ⟨by (with_reducible repeat (first | refine qa_ ?_ _ | refine qd_ ?_ | refine qb_ ?_ _)); refine blk_put (cs := #[.int .i64 t333, .slice Ao86 x310001_1.length co86]) ?_ 1 _ rfl; (with_reducible repeat (first | refine qa_ ?_ _ | refine qd_ ?_ | refine qb_ ?_ _)); refine blk_put (cs := #[.int .i64 x310000_1, .slice Ao86 x310001_1.length co86]) ?_ 0 _ rfl; (with_reducible repeat (first | refine qa_ ?_ _ | refine qd_ ?_ | refine qb_ ?_ _)); refine blk_far ?_ NB309_338.out _; (with_reducible repeat (first | refine qa_ ?_ _ | refine qd_ ?_ | refine qb_ ?_ _)); refine blk_far ?_ NB309_338.out _; (with_reducible repeat (first | refine qa_ ?_ _ | refine qd_ ?_ | refine qb_ ?_ _)); exact BK309.out⟩, ⟨by (with_reducible repeat (first | refine qa_ ?_ _ | refine qd_ ?_ | refine qb_ ?_ _)); refine blk_far ?_ NB310_309.out _; (with_reducible repeat (first | refine qa_ ?_ _ | refine qd_ ?_ | refine qb_ ?_ _)); refine blk_far ?_ NB310_309.out _; (with_reducible repeat (first | refine qa_ ?_ _ | refine qd_ ?_ | refine qb_ ?_ _)); refine blk_far ?_ NB310_338.out _; (with_reducible repeat (first | refine qa_ ?_ _ | refine qd_ ?_ | refine qb_ ?_ _)); refine blk_far ?_ NB310_338.out _; (with_reducible repeat (first | refine qa_ ?_ _ | refine qd_ ?_ | refine qb_ ?_ _)); exact BK310.out⟩, ⟨by repeat (first | (with_reducible first | exact HB.out | apply qj_ | apply qg_ | apply qi_ | refine qc_ ?_ GE309.out | refine qc_ ?_ GE310.out | refine qc_ ?_ GE338.out) | exact HB.out)⟩⟩
        ·rw [if_neg c70] at H
         have c70b0 : (((rd_T38 l1 x9_1).f0) == 3) = false := beq_eq_false_iff_ne.mpr c70
         have c70b1 : (((rd_T38 l1 x9_1).f0) != 3) = true := bne_iff_ne.mpr c70
         have H' := Aside0.mk H
         clear H
         have p312 : 0 ≤ (x9_1 : Int) := of_decide_eq_true (by first | (with_reducible assumption) | assumption)
         have q312 : x9_1 < (l1.length : Int) := of_decide_eq_true (by first | (with_reducible assumption) | assumption)
         (try (obtain ⟨Az312, cz312, ez312⟩ := Kd.V_slice HO_1.out; subst ez312))
         obtain ⟨ad312, A312_2, c312_2, e312, hx312_0, hx312_1, hx312_2, hl312_2, hi312_2⟩ := at_T38 (Kd.V_reads' HO_1.out).2.2 x9_1 p312 q312
         cases e312
         obtain ⟨ce312, hce312, hMe312, hcc312⟩ := Kd.V_get HO_1.out z38 x9_1 p312 (by first | exact q312 | exact of_decide_eq_true (by first | (with_reducible assumption) | assumption) | (have e_ := (Kd.V_reads' HO_1.out).1; omega))
         obtain ⟨ua312_2, uc312_2, rfl, ul312_2, ge312_2⟩ := k38_openF hMe312
         have hv312_2 := hcc312 2 _ rfl
         rw [add_field _ _ 2 (by omega)] at hv312_2
         replace hv312_2 := Option.some.inj (hv312_2.symm.trans hx312_2)
         injection hv312_2 with hva_ hvn_ hvc_
         rw [hva_] at ge312_2
         rw [hvc_] at ul312_2
         have HL312_2 := Aside0.mk (show Kd.V (Kd.int .i64) 3 _ w.heap.size _ _ ((rd_T38 l1 x9_1).f2) from Kd.V_mk ul312_2 ge312_2)
         clear hva_ hvn_ hvc_ ge312_2 ul312_2; clear hcc312 hce312
         have HR312_2 := Aside0.mk hi312_2
         have HC312_2 := Aside0.mk hl312_2
         clear hi312_2 hl312_2
         replace p312 := eq_true p312
         replace q312 := eq_true q312
         go_wp2
         go_roundg k1
         case measure => have := HK1.out; omega
         case rel => exact ⟨(x7_1), (x8_1), (wrap64 (x9_1 + 1)), (x310000_1), (x310001_1), (u310001), (by first | rfl | (simp; done) | (simp [*]; done)), (by first | rfl | (simp; done) | (simp [*]; done)), H', ⟨by have := HK1.out; omega⟩, ⟨by (with_reducible repeat (first | apply qe_ | apply qf_ | apply qh_)); exact HO_1.out⟩, ⟨by (with_reducible repeat (first | apply Kd.N_alloc | apply Kd.N_drewN | apply Kd.N_drew)); exact HO_7.out⟩, ⟨by (with_reducible repeat (first | apply qe_ | apply qf_ | apply qh_)); exact HO_310001.out⟩, ⟨by (with_reducible repeat (first | refine qa_ ?_ _ | refine qd_ ?_ | refine qb_ ?_ _)); exact BK309.out⟩, ⟨by (with_reducible repeat (first | refine qa_ ?_ _ | refine qd_ ?_ | refine qb_ ?_ _)); exact BK310.out⟩, ⟨by repeat (first | (with_reducible first | exact HB.out | apply qj_ | apply qg_ | apply qi_ | refine qc_ ?_ GE309.out | refine qc_ ?_ GE310.out) | exact HB.out)⟩⟩
     ·rw [if_neg c11] at H
      exact absurd H (by simp)
    ·rw [if_neg c10] at H
     have c10b0 : decide (x9_1 < (l1.length : Int)) = false := decide_eq_false c10
     clear c10
     simp only [Option.some.injEq, Prod.mk.injEq] at H
     obtain ⟨rfl, rfl, rfl, rfl⟩ := H
     have hnb99 := NB309_310.out
     have hnc99 := NB310_309.out
     have hcz100_0 : wr.cell? ⟨gb309, 0, none⟩ = some (.int .i64 x310000_1) := (qm_ BK309.out 0).trans rfl
     have hcz100_1 : wr.cell? ⟨gb309, 1, none⟩ = some (u310001) := (qm_ BK309.out 1).trans rfl
     have hfz100_0 := blk_frozen BK309.out 0
     have hfz100_1 := blk_frozen BK309.out 1
     have hcz101_0 : wr.cell? ⟨gb310, 0, none⟩ = some (.int .i64 0) := (qm_ BK310.out 0).trans rfl
     have hcz101_1 : wr.cell? ⟨gb310, 1, none⟩ = some (.slice none 0 0) := (qm_ BK310.out 1).trans rfl
     have hfz101_0 := blk_frozen BK310.out 0
     have hfz101_1 := blk_frozen BK310.out 1
     obtain ⟨Ao102, co102, eo102⟩ := Kd.V_slice HO_310001.out
     subst eo102
     go_wp2
     refine bodyPost_ret (results_ctt rfl _ _ gb310 24 #[.int .i64 x310000_1, .slice Ao102 x310001_1.length co102] (0, 0) _ rfl (by (with_reducible repeat (first | refine qa_ ?_ _ | refine qd_ ?_ | refine qb_ ?_ _)); refine blk_put (cs := #[.int .i64 x310000_1, .slice none 0 0]) ?_ 1 _ rfl; (with_reducible repeat (first | refine qa_ ?_ _ | refine qd_ ?_ | refine qb_ ?_ _)); refine blk_put (cs := #[.int .i64 0, .slice none 0 0]) ?_ 0 _ rfl; (with_reducible repeat (first | refine qa_ ?_ _ | refine qd_ ?_ | refine qb_ ?_ _)); exact BK310.out) Try.underlying24 rfl (by kernel_rfl)) rfl ?_
     exact ⟨_, _, by first | rfl | (simp [errW_none, errW_some] <;> rfl) | (simp [*, errW_none, errW_some] <;> rfl), by (with_reducible repeat (first | apply qe_ | apply qf_ | apply qh_)); exact qk_ (Kd.V_far (p := ⟨gb310, 1, none⟩) (Kd.V_far (p := ⟨gb310, 0, none⟩) (qk_ HO_310001.out (fun k_ hk => (⟨hk, hk.2.2.2⟩ : _ ∧ k_ ≠ gb310))) (fun _ hk => hk.2) (.int .i64 x310000_1)) (fun _ hk => hk.2) (.slice Ao102 x310001_1.length co102)) (fun _ hk => ⟨hk.1.1, hk.1.2.1⟩), by (with_reducible repeat (first | apply Kd.N_alloc | apply Kd.N_drewN | apply Kd.N_drew)); exact Kd.N_mono (Kd.N_far (p := ⟨gb310, 1, none⟩) (Kd.N_far (p := ⟨gb310, 0, none⟩) (Kd.N_mono HO_7.out (fun k_ hk => (⟨hk, hk.2.2⟩ : _ ∧ k_ ≠ gb310))) (fun _ hk => hk.2) (.int .i64 x310000_1)) (fun _ hk => hk.2) (.slice Ao102 x310001_1.length co102)) (fun _ hk => hk.1.1), by repeat (first | (with_reducible first | exact HB.out | apply qj_ | apply qg_ | apply qi_ | refine qc_ ?_ GE309.out | refine qc_ ?_ GE310.out) | exact HB.out)⟩
 ·replace c4 := Bool.eq_false_iff.mpr c4
  subst c4
  have H1 : (some (0, ([] : List (List Int)), ([] : List (List Int)), 0)) = some (r1, r2, r3, r4) := by rw [if_neg (show ¬ (false = true) by decide)] at H; exact H
  clear H
  have H := H1
  clear H1
  simp only [Option.some.injEq, Prod.mk.injEq] at H
  obtain ⟨rfl, rfl, rfl, rfl⟩ := H
  go_enter Try.func20, Try.ntmps20
  go_wp2_with (first | ((with_reducible refine gate_dst (N := 2) rfl ?_); refine box_event ?hg (N := 2) ?hd (cs := #[.int .i64 a0_0, .slice A0_1 l0_1.length c0_1]) (t := 24) ?hr ?_; (case hd => rfl); (case hg => rfl); (case hr => first | (go_simp; done) | (go_simp; rfl)); intro gb309 hg w103 hbox hb; have n0_ := Aside0.mk (ql_ (Kd.V_elderB (by (with_reducible repeat (first | apply qe_ | apply qf_ | apply qh_)); exact HO0_1.out) gb309 (Nat.le_of_eq hg.symm)) hb); have n1_ := Aside0.mk (ql_ (Kd.V_elderB (by (with_reducible repeat (first | apply qe_ | apply qf_ | apply qh_)); exact HO1.out) gb309 (Nat.le_of_eq hg.symm)) hb); have n2_ := Aside0.mk (below_step (by repeat (first | (with_reducible first | exact HB.out | apply qj_ | apply qg_ | apply qi_) | exact HB.out)) hb); have n3_ := Aside0.mk (hbox); have n4_ := Aside0.mk ((by rw [hg]; exact (below_size (by repeat (first | (with_reducible first | exact HB.out | apply qj_ | apply qg_ | apply qi_) | exact HB.out))) : w.heap.size ≤ gb309)); have n5_ := Aside0.mk ((by rw [hg]; exact (below_size (by repeat (first | (with_reducible first | exact HB.out | apply qj_ | apply qg_ | apply qi_) | exact HB.out))) : w.heap.size ≤ gb309)); clear HO0_1; clear HO1; clear HB; have HO0_1 := n0_; have HO1 := n1_; have HB := n2_; have BK309 := n3_; have GW309 := n4_; have GE309 := n5_; clear n0_ n1_ n2_ n3_ n4_ n5_; clear hb hbox hg) | ((with_reducible refine gate_dst (N := 4) rfl ?_); refine box_event ?hg (N := 4) ?hd (cs := #[.int .i64 0, .slice none 0 0]) (t := 24) ?hr ?_; (case hd => rfl); (case hg => rfl); (case hr => first | (go_simp; done) | (go_simp; rfl)); intro gb310 hg w104 hbox hb; have n0_ := Aside0.mk (ql_ (Kd.V_elderB (by (with_reducible repeat (first | apply qe_ | apply qf_ | apply qh_)); exact HO0_1.out) gb310 (Nat.le_of_eq hg.symm)) hb); have n1_ := Aside0.mk (ql_ (Kd.V_elderB (by (with_reducible repeat (first | apply qe_ | apply qf_ | apply qh_)); exact HO1.out) gb310 (Nat.le_of_eq hg.symm)) hb); have n2_ := Aside0.mk (blk_below (g := gb309) (o := .cells #[.int .i64 a0_0, .slice A0_1 l0_1.length c0_1] 24 (0, 0)) (by (with_reducible repeat (first | refine qa_ ?_ _ | refine qd_ ?_ | refine qb_ ?_ _)); exact BK309.out) hb); have n3_ := Aside0.mk (below_step (by repeat (first | (with_reducible first | exact HB.out | apply qj_ | apply qg_ | apply qi_ | refine qc_ ?_ GE309.out) | exact HB.out)) hb); have n4_ := Aside0.mk (hbox); have n5_ := Aside0.mk ((by rw [hg]; exact (below_size (by repeat (first | (with_reducible first | exact HB.out | apply qj_ | apply qg_ | apply qi_ | refine qc_ ?_ GE309.out) | exact HB.out))) : w.heap.size ≤ gb310)); have n6_ := Aside0.mk ((by rw [hg]; exact (below_size (by repeat (first | (with_reducible first | exact HB.out | apply qj_ | apply qg_ | apply qi_ | refine qc_ ?_ GE309.out) | exact HB.out))) : w.heap.size ≤ gb310)); have n7_ := Aside0.mk ((by rw [hg]; exact Nat.ne_of_lt (blk_lt (g := gb309) (o := .cells #[.int .i64 a0_0, .slice A0_1 l0_1.length c0_1] 24 (0, 0)) (by (with_reducible repeat (first | refine qa_ ?_ _ | refine qd_ ?_ | refine qb_ ?_ _)); exact BK309.out)) : gb309 ≠ gb310)); have n8_ := Aside0.mk ((by rw [hg]; exact Nat.ne_of_gt (blk_lt (g := gb309) (o := .cells #[.int .i64 a0_0, .slice A0_1 l0_1.length c0_1] 24 (0, 0)) (by (with_reducible repeat (first | refine qa_ ?_ _ | refine qd_ ?_ | refine qb_ ?_ _)); exact BK309.out)) : gb310 ≠ gb309)); clear HO0_1; clear HO1; clear BK309; clear HB; have HO0_1 := n0_; have HO1 := n1_; have BK309 := n2_; have HB := n3_; have BK310 := n4_; have GW310 := n5_; have GE310 := n6_; have NB309_310 := n7_; have NB310_309 := n8_; clear n0_ n1_ n2_ n3_ n4_ n5_ n6_ n7_ n8_; clear hb hbox hg; have hnb105 := NB309_310.out; have hnc105 := NB310_309.out; have hcz106_0 : w104.cell? ⟨gb309, 0, none⟩ = some (.int .i64 a0_0) := (qm_ BK309.out 0).trans rfl; have hcz106_1 : w104.cell? ⟨gb309, 1, none⟩ = some (.slice A0_1 l0_1.length c0_1) := (qm_ BK309.out 1).trans rfl; have hfz106_0 := blk_frozen BK309.out 0; have hfz106_1 := blk_frozen BK309.out 1) | ((with_reducible refine gate_callee (f := 16) rfl ?_); refine goesL_ (some 18) rfl rfl Try.func16 (by kernel_rfl) rfl #[.agg #[.int .i64 a0_0, .slice A0_1 l0_1.length c0_1]] rfl (by (try simp only [List.map_toArray, List.map_cons, List.map_nil]); first | done | rfl | (simp only [List.length_drop, List.length_take]; rfl)) ?_; (with_reducible refine (selfstabref41_Valid.calls k a0_0 _ _ l0_1 false _ ?side1 ?side2 A3.out).mono ?_); (case side1 => repeat (first | exact (Kd.V_reads' HO0_1.out).2.2 | (with_reducible refine Kd.C_alloc ?_ _) | (with_reducible refine Kd.C_drewN ?_ _) | (with_reducible refine Kd.C_drew ?_))); (case side2 => exact (Kd.V_reads' HO0_1.out).2.1); rintro e w107 ⟨rfl, hb⟩; refine ⟨_, rfl, ?_⟩; have n0_ := Aside0.mk (ql_ (by (with_reducible repeat (first | apply qe_ | apply qf_ | apply qh_)); exact HO0_1.out) hb); have n1_ := Aside0.mk (ql_ (by (with_reducible repeat (first | apply qe_ | apply qf_ | apply qh_)); exact HO1.out) hb); have n2_ := Aside0.mk (blk_below (g := gb309) (o := .cells #[.int .i64 a0_0, .slice A0_1 l0_1.length c0_1] 24 (0, 0)) (by (with_reducible repeat (first | refine qa_ ?_ _ | refine qd_ ?_ | refine qb_ ?_ _)); exact BK309.out) hb); have n3_ := Aside0.mk (blk_below (g := gb310) (o := .cells #[.int .i64 0, .slice none 0 0] 24 (0, 0)) (by (with_reducible repeat (first | refine qa_ ?_ _ | refine qd_ ?_ | refine qb_ ?_ _)); exact BK310.out) hb); have n4_ := Aside0.mk (below_step (by repeat (first | (with_reducible first | exact HB.out | apply qj_ | apply qg_ | apply qi_ | refine qc_ ?_ GE309.out | refine qc_ ?_ GE310.out) | exact HB.out)) hb); clear HO0_1; clear HO1; clear BK309; clear BK310; clear HB; have HO0_1 := n0_; have HO1 := n1_; have BK309 := n2_; have BK310 := n3_; have HB := n4_; clear n0_ n1_ n2_ n3_ n4_; (try clear hb); (try clear hb2); (try clear hk); (try clear hi); have hcz108_0 : w107.cell? ⟨gb310, 0, none⟩ = some (.int .i64 0) := (qm_ BK310.out 0).trans rfl; have hcz108_1 : w107.cell? ⟨gb310, 1, none⟩ = some (.slice none 0 0) := (qm_ BK310.out 1).trans rfl; have hfz108_0 := blk_frozen BK310.out 0; have hfz108_1 := blk_frozen BK310.out 1))
  refine bodyPost_ret (results_ctt rfl _ _ gb310 24 #[.int .i64 0, .slice none 0 0] (0, 0) _ rfl (by (with_reducible repeat (first | refine qa_ ?_ _ | refine qd_ ?_ | refine qb_ ?_ _)); refine blk_put (cs := #[.int .i64 0, .slice none 0 0]) ?_ 1 _ rfl; (with_reducible repeat (first | refine qa_ ?_ _ | refine qd_ ?_ | refine qb_ ?_ _)); refine blk_put (cs := #[.int .i64 0, .slice none 0 0]) ?_ 0 _ rfl; (with_reducible repeat (first | refine qa_ ?_ _ | refine qd_ ?_ | refine qb_ ?_ _)); exact BK310.out) Try.underlying24 rfl (by kernel_rfl)) rfl ?_
  exact ⟨_, _, by first | rfl | (simp [errW_none, errW_some] <;> rfl) | (simp [*, errW_none, errW_some] <;> rfl), (by exact Kd.V_nil _ _ _ _ _), by first | exact Kd.S_nil _ _ _ _ _ | exact Kd.N_nil _ _ _ _ _ | exact Kd.V_nil _ _ _ _ _ | exact Kd.Q_nil _ _ _ _ _ | exact Kd.R_nil _ _ _ _ _, by repeat (first | (with_reducible first | exact HB.out | apply qj_ | apply qg_ | apply qi_ | refine qc_ ?_ GE309.out | refine qc_ ?_ GE310.out) | exact HB.out)⟩

end Go.Proofs.Ytcpkbgfemohlmaa.P
