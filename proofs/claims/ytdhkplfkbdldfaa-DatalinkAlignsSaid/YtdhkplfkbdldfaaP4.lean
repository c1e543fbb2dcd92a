-- By a program of this session (wip/tools/myprint.py over the kit's printer). Not trusted: Lean checks it.
import Derived.Test.YtdhkplfkbdldfaaP0
import Derived.Test.YtdhkplfkbdldfaaP3
namespace Go.Proofs.Ytdhkplfkbdldfaa.P
open Go.RowKit Go.Proofs.YtdhkplfkbdldfaaW.PrintWords Go.Proofs.YtdhkplfkbdldfaaW.PrintLast Go.Proofs.YtdhkplfkbdldfaaW.PrintMore
attribute [local go_sem] max2_int min2_int max_two min_two max_three min_three max_four min_four   -- for this text's walks alone
set_option linter.unusedVariables false
set_option linter.unusedSimpArgs false

/-! ### selfstablaw42_Raw_Link: function 10 -/
mutual
def selfstablaw42_Raw_Link.l0 : Nat → Int → Int → Int → Int → Int → Int → List Int → List Int → List Int → Int → Int → Int → Int → Int → List (S46) → Option (Int × Int × Int × Int × Int × (List (S46)) × List Int)
  | 0, _, _, _, _, _, _, _, _, _, _, _, _, _, _, _ => none
  | k + 1, x4, x129000, x129001, x129002, x129003, x129004, x129005, x129006, x129007, x132000, x132001, x132002, x132003, x132004, x132005 => if x4 < (x129005.length : Int) then (selfstablaw42_Raw_Link.j1 k x4 (decide (x4 < x132000)) x129000 x129001 x129002 x129003 x129004 x129005 x129006 x129007 x132000 x132001 x132002 x132003 x132004 x132005) else (selfstablaw42_Raw_Link.j1 k x4 false x129000 x129001 x129002 x129003 x129004 x129005 x129006 x129007 x132000 x132001 x132002 x132003 x132004 x132005)
def selfstablaw42_Raw_Link.j1 : Nat → Int → Bool → Int → Int → Int → Int → Int → List Int → List Int → List Int → Int → Int → Int → Int → Int → List (S46) → Option (Int × Int × Int × Int × Int × (List (S46)) × List Int)
  | 0, _, _, _, _, _, _, _, _, _, _, _, _, _, _, _, _ => none
  | k + 1, x4, x47, x129000, x129001, x129002, x129003, x129004, x129005, x129006, x129007, x132000, x132001, x132002, x132003, x132004, x132005 => if x47 = true then (if x4 < (x129006.length : Int) then (if 0 ≤ x4 then ((selfstabworld_Within.f (rd x129006 x4) 50).bind fun t137 => (if x4 < (x129005.length : Int) then ((selfstabworld_Within.f (rd x129005 x4) x132001).bind fun t139 => (if x132005.length < 8796093022208 then (selfstablaw42_Raw_Link.l0 k (wrap64 (x4 + 1)) x129000 x129001 x129002 x129003 x129004 x129005 x129006 x129007 x132000 x132001 x132002 x132003 x132004 (x132005 ++ [(⟨t139, wrap64 ((-1) - t137)⟩ : S46)])) else (none))) else (none))) else (none)) else (if 0 ≤ x4 then (if x4 < (x129005.length : Int) then ((selfstabworld_Within.f (rd x129005 x4) x132001).bind fun t144 => (if x132005.length < 8796093022208 then (selfstablaw42_Raw_Link.l0 k (wrap64 (x4 + 1)) x129000 x129001 x129002 x129003 x129004 x129005 x129006 x129007 x132000 x132001 x132002 x132003 x132004 (x132005 ++ [(⟨t144, (-1) - 0⟩ : S46)])) else (none))) else (none)) else (none))) else (selfstablaw42_Raw_Link.l1 k 0 x129000 x129001 x129002 x129003 x129004 x129005 x129006 x129007 x132000 x132001 x132002 x132003 x132004 x132005 ([] : List Int))
def selfstablaw42_Raw_Link.l1 : Nat → Int → Int → Int → Int → Int → Int → List Int → List Int → List Int → Int → Int → Int → Int → Int → List (S46) → List Int → Option (Int × Int × Int × Int × Int × (List (S46)) × List Int)
  | 0, _, _, _, _, _, _, _, _, _, _, _, _, _, _, _, _ => none
  | k + 1, x6, x129000, x129001, x129002, x129003, x129004, x129005, x129006, x129007, x132000, x132001, x132002, x132003, x132004, x132005, x132006 => if x6 < (x129007.length : Int) then (if x6 < x132000 then (if 0 ≤ x6 then ((selfstabworld_Within.f (rd x129007 x6) x132001).bind fun t149 => (if x132006.length < 17592186044416 then (selfstablaw42_Raw_Link.l1 k (wrap64 (x6 + 1)) x129000 x129001 x129002 x129003 x129004 x129005 x129006 x129007 x132000 x132001 x132002 x132003 x132004 x132005 (x132006 ++ [t149])) else (none))) else (none)) else (some (x132000, x132001, x132002, x132003, x132004, x132005, x132006))) else (some (x132000, x132001, x132002, x132003, x132004, x132005, x132006))
end
def selfstablaw42_Raw_Link.f (k : Nat) (a0_0 : Int) (a0_1 : Int) (a0_2 : Int) (a0_3 : Int) (a0_4 : Int) (l0_5 : List Int) (l0_6 : List Int) (l0_7 : List Int) : Option (Int × Int × Int × Int × Int × (List (S46)) × List Int) := (selfstabworld_Within.f a0_0 4).bind fun t130 => ((selfstabworld_Within.f a0_1 4).bind fun t132 => ((selfstabworld_Within.f a0_2 (wrap64 ((wrap64 ((wrap64 (2 * (wrap64 (1 + t130)))) + 2)) + t132))).bind fun t133 => ((selfstabworld_Within.f a0_4 (wrap64 ((wrap64 ((wrap64 (2 * (wrap64 (1 + t130)))) + 2)) + t132))).bind fun t134 => ((selfstabworld_Within.f a0_3 1000).bind fun t135 => (selfstablaw42_Raw_Link.l0 k 0 a0_0 a0_1 a0_2 a0_3 a0_4 l0_5 l0_6 l0_7 (wrap64 (1 + t130)) (wrap64 ((wrap64 ((wrap64 (2 * (wrap64 (1 + t130)))) + 2)) + t132)) t133 t135 t134 ([] : List (S46)))))))
theorem selfstablaw42_Raw_Link.mono_l : ∀ k, (∀ y0 y1 y2 y3 y4 y5 y6 y7 y8 y9 y10 y11 y12 y13 y14, LeO (selfstablaw42_Raw_Link.l0 k y0 y1 y2 y3 y4 y5 y6 y7 y8 y9 y10 y11 y12 y13 y14) (selfstablaw42_Raw_Link.l0 (k + 1) y0 y1 y2 y3 y4 y5 y6 y7 y8 y9 y10 y11 y12 y13 y14)) ∧ (∀ y0 y1 y2 y3 y4 y5 y6 y7 y8 y9 y10 y11 y12 y13 y14 y15, LeO (selfstablaw42_Raw_Link.j1 k y0 y1 y2 y3 y4 y5 y6 y7 y8 y9 y10 y11 y12 y13 y14 y15) (selfstablaw42_Raw_Link.j1 (k + 1) y0 y1 y2 y3 y4 y5 y6 y7 y8 y9 y10 y11 y12 y13 y14 y15)) ∧ (∀ y0 y1 y2 y3 y4 y5 y6 y7 y8 y9 y10 y11 y12 y13 y14 y15, LeO (selfstablaw42_Raw_Link.l1 k y0 y1 y2 y3 y4 y5 y6 y7 y8 y9 y10 y11 y12 y13 y14 y15) (selfstablaw42_Raw_Link.l1 (k + 1) y0 y1 y2 y3 y4 y5 y6 y7 y8 y9 y10 y11 y12 y13 y14 y15))
  | 0 => ⟨fun _ _ _ _ _ _ _ _ _ _ _ _ _ _ _ r h => by simp [selfstablaw42_Raw_Link.l0] at h, fun _ _ _ _ _ _ _ _ _ _ _ _ _ _ _ _ r h => by simp [selfstablaw42_Raw_Link.j1] at h, fun _ _ _ _ _ _ _ _ _ _ _ _ _ _ _ _ r h => by simp [selfstablaw42_Raw_Link.l1] at h⟩
  | k + 1 => by
    obtain ⟨ih0, ih1, ih2⟩ := selfstablaw42_Raw_Link.mono_l k
    refine ⟨?_, ?_, ?_⟩
    · intro y0 y1 y2 y3 y4 y5 y6 y7 y8 y9 y10 y11 y12 y13 y14
      unfold selfstablaw42_Raw_Link.l0
      repeat' first
      | (with_reducible exact ih0 _ _ _ _ _ _ _ _ _ _ _ _ _ _ _)
      | (with_reducible exact ih1 _ _ _ _ _ _ _ _ _ _ _ _ _ _ _ _)
      | (with_reducible exact ih2 _ _ _ _ _ _ _ _ _ _ _ _ _ _ _ _)
      | (with_reducible exact LeO.refl _)
      | (with_reducible exact LeO.none _)
      | (with_reducible refine LeO.ite ?_ ?_)
      | (with_reducible refine LeO.bind ?_ (fun _ => ?_))
      | exact ih0 _ _ _ _ _ _ _ _ _ _ _ _ _ _ _
      | exact ih1 _ _ _ _ _ _ _ _ _ _ _ _ _ _ _ _
      | exact ih2 _ _ _ _ _ _ _ _ _ _ _ _ _ _ _ _
      | exact LeO.none _
      | refine LeO.ite ?_ ?_
      | refine LeO.bind ?_ (fun _ => ?_)
    · intro y0 y1 y2 y3 y4 y5 y6 y7 y8 y9 y10 y11 y12 y13 y14 y15
      unfold selfstablaw42_Raw_Link.j1
      repeat' first
      | (with_reducible exact ih0 _ _ _ _ _ _ _ _ _ _ _ _ _ _ _)
      | (with_reducible exact ih1 _ _ _ _ _ _ _ _ _ _ _ _ _ _ _ _)
      | (with_reducible exact ih2 _ _ _ _ _ _ _ _ _ _ _ _ _ _ _ _)
      | (with_reducible exact LeO.refl _)
      | (with_reducible exact LeO.none _)
      | (with_reducible refine LeO.ite ?_ ?_)
      | (with_reducible refine LeO.bind ?_ (fun _ => ?_))
      | exact ih0 _ _ _ _ _ _ _ _ _ _ _ _ _ _ _
      | exact ih1 _ _ _ _ _ _ _ _ _ _ _ _ _ _ _ _
      | exact ih2 _ _ _ _ _ _ _ _ _ _ _ _ _ _ _ _
      | exact LeO.none _
      | refine LeO.ite ?_ ?_
      | refine LeO.bind ?_ (fun _ => ?_)
    · intro y0 y1 y2 y3 y4 y5 y6 y7 y8 y9 y10 y11 y12 y13 y14 y15
      unfold selfstablaw42_Raw_Link.l1
      repeat' first
      | (with_reducible exact ih0 _ _ _ _ _ _ _ _ _ _ _ _ _ _ _)
      | (with_reducible exact ih1 _ _ _ _ _ _ _ _ _ _ _ _ _ _ _ _)
      | (with_reducible exact ih2 _ _ _ _ _ _ _ _ _ _ _ _ _ _ _ _)
      | (with_reducible exact LeO.refl _)
      | (with_reducible exact LeO.none _)
      | (with_reducible refine LeO.ite ?_ ?_)
      | (with_reducible refine LeO.bind ?_ (fun _ => ?_))
      | exact ih0 _ _ _ _ _ _ _ _ _ _ _ _ _ _ _
      | exact ih1 _ _ _ _ _ _ _ _ _ _ _ _ _ _ _ _
      | exact ih2 _ _ _ _ _ _ _ _ _ _ _ _ _ _ _ _
      | exact LeO.none _
      | refine LeO.ite ?_ ?_
      | refine LeO.bind ?_ (fun _ => ?_)
theorem selfstablaw42_Raw_Link.mono : ∀ a0 a1 a2 a3 a4 a5 a6 a7 k, LeO (selfstablaw42_Raw_Link.f k a0 a1 a2 a3 a4 a5 a6 a7) (selfstablaw42_Raw_Link.f (k + 1) a0 a1 a2 a3 a4 a5 a6 a7) := by
  intro a0 a1 a2 a3 a4 a5 a6 a7 k
  obtain ⟨ih0, ih1, ih2⟩ := selfstablaw42_Raw_Link.mono_l k
  unfold selfstablaw42_Raw_Link.f
  repeat' first
      | (with_reducible exact ih0 _ _ _ _ _ _ _ _ _ _ _ _ _ _ _)
      | (with_reducible exact ih1 _ _ _ _ _ _ _ _ _ _ _ _ _ _ _ _)
      | (with_reducible exact ih2 _ _ _ _ _ _ _ _ _ _ _ _ _ _ _ _)
      | (with_reducible exact LeO.refl _)
      | (with_reducible exact LeO.none _)
      | (with_reducible refine LeO.ite ?_ ?_)
      | (with_reducible refine LeO.bind ?_ (fun _ => ?_))
      | exact ih0 _ _ _ _ _ _ _ _ _ _ _ _ _ _ _
      | exact ih1 _ _ _ _ _ _ _ _ _ _ _ _ _ _ _ _
      | exact ih2 _ _ _ _ _ _ _ _ _ _ _ _ _ _ _ _
      | exact LeO.none _
      | refine LeO.ite ?_ ?_
      | refine LeO.bind ?_ (fun _ => ?_)
def selfstablaw42_Raw_Link.T2 : Bool × List (List Nat × List Nat) := (true, [([], []), ([0], [0]), ([1], [1]), ([2], [2]), ([], []), ([4], [4]), ([5], [5]), ([3, 6], [3, 6]), ([0, 1, 2, 3, 4, 5, 6, 7], []), ([8, 7, 6, 0, 1, 2, 3, 4, 5, 6, 7], [7, 8])])
def selfstablaw42_Raw_Link.B2 : List Nat := [0, 1, 3, 7, 0, 16, 48, 127, 255, 511]
theorem selfstablaw42_Raw_Link.tab2 : rtab .any (opsOf Try.f10 2) = selfstablaw42_Raw_Link.T2 := by kernel_rfl
theorem selfstablaw42_Raw_Link.bits2 : waitsOk selfstablaw42_Raw_Link.T2.2 selfstablaw42_Raw_Link.B2 = true := by kernel_rfl
def selfstablaw42_Raw_Link.T3 : Bool × List (List Nat × List Nat) := (true, [([], []), ([0], [0]), ([], []), ([2], [2]), ([1, 3], [1, 3]), ([], []), ([5], [5]), ([], []), ([7], [7]), ([6, 8, 4], [6, 8]), ([], []), ([10], [10]), ([11, 9], [11]), ([0, 1, 2, 3, 4, 7, 8], []), ([13, 4, 12, 0, 1, 2, 3, 4, 7, 8], [4, 13]), ([0, 1, 2, 3, 4, 5, 6, 7, 8, 9, 13, 14], []), ([15, 9, 14, 0, 1, 2, 3, 4, 5, 6, 7, 8, 9, 13, 14], [9, 15]), ([0, 1, 2, 3, 4, 5, 6, 7, 8, 9, 10, 11, 12, 13, 14, 15, 16], []), ([17, 12, 16, 0, 1, 2, 3, 4, 5, 6, 7, 8, 9, 10, 11, 12, 13, 14, 15, 16], [12, 17])])
def selfstablaw42_Raw_Link.B3 : List Nat := [0, 1, 0, 4, 15, 0, 32, 0, 128, 511, 0, 1024, 4095, 415, 16383, 32767, 65535, 131071, 262143]
theorem selfstablaw42_Raw_Link.tab3 : rtab .any (opsOf Try.f10 3) = selfstablaw42_Raw_Link.T3 := by kernel_rfl
theorem selfstablaw42_Raw_Link.bits3 : waitsOk selfstablaw42_Raw_Link.T3.2 selfstablaw42_Raw_Link.B3 = true := by kernel_rfl
def selfstablaw42_Raw_Link.T10 : Bool × List (List Nat × List Nat) := (true, [([], []), ([0], [0]), ([], []), ([2], [2]), ([], []), ([3, 4], [3, 4]), ([5], [5]), ([], []), ([7], [7]), ([6, 8], [6, 8]), ([], []), ([10], [10]), ([9, 11], [9, 11]), ([12], [12]), ([1, 13, 9], [1, 13]), ([0, 1, 2, 3, 4, 5, 6, 7, 8, 9, 10, 11, 12, 13, 14], []), ([15, 14, 14, 0, 1, 2, 3, 4, 5, 6, 7, 8, 9, 10, 11, 12, 13, 14], [14, 15])])
def selfstablaw42_Raw_Link.B10 : List Nat := [0, 1, 0, 4, 0, 28, 60, 0, 128, 508, 0, 1024, 4092, 8188, 16383, 32767, 65535]
theorem selfstablaw42_Raw_Link.tab10 : rtab .any (opsOf Try.f10 10) = selfstablaw42_Raw_Link.T10 := by kernel_rfl
theorem selfstablaw42_Raw_Link.bits10 : waitsOk selfstablaw42_Raw_Link.T10.2 selfstablaw42_Raw_Link.B10 = true := by kernel_rfl
def selfstablaw42_Raw_Link.T14 : Bool × List (List Nat × List Nat) := (true, [([], []), ([0], [0]), ([], []), ([2], [2]), ([], []), ([3, 4], [3, 4]), ([5], [5]), ([], []), ([7], [7]), ([6, 8], [6, 8]), ([9], [9]), ([1, 10, 9], [1, 10]), ([0, 1, 2, 3, 4, 5, 6, 7, 8, 9, 10, 11], []), ([12, 11, 11, 0, 1, 2, 3, 4, 5, 6, 7, 8, 9, 10, 11], [11, 12])])
def selfstablaw42_Raw_Link.B14 : List Nat := [0, 1, 0, 4, 0, 28, 60, 0, 128, 508, 1020, 2047, 4095, 8191]
theorem selfstablaw42_Raw_Link.tab14 : rtab .any (opsOf Try.f10 14) = selfstablaw42_Raw_Link.T14 := by kernel_rfl
theorem selfstablaw42_Raw_Link.bits14 : waitsOk selfstablaw42_Raw_Link.T14.2 selfstablaw42_Raw_Link.B14 = true := by kernel_rfl
set_option maxHeartbeats 8000000 in
set_option maxRecDepth 100000 in
theorem selfstablaw42_Raw_Link.calls (k : Nat) (a0_0 : Int) (a0_1 : Int) (a0_2 : Int) (a0_3 : Int) (a0_4 : Int) (A0_5 : Option Addr) (c0_5 : Nat) (l0_5 : List Int) (A0_6 : Option Addr) (c0_6 : Nat) (l0_6 : List Int) (A0_7 : Option Addr) (c0_7 : Nat) (l0_7 : List Int) (r1 : Int) (r2 : Int) (r3 : Int) (r4 : Int) (r5 : Int) (r6 : List (S46)) (r7 : List Int) (w : World) (hr0_5 : Kd.C (Kd.int .i64) w A0_5 l0_5.length l0_5) (hc0_5 : l0_5.length ≤ c0_5) (hr0_6 : Kd.C (Kd.int .i64) w A0_6 l0_6.length l0_6) (hc0_6 : l0_6.length ≤ c0_6) (hr0_7 : Kd.C (Kd.int .i64) w A0_7 l0_7.length l0_7) (hc0_7 : l0_7.length ≤ c0_7) (h : selfstablaw42_Raw_Link.f k a0_0 a0_1 a0_2 a0_3 a0_4 l0_5 l0_6 l0_7 = some (r1, r2, r3, r4, r5, r6, r7)) :
    Calls Try.prog 10 #[.agg #[.int .i64 a0_0, .int .i64 a0_1, .int .i64 a0_2, .int .i64 a0_3, .int .i64 a0_4, .slice A0_5 l0_5.length c0_5, .slice A0_6 l0_6.length c0_6, .slice A0_7 l0_7.length c0_7]] w fun e w' => ∃ v5_ v6_ : Value, e = .returned (.agg #[.int .i64 r1, .int .i64 r2, .int .i64 r3, .int .i64 r4, .int .i64 r5, v5_, v6_]) ∧ Kd.R k46 46 w' w.heap.size (fun _ => True) v5_ r6 ∧ Kd.R (Kd.int .i64) 3 w' w.heap.size (fun _ => True) v6_ r7 ∧ Below w.heap.size w w' := by
  have hu24 := Try.underlying24
  have hu29 := Try.underlying29
  have hu46 := Try.underlying46
  have HR0_5 := Aside0.mk hr0_5
  have HC0_5 := Aside0.mk hc0_5
  clear hr0_5 hc0_5
  have HR0_6 := Aside0.mk hr0_6
  have HC0_6 := Aside0.mk hc0_6
  clear hr0_6 hc0_6
  have HR0_7 := Aside0.mk hr0_7
  have HC0_7 := Aside0.mk hc0_7
  clear hr0_7 hc0_7
  have HB := Aside0.mk (Below.refl w.heap.size w)
  have H : ((selfstabworld_Within.f a0_0 4).bind fun t130 => ((selfstabworld_Within.f a0_1 4).bind fun t132 => ((selfstabworld_Within.f a0_2 (wrap64 ((wrap64 ((wrap64 (2 * (wrap64 (1 + t130)))) + 2)) + t132))).bind fun t133 => ((selfstabworld_Within.f a0_4 (wrap64 ((wrap64 ((wrap64 (2 * (wrap64 (1 + t130)))) + 2)) + t132))).bind fun t134 => ((selfstabworld_Within.f a0_3 1000).bind fun t135 => (selfstablaw42_Raw_Link.l0 k 0 a0_0 a0_1 a0_2 a0_3 a0_4 l0_5 l0_6 l0_7 (wrap64 (1 + t130)) (wrap64 ((wrap64 ((wrap64 (2 * (wrap64 (1 + t130)))) + 2)) + t132)) t133 t135 t134 ([] : List (S46)))))))) = some (r1, r2, r3, r4, r5, r6, r7) := h
  clear h
  replace H := Option.bind_eq_some_iff.mp H
  obtain ⟨t130, A20, H⟩ := H
  replace H : ((selfstabworld_Within.f a0_1 4).bind fun t132 => ((selfstabworld_Within.f a0_2 (wrap64 ((wrap64 ((wrap64 (2 * (wrap64 (1 + t130)))) + 2)) + t132))).bind fun t133 => ((selfstabworld_Within.f a0_4 (wrap64 ((wrap64 ((wrap64 (2 * (wrap64 (1 + t130)))) + 2)) + t132))).bind fun t134 => ((selfstabworld_Within.f a0_3 1000).bind fun t135 => (selfstablaw42_Raw_Link.l0 k 0 a0_0 a0_1 a0_2 a0_3 a0_4 l0_5 l0_6 l0_7 (wrap64 (1 + t130)) (wrap64 ((wrap64 ((wrap64 (2 * (wrap64 (1 + t130)))) + 2)) + t132)) t133 t135 t134 ([] : List (S46))))))) = some (r1, r2, r3, r4, r5, r6, r7) := H
  have A2 := Aside0.mk A20
  clear A20
  replace H := Option.bind_eq_some_iff.mp H
  obtain ⟨t132, A30, H⟩ := H
  replace H : ((selfstabworld_Within.f a0_2 (wrap64 ((wrap64 ((wrap64 (2 * (wrap64 (1 + t130)))) + 2)) + t132))).bind fun t133 => ((selfstabworld_Within.f a0_4 (wrap64 ((wrap64 ((wrap64 (2 * (wrap64 (1 + t130)))) + 2)) + t132))).bind fun t134 => ((selfstabworld_Within.f a0_3 1000).bind fun t135 => (selfstablaw42_Raw_Link.l0 k 0 a0_0 a0_1 a0_2 a0_3 a0_4 l0_5 l0_6 l0_7 (wrap64 (1 + t130)) (wrap64 ((wrap64 ((wrap64 (2 * (wrap64 (1 + t130)))) + 2)) + t132)) t133 t135 t134 ([] : List (S46)))))) = some (r1, r2, r3, r4, r5, r6, r7) := H
  have A3 := Aside0.mk A30
  clear A30
  replace H := Option.bind_eq_some_iff.mp H
  obtain ⟨t133, A40, H⟩ := H
  replace H : ((selfstabworld_Within.f a0_4 (wrap64 ((wrap64 ((wrap64 (2 * (wrap64 (1 + t130)))) + 2)) + t132))).bind fun t134 => ((selfstabworld_Within.f a0_3 1000).bind fun t135 => (selfstablaw42_Raw_Link.l0 k 0 a0_0 a0_1 a0_2 a0_3 a0_4 l0_5 l0_6 l0_7 (wrap64 (1 + t130)) (wrap64 ((wrap64 ((wrap64 (2 * (wrap64 (1 + t130)))) + 2)) + t132)) t133 t135 t134 ([] : List (S46))))) = some (r1, r2, r3, r4, r5, r6, r7) := H
  have A4 := Aside0.mk A40
  clear A40
  replace H := Option.bind_eq_some_iff.mp H
  obtain ⟨t134, A50, H⟩ := H
  replace H : ((selfstabworld_Within.f a0_3 1000).bind fun t135 => (selfstablaw42_Raw_Link.l0 k 0 a0_0 a0_1 a0_2 a0_3 a0_4 l0_5 l0_6 l0_7 (wrap64 (1 + t130)) (wrap64 ((wrap64 ((wrap64 (2 * (wrap64 (1 + t130)))) + 2)) + t132)) t133 t135 t134 ([] : List (S46)))) = some (r1, r2, r3, r4, r5, r6, r7) := H
  have A5 := Aside0.mk A50
  clear A50
  replace H := Option.bind_eq_some_iff.mp H
  obtain ⟨t135, A60, H⟩ := H
  replace H : (selfstablaw42_Raw_Link.l0 k 0 a0_0 a0_1 a0_2 a0_3 a0_4 l0_5 l0_6 l0_7 (wrap64 (1 + t130)) (wrap64 ((wrap64 ((wrap64 (2 * (wrap64 (1 + t130)))) + 2)) + t132)) t133 t135 t134 ([] : List (S46))) = some (r1, r2, r3, r4, r5, r6, r7) := H
  have A6 := Aside0.mk A60
  clear A60
  have H' := Aside0.mk H
  clear H
  go_enter Try.func10, Try.ntmps10
  try go_wp2_with (first | ((with_reducible refine gate_dst (N := 1) rfl ?_); refine box_event ?hg (N := 1) ?hd (cs := #[.int .i64 a0_0, .int .i64 a0_1, .int .i64 a0_2, .int .i64 a0_3, .int .i64 a0_4, .slice A0_5 l0_5.length c0_5, .slice A0_6 l0_6.length c0_6, .slice A0_7 l0_7.length c0_7]) (t := 24) ?hr ?_; (case hd => rfl); (case hg => rfl); (case hr => first | (go_simp; done) | (go_simp; rfl)); intro gb128 hg w7 hbox hb; have n0_ := Aside0.mk (below_step (by repeat (first | (with_reducible first | exact HB.out | apply below_alloc | apply pw_below_drewN | apply below_drew1) | exact HB.out)) hb); have n1_ := Aside0.mk (hbox); have n2_ := Aside0.mk ((by rw [hg]; exact (below_size (by repeat (first | (with_reducible first | exact HB.out | apply below_alloc | apply pw_below_drewN | apply below_drew1) | exact HB.out))) : w.heap.size ≤ gb128)); have n3_ := Aside0.mk ((by rw [hg]; exact (below_size (by repeat (first | (with_reducible first | exact HB.out | apply below_alloc | apply pw_below_drewN | apply below_drew1) | exact HB.out))) : w.heap.size ≤ gb128)); clear HB; have HB := n0_; have BK128 := n1_; have GW128 := n2_; have GE128 := n3_; clear n0_ n1_ n2_ n3_; clear hb hbox hg) | ((with_reducible refine gate_dst (N := 2) rfl ?_); refine box_event ?hg (N := 2) ?hd (cs := #[.int .i64 0, .int .i64 0, .int .i64 0, .int .i64 0, .int .i64 0, .slice none 0 0, .slice none 0 0]) (t := 29) ?hr ?_; (case hd => rfl); (case hg => rfl); (case hr => first | (go_simp; done) | (go_simp; rfl)); intro gb129 hg w8 hbox hb; have n0_ := Aside0.mk (blk_below (g := gb128) (o := .cells #[.int .i64 a0_0, .int .i64 a0_1, .int .i64 a0_2, .int .i64 a0_3, .int .i64 a0_4, .slice A0_5 l0_5.length c0_5, .slice A0_6 l0_6.length c0_6, .slice A0_7 l0_7.length c0_7] 24 (0, 0)) (by (with_reducible repeat (first | refine blk_drewN ?_ _ | refine blk_drew ?_ | refine blk_alloc ?_ _)); exact BK128.out) hb); have n1_ := Aside0.mk (below_step (by repeat (first | (with_reducible first | exact HB.out | apply below_alloc | apply pw_below_drewN | apply below_drew1 | refine below_set ?_ GE128.out) | exact HB.out)) hb); have n2_ := Aside0.mk (hbox); have n3_ := Aside0.mk ((by rw [hg]; exact (below_size (by repeat (first | (with_reducible first | exact HB.out | apply below_alloc | apply pw_below_drewN | apply below_drew1 | refine below_set ?_ GE128.out) | exact HB.out))) : w.heap.size ≤ gb129)); have n4_ := Aside0.mk ((by rw [hg]; exact (below_size (by repeat (first | (with_reducible first | exact HB.out | apply below_alloc | apply pw_below_drewN | apply below_drew1 | refine below_set ?_ GE128.out) | exact HB.out))) : w.heap.size ≤ gb129)); have n5_ := Aside0.mk ((by rw [hg]; exact Nat.ne_of_lt (blk_lt (g := gb128) (o := .cells #[.int .i64 a0_0, .int .i64 a0_1, .int .i64 a0_2, .int .i64 a0_3, .int .i64 a0_4, .slice A0_5 l0_5.length c0_5, .slice A0_6 l0_6.length c0_6, .slice A0_7 l0_7.length c0_7] 24 (0, 0)) (by (with_reducible repeat (first | refine blk_drewN ?_ _ | refine blk_drew ?_ | refine blk_alloc ?_ _)); exact BK128.out)) : gb128 ≠ gb129)); have n6_ := Aside0.mk ((by rw [hg]; exact Nat.ne_of_gt (blk_lt (g := gb128) (o := .cells #[.int .i64 a0_0, .int .i64 a0_1, .int .i64 a0_2, .int .i64 a0_3, .int .i64 a0_4, .slice A0_5 l0_5.length c0_5, .slice A0_6 l0_6.length c0_6, .slice A0_7 l0_7.length c0_7] 24 (0, 0)) (by (with_reducible repeat (first | refine blk_drewN ?_ _ | refine blk_drew ?_ | refine blk_alloc ?_ _)); exact BK128.out)) : gb129 ≠ gb128)); clear BK128; clear HB; have BK128 := n0_; have HB := n1_; have BK129 := n2_; have GW129 := n3_; have GE129 := n4_; have NB128_129 := n5_; have NB129_128 := n6_; clear n0_ n1_ n2_ n3_ n4_ n5_ n6_; clear hb hbox hg; have hnb9 := NB128_129.out; have hnc9 := NB129_128.out; have hcz10_0 : w8.cell? ⟨gb128, 0, none⟩ = some (.int .i64 a0_0) := (blk_cell BK128.out 0).trans rfl; have hcz10_1 : w8.cell? ⟨gb128, 1, none⟩ = some (.int .i64 a0_1) := (blk_cell BK128.out 1).trans rfl; have hcz10_2 : w8.cell? ⟨gb128, 2, none⟩ = some (.int .i64 a0_2) := (blk_cell BK128.out 2).trans rfl; have hcz10_3 : w8.cell? ⟨gb128, 3, none⟩ = some (.int .i64 a0_3) := (blk_cell BK128.out 3).trans rfl; have hcz10_4 : w8.cell? ⟨gb128, 4, none⟩ = some (.int .i64 a0_4) := (blk_cell BK128.out 4).trans rfl; have hcz10_5 : w8.cell? ⟨gb128, 5, none⟩ = some (.slice A0_5 l0_5.length c0_5) := (blk_cell BK128.out 5).trans rfl; have hcz10_6 : w8.cell? ⟨gb128, 6, none⟩ = some (.slice A0_6 l0_6.length c0_6) := (blk_cell BK128.out 6).trans rfl; have hcz10_7 : w8.cell? ⟨gb128, 7, none⟩ = some (.slice A0_7 l0_7.length c0_7) := (blk_cell BK128.out 7).trans rfl; have hfz10_0 := blk_frozen BK128.out 0; have hfz10_1 := blk_frozen BK128.out 1; have hfz10_2 := blk_frozen BK128.out 2; have hfz10_3 := blk_frozen BK128.out 3; have hfz10_4 := blk_frozen BK128.out 4; have hfz10_5 := blk_frozen BK128.out 5; have hfz10_6 := blk_frozen BK128.out 6; have hfz10_7 := blk_frozen BK128.out 7) | ((with_reducible refine gate_callee (f := 17) rfl ?_); refine goesL_ (some 9) rfl rfl Try.func17 (by kernel_rfl) rfl #[.int .i64 a0_0, .int .i64 4] rfl (by (try simp only [List.map_toArray, List.map_cons, List.map_nil]); first | done | rfl | (simp only [List.length_drop, List.length_take]; rfl)) ?_; (with_reducible refine (selfstabworld_Within.calls a0_0 4 t130 _ A2.out).mono ?_); rintro e w' ⟨rfl, ⟨nd, rfl⟩⟩; refine ⟨_, rfl, ?_⟩; (try (rw [drewN_self w8]; generalize hq_ : World.drewN w8 _ = w8; have n0_ : Aside0 (w8.heap[gb128]? = some (.cells #[.int .i64 a0_0, .int .i64 a0_1, .int .i64 a0_2, .int .i64 a0_3, .int .i64 a0_4, .slice A0_5 l0_5.length c0_5, .slice A0_6 l0_6.length c0_6, .slice A0_7 l0_7.length c0_7] 24 (0, 0))) := ⟨by rw [← hq_]; exact (by (with_reducible repeat (first | refine blk_drewN ?_ _ | refine blk_drew ?_ | refine blk_alloc ?_ _)); exact BK128.out)⟩; have n1_ : Aside0 (w8.heap[gb129]? = some (.cells #[.int .i64 0, .int .i64 0, .int .i64 0, .int .i64 0, .int .i64 0, .slice none 0 0, .slice none 0 0] 29 (0, 0))) := ⟨by rw [← hq_]; exact (by (with_reducible repeat (first | refine blk_drewN ?_ _ | refine blk_drew ?_ | refine blk_alloc ?_ _)); exact BK129.out)⟩; have n2_ : Aside0 (Below w.heap.size w w8) := ⟨by rw [← hq_]; exact (by repeat (first | (with_reducible first | exact HB.out | apply below_alloc | apply pw_below_drewN | apply below_drew1 | refine below_set ?_ GE128.out | refine below_set ?_ GE129.out) | exact HB.out))⟩; clear BK128 BK129 HB hq_; have BK128 := n0_; have BK129 := n1_; have HB := n2_; clear n0_ n1_ n2_))) | ((with_reducible refine gate_dst (N := 3) rfl ?_); refine box_event ?hg (N := 3) ?hd (cs := #[.int .i64 0, .int .i64 0, .int .i64 0, .int .i64 0, .int .i64 0, .slice none 0 0, .slice none 0 0]) (t := 29) ?hr ?_; (case hd => rfl); (case hg => rfl); (case hr => first | (go_simp; done) | (go_simp; rfl)); intro gb131 hg w11 hbox hb; have n0_ := Aside0.mk (blk_below (g := gb128) (o := .cells #[.int .i64 a0_0, .int .i64 a0_1, .int .i64 a0_2, .int .i64 a0_3, .int .i64 a0_4, .slice A0_5 l0_5.length c0_5, .slice A0_6 l0_6.length c0_6, .slice A0_7 l0_7.length c0_7] 24 (0, 0)) (by (with_reducible repeat (first | refine blk_drewN ?_ _ | refine blk_drew ?_ | refine blk_alloc ?_ _)); exact BK128.out) hb); have n1_ := Aside0.mk (blk_below (g := gb129) (o := .cells #[.int .i64 0, .int .i64 0, .int .i64 0, .int .i64 0, .int .i64 0, .slice none 0 0, .slice none 0 0] 29 (0, 0)) (by (with_reducible repeat (first | refine blk_drewN ?_ _ | refine blk_drew ?_ | refine blk_alloc ?_ _)); exact BK129.out) hb); have n2_ := Aside0.mk (below_step (by repeat (first | (with_reducible first | exact HB.out | apply below_alloc | apply pw_below_drewN | apply below_drew1 | refine below_set ?_ GE128.out | refine below_set ?_ GE129.out) | exact HB.out)) hb); have n3_ := Aside0.mk (hbox); have n4_ := Aside0.mk ((by rw [hg]; exact (below_size (by repeat (first | (with_reducible first | exact HB.out | apply below_alloc | apply pw_below_drewN | apply below_drew1 | refine below_set ?_ GE128.out | refine below_set ?_ GE129.out) | exact HB.out))) : w.heap.size ≤ gb131)); have n5_ := Aside0.mk ((by rw [hg]; exact (below_size (by repeat (first | (with_reducible first | exact HB.out | apply below_alloc | apply pw_below_drewN | apply below_drew1 | refine below_set ?_ GE128.out | refine below_set ?_ GE129.out) | exact HB.out))) : w.heap.size ≤ gb131)); have n6_ := Aside0.mk ((by rw [hg]; exact Nat.ne_of_lt (blk_lt (g := gb128) (o := .cells #[.int .i64 a0_0, .int .i64 a0_1, .int .i64 a0_2, .int .i64 a0_3, .int .i64 a0_4, .slice A0_5 l0_5.length c0_5, .slice A0_6 l0_6.length c0_6, .slice A0_7 l0_7.length c0_7] 24 (0, 0)) (by (with_reducible repeat (first | refine blk_drewN ?_ _ | refine blk_drew ?_ | refine blk_alloc ?_ _)); exact BK128.out)) : gb128 ≠ gb131)); have n7_ := Aside0.mk ((by rw [hg]; exact Nat.ne_of_gt (blk_lt (g := gb128) (o := .cells #[.int .i64 a0_0, .int .i64 a0_1, .int .i64 a0_2, .int .i64 a0_3, .int .i64 a0_4, .slice A0_5 l0_5.length c0_5, .slice A0_6 l0_6.length c0_6, .slice A0_7 l0_7.length c0_7] 24 (0, 0)) (by (with_reducible repeat (first | refine blk_drewN ?_ _ | refine blk_drew ?_ | refine blk_alloc ?_ _)); exact BK128.out)) : gb131 ≠ gb128)); have n8_ := Aside0.mk ((by rw [hg]; exact Nat.ne_of_lt (blk_lt (g := gb129) (o := .cells #[.int .i64 0, .int .i64 0, .int .i64 0, .int .i64 0, .int .i64 0, .slice none 0 0, .slice none 0 0] 29 (0, 0)) (by (with_reducible repeat (first | refine blk_drewN ?_ _ | refine blk_drew ?_ | refine blk_alloc ?_ _)); exact BK129.out)) : gb129 ≠ gb131)); have n9_ := Aside0.mk ((by rw [hg]; exact Nat.ne_of_gt (blk_lt (g := gb129) (o := .cells #[.int .i64 0, .int .i64 0, .int .i64 0, .int .i64 0, .int .i64 0, .slice none 0 0, .slice none 0 0] 29 (0, 0)) (by (with_reducible repeat (first | refine blk_drewN ?_ _ | refine blk_drew ?_ | refine blk_alloc ?_ _)); exact BK129.out)) : gb131 ≠ gb129)); clear BK128; clear BK129; clear HB; have BK128 := n0_; have BK129 := n1_; have HB := n2_; have BK131 := n3_; have GW131 := n4_; have GE131 := n5_; have NB128_131 := n6_; have NB131_128 := n7_; have NB129_131 := n8_; have NB131_129 := n9_; clear n0_ n1_ n2_ n3_ n4_ n5_ n6_ n7_ n8_ n9_; clear hb hbox hg; have hnb12 := NB131_128.out; have hnc12 := NB128_131.out; have hnb13 := NB131_129.out; have hnc13 := NB129_131.out; have hcz14_0 : w11.cell? ⟨gb131, 0, none⟩ = some (.int .i64 0) := (blk_cell BK131.out 0).trans rfl; have hcz14_1 : w11.cell? ⟨gb131, 1, none⟩ = some (.int .i64 0) := (blk_cell BK131.out 1).trans rfl; have hcz14_2 : w11.cell? ⟨gb131, 2, none⟩ = some (.int .i64 0) := (blk_cell BK131.out 2).trans rfl; have hcz14_3 : w11.cell? ⟨gb131, 3, none⟩ = some (.int .i64 0) := (blk_cell BK131.out 3).trans rfl; have hcz14_4 : w11.cell? ⟨gb131, 4, none⟩ = some (.int .i64 0) := (blk_cell BK131.out 4).trans rfl; have hcz14_5 : w11.cell? ⟨gb131, 5, none⟩ = some (.slice none 0 0) := (blk_cell BK131.out 5).trans rfl; have hcz14_6 : w11.cell? ⟨gb131, 6, none⟩ = some (.slice none 0 0) := (blk_cell BK131.out 6).trans rfl; have hfz14_0 := blk_frozen BK131.out 0; have hfz14_1 := blk_frozen BK131.out 1; have hfz14_2 := blk_frozen BK131.out 2; have hfz14_3 := blk_frozen BK131.out 3; have hfz14_4 := blk_frozen BK131.out 4; have hfz14_5 := blk_frozen BK131.out 5; have hfz14_6 := blk_frozen BK131.out 6))
  have n0_ : Aside0 ((((((((w11.setCell ⟨gb131, 0, none⟩ (.int .i64 (wrap64 (1 + t130)))).setCell ⟨gb131, 1, none⟩ (.int .i64 0)).setCell ⟨gb131, 2, none⟩ (.int .i64 0)).setCell ⟨gb131, 3, none⟩ (.int .i64 0)).setCell ⟨gb131, 4, none⟩ (.int .i64 0)).setCell ⟨gb131, 5, none⟩ (.slice none 0 0)).setCell ⟨gb131, 6, none⟩ (.slice none 0 0)).heap[gb128]? = some (.cells #[.int .i64 a0_0, .int .i64 a0_1, .int .i64 a0_2, .int .i64 a0_3, .int .i64 a0_4, .slice A0_5 l0_5.length c0_5, .slice A0_6 l0_6.length c0_6, .slice A0_7 l0_7.length c0_7] 24 (0, 0))) := ⟨by (with_reducible repeat (first | refine blk_drewN ?_ _ | refine blk_drew ?_ | refine blk_alloc ?_ _)); refine blk_far ?_ NB128_131.out _; (with_reducible repeat (first | refine blk_drewN ?_ _ | refine blk_drew ?_ | refine blk_alloc ?_ _)); refine blk_far ?_ NB128_131.out _; (with_reducible repeat (first | refine blk_drewN ?_ _ | refine blk_drew ?_ | refine blk_alloc ?_ _)); refine blk_far ?_ NB128_131.out _; (with_reducible repeat (first | refine blk_drewN ?_ _ | refine blk_drew ?_ | refine blk_alloc ?_ _)); refine blk_far ?_ NB128_131.out _; (with_reducible repeat (first | refine blk_drewN ?_ _ | refine blk_drew ?_ | refine blk_alloc ?_ _)); refine blk_far ?_ NB128_131.out _; (with_reducible repeat (first | refine blk_drewN ?_ _ | refine blk_drew ?_ | refine blk_alloc ?_ _)); refine blk_far ?_ NB128_131.out _; (with_reducible repeat (first | refine blk_drewN ?_ _ | refine blk_drew ?_ | refine blk_alloc ?_ _)); refine blk_far ?_ NB128_131.out _; (with_reducible repeat (first | refine blk_drewN ?_ _ | refine blk_drew ?_ | refine blk_alloc ?_ _)); exact BK128.out⟩
  have n1_ : Aside0 ((((((((w11.setCell ⟨gb131, 0, none⟩ (.int .i64 (wrap64 (1 + t130)))).setCell ⟨gb131, 1, none⟩ (.int .i64 0)).setCell ⟨gb131, 2, none⟩ (.int .i64 0)).setCell ⟨gb131, 3, none⟩ (.int .i64 0)).setCell ⟨gb131, 4, none⟩ (.int .i64 0)).setCell ⟨gb131, 5, none⟩ (.slice none 0 0)).setCell ⟨gb131, 6, none⟩ (.slice none 0 0)).heap[gb129]? = some (.cells #[.int .i64 0, .int .i64 0, .int .i64 0, .int .i64 0, .int .i64 0, .slice none 0 0, .slice none 0 0] 29 (0, 0))) := ⟨by (with_reducible repeat (first | refine blk_drewN ?_ _ | refine blk_drew ?_ | refine blk_alloc ?_ _)); refine blk_far ?_ NB129_131.out _; (with_reducible repeat (first | refine blk_drewN ?_ _ | refine blk_drew ?_ | refine blk_alloc ?_ _)); refine blk_far ?_ NB129_131.out _; (with_reducible repeat (first | refine blk_drewN ?_ _ | refine blk_drew ?_ | refine blk_alloc ?_ _)); refine blk_far ?_ NB129_131.out _; (with_reducible repeat (first | refine blk_drewN ?_ _ | refine blk_drew ?_ | refine blk_alloc ?_ _)); refine blk_far ?_ NB129_131.out _; (with_reducible repeat (first | refine blk_drewN ?_ _ | refine blk_drew ?_ | refine blk_alloc ?_ _)); refine blk_far ?_ NB129_131.out _; (with_reducible repeat (first | refine blk_drewN ?_ _ | refine blk_drew ?_ | refine blk_alloc ?_ _)); refine blk_far ?_ NB129_131.out _; (with_reducible repeat (first | refine blk_drewN ?_ _ | refine blk_drew ?_ | refine blk_alloc ?_ _)); refine blk_far ?_ NB129_131.out _; (with_reducible repeat (first | refine blk_drewN ?_ _ | refine blk_drew ?_ | refine blk_alloc ?_ _)); exact BK129.out⟩
  have n2_ : Aside0 ((((((((w11.setCell ⟨gb131, 0, none⟩ (.int .i64 (wrap64 (1 + t130)))).setCell ⟨gb131, 1, none⟩ (.int .i64 0)).setCell ⟨gb131, 2, none⟩ (.int .i64 0)).setCell ⟨gb131, 3, none⟩ (.int .i64 0)).setCell ⟨gb131, 4, none⟩ (.int .i64 0)).setCell ⟨gb131, 5, none⟩ (.slice none 0 0)).setCell ⟨gb131, 6, none⟩ (.slice none 0 0)).heap[gb131]? = some (.cells #[.int .i64 (wrap64 (1 + t130)), .int .i64 0, .int .i64 0, .int .i64 0, .int .i64 0, .slice none 0 0, .slice none 0 0] 29 (0, 0))) := ⟨by (with_reducible repeat (first | refine blk_drewN ?_ _ | refine blk_drew ?_ | refine blk_alloc ?_ _)); refine blk_put (cs := #[.int .i64 (wrap64 (1 + t130)), .int .i64 0, .int .i64 0, .int .i64 0, .int .i64 0, .slice none 0 0, .slice none 0 0]) ?_ 6 _ rfl; (with_reducible repeat (first | refine blk_drewN ?_ _ | refine blk_drew ?_ | refine blk_alloc ?_ _)); refine blk_put (cs := #[.int .i64 (wrap64 (1 + t130)), .int .i64 0, .int .i64 0, .int .i64 0, .int .i64 0, .slice none 0 0, .slice none 0 0]) ?_ 5 _ rfl; (with_reducible repeat (first | refine blk_drewN ?_ _ | refine blk_drew ?_ | refine blk_alloc ?_ _)); refine blk_put (cs := #[.int .i64 (wrap64 (1 + t130)), .int .i64 0, .int .i64 0, .int .i64 0, .int .i64 0, .slice none 0 0, .slice none 0 0]) ?_ 4 _ rfl; (with_reducible repeat (first | refine blk_drewN ?_ _ | refine blk_drew ?_ | refine blk_alloc ?_ _)); refine blk_put (cs := #[.int .i64 (wrap64 (1 + t130)), .int .i64 0, .int .i64 0, .int .i64 0, .int .i64 0, .slice none 0 0, .slice none 0 0]) ?_ 3 _ rfl; (with_reducible repeat (first | refine blk_drewN ?_ _ | refine blk_drew ?_ | refine blk_alloc ?_ _)); refine blk_put (cs := #[.int .i64 (wrap64 (1 + t130)), .int .i64 0, .int .i64 0, .int .i64 0, .int .i64 0, .slice none 0 0, .slice none 0 0]) ?_ 2 _ rfl; (with_reducible repeat (first | refine blk_drewN ?_ _ | refine blk_drew ?_ | refine blk_alloc ?_ _)); refine blk_put (cs := #[.int .i64 (wrap64 (1 + t130)), .int .i64 0, .int .i64 0, .int .i64 0, .int .i64 0, .slice none 0 0, .slice none 0 0]) ?_ 1 _ rfl; (with_reducible repeat (first | refine blk_drewN ?_ _ | refine blk_drew ?_ | refine blk_alloc ?_ _)); refine blk_put (cs := #[.int .i64 0, .int .i64 0, .int .i64 0, .int .i64 0, .int .i64 0, .slice none 0 0, .slice none 0 0]) ?_ 0 _ rfl; (with_reducible repeat (first | refine blk_drewN ?_ _ | refine blk_drew ?_ | refine blk_alloc ?_ _)); exact BK131.out⟩
  have n3_ : Aside0 (Below w.heap.size w (((((((w11.setCell ⟨gb131, 0, none⟩ (.int .i64 (wrap64 (1 + t130)))).setCell ⟨gb131, 1, none⟩ (.int .i64 0)).setCell ⟨gb131, 2, none⟩ (.int .i64 0)).setCell ⟨gb131, 3, none⟩ (.int .i64 0)).setCell ⟨gb131, 4, none⟩ (.int .i64 0)).setCell ⟨gb131, 5, none⟩ (.slice none 0 0)).setCell ⟨gb131, 6, none⟩ (.slice none 0 0))) := ⟨by repeat (first | (with_reducible first | exact HB.out | apply below_alloc | apply pw_below_drewN | apply below_drew1 | refine below_set ?_ GE128.out | refine below_set ?_ GE129.out | refine below_set ?_ GE131.out) | exact HB.out)⟩
  (try clear BK128)
  (try clear BK129)
  (try clear BK131)
  (try clear HB)
  generalize (((((((w11.setCell ⟨gb131, 0, none⟩ (.int .i64 (wrap64 (1 + t130)))).setCell ⟨gb131, 1, none⟩ (.int .i64 0)).setCell ⟨gb131, 2, none⟩ (.int .i64 0)).setCell ⟨gb131, 3, none⟩ (.int .i64 0)).setCell ⟨gb131, 4, none⟩ (.int .i64 0)).setCell ⟨gb131, 5, none⟩ (.slice none 0 0)).setCell ⟨gb131, 6, none⟩ (.slice none 0 0)) = w15 at n0_ n1_ n2_ n3_ ⊢
  have BK128 := n0_
  have BK129 := n1_
  have BK131 := n2_
  have HB := n3_
  clear n0_ n1_ n2_ n3_
  have n0_ := Aside0.mk (blk_drew BK128.out)
  have n1_ := Aside0.mk (blk_drew BK129.out)
  have n2_ := Aside0.mk (blk_drew BK131.out)
  have n3_ := Aside0.mk (below_drew1 HB.out)
  clear BK128
  clear BK129
  clear BK131
  clear HB
  have BK128 := n0_
  have BK129 := n1_
  have BK131 := n2_
  have HB := n3_
  clear n0_ n1_ n2_ n3_
  refine start_ (n := 10) (S := fun w' => w'.cell? ⟨gb131, 0, none⟩ = some (.int .i64 (wrap64 (1 + t130))) ∧ w'.cell? ⟨gb131, 1, none⟩ = some (.int .i64 0) ∧ w'.cell? ⟨gb131, 2, none⟩ = some (.int .i64 0) ∧ w'.cell? ⟨gb131, 3, none⟩ = some (.int .i64 0) ∧ w'.cell? ⟨gb131, 4, none⟩ = some (.int .i64 0) ∧ w'.cell? ⟨gb131, 5, none⟩ = some (.slice none 0 0) ∧ w'.cell? ⟨gb131, 6, none⟩ = some (.slice none 0 0) ∧ w'.cell? ⟨gb128, 0, none⟩ = some (.int .i64 a0_0) ∧ w'.cell? ⟨gb128, 1, none⟩ = some (.int .i64 a0_1) ∧ w'.cell? ⟨gb128, 2, none⟩ = some (.int .i64 a0_2) ∧ w'.cell? ⟨gb128, 3, none⟩ = some (.int .i64 a0_3) ∧ w'.cell? ⟨gb128, 4, none⟩ = some (.int .i64 a0_4) ∧ w'.cell? ⟨gb128, 5, none⟩ = some (.slice A0_5 l0_5.length c0_5) ∧ w'.cell? ⟨gb128, 6, none⟩ = some (.slice A0_6 l0_6.length c0_6) ∧ w'.cell? ⟨gb128, 7, none⟩ = some (.slice A0_7 l0_7.length c0_7)) (ds := [9]) #[false, false, false, false, false, false, false, false, false, false] (by kernel_rfl) rfl rfl ⟨(blk_cell BK131.out 0).trans rfl, (blk_cell BK131.out 1).trans rfl, (blk_cell BK131.out 2).trans rfl, (blk_cell BK131.out 3).trans rfl, (blk_cell BK131.out 4).trans rfl, (blk_cell BK131.out 5).trans rfl, (blk_cell BK131.out 6).trans rfl, (blk_cell BK128.out 0).trans rfl, (blk_cell BK128.out 1).trans rfl, (blk_cell BK128.out 2).trans rfl, (blk_cell BK128.out 3).trans rfl, (blk_cell BK128.out 4).trans rfl, (blk_cell BK128.out 5).trans rfl, (blk_cell BK128.out 6).trans rfl, (blk_cell BK128.out 7).trans rfl⟩ (fun hHeld => ?_); refine with_tabW selfstablaw42_Raw_Link.tab2 selfstablaw42_Raw_Link.bits2 (fun HT_ HW_ => ?_)
  generalize w15.drew = w16 at BK128 BK129 BK131 HB hHeld ⊢
  refine pure_ (i := 0) (N := some 12) (v := ?_) (a' := ?_) #[true, false, false, false, false, false, false, false, false, false] rfl rfl (any_of HT_.out (by kernel_rfl)) (fun _ _ _ h => h) (Or.inl ⟨by rfl, ?_⟩) ?_ ?_
  rotate_left
  · intro w'
    go_simp
    with_reducible rfl
  rotate_left
  · simp only [Act.put, List.setIfInBounds_toArray, List.set_cons_zero, List.set_cons_succ, i64_w, i32_w]
    rfl
  refine pure_ (i := 4) (N := some 16) (v := ?_) (a' := ?_) #[true, false, false, false, true, false, false, false, false, false] rfl rfl (any_of HT_.out (by kernel_rfl)) (fun _ _ _ h => h) (Or.inl ⟨by rfl, ?_⟩) ?_ ?_
  rotate_left
  · intro w'
    go_simp
    with_reducible rfl
  rotate_left
  · simp only [Act.put, List.setIfInBounds_toArray, List.set_cons_zero, List.set_cons_succ, i64_w, i32_w]
    rfl
  refine take_ (i := 1) (N := some 13) (v := ?_) (a' := ?_) #[true, true, false, false, true, false, false, false, false, false] rfl rfl (take_ofW HT_.out HW_.out (by kernel_rfl)) (fun _ _ _ h => h) (Or.inl ⟨by rfl, ?_⟩) hHeld ?_ ?_
  rotate_left
  · rintro w' ⟨s0, s1, s2, s3, s4, s5, s6, s7, s8, s9, s10, s11, s12, s13, s14⟩
    go_simp
    with_reducible rfl
  rotate_left
  · simp only [Act.put, List.setIfInBounds_toArray, List.set_cons_zero, List.set_cons_succ, i64_w, i32_w]
    rfl
  refine pure_ (i := 2) (N := some 14) (v := ?_) (a' := ?_) #[true, true, true, false, true, false, false, false, false, false] rfl rfl (any_of HT_.out (by kernel_rfl)) (fun _ _ _ h => h) (Or.inl ⟨by rfl, ?_⟩) ?_ ?_
  rotate_left
  · intro w'
    go_simp
    with_reducible rfl
  rotate_left
  · simp only [Act.put, List.setIfInBounds_toArray, List.set_cons_zero, List.set_cons_succ, i64_w, i32_w]
    rfl
  refine pure_ (i := 3) (N := some 15) (v := ?_) (a' := ?_) #[true, true, true, true, true, false, false, false, false, false] rfl rfl (any_of HT_.out (by kernel_rfl)) (fun _ _ _ h => h) (Or.inl ⟨by rfl, ?_⟩) ?_ ?_
  rotate_left
  · intro w'
    go_simp
    with_reducible rfl
  rotate_left
  · simp only [Act.put, List.setIfInBounds_toArray, List.set_cons_zero, List.set_cons_succ, i64_w, i32_w]
    rfl
  refine take_ (i := 5) (N := some 17) (v := ?_) (a' := ?_) #[true, true, true, true, true, true, false, false, false, false] rfl rfl (take_ofW HT_.out HW_.out (by kernel_rfl)) (fun _ _ _ h => h) (Or.inl ⟨by rfl, ?_⟩) hHeld ?_ ?_
  rotate_left
  · rintro w' ⟨s0, s1, s2, s3, s4, s5, s6, s7, s8, s9, s10, s11, s12, s13, s14⟩
    go_simp
    with_reducible rfl
  rotate_left
  · simp only [Act.put, List.setIfInBounds_toArray, List.set_cons_zero, List.set_cons_succ, i64_w, i32_w]
    rfl
  refine one_ (i := 6) (N := some 18) #[true, true, true, true, true, true, true, false, false, false] rfl rfl (one_of HT_.out (by kernel_rfl)) (by decide) (fun K hK => ?_)
  refine goes_ Try.func17 (by kernel_rfl) rfl #[.int .i64 a0_1, .int .i64 4] (by rfl) rfl rfl (by (try simp only [List.map_toArray, List.map_cons, List.map_nil]); first | done | rfl | (simp only [List.length_drop, List.length_take]; rfl)) ?_
  with_reducible refine (selfstabworld_Within.calls a0_1 4 t132 _ A3.out).mono ?_
  rintro e w' ⟨rfl, ⟨nd, rfl⟩⟩
  refine ⟨_, rfl, ?_⟩
  refine hK.out _ _ ⟨(blk_cell BK131.out 0).trans rfl, (blk_cell BK131.out 1).trans rfl, (blk_cell BK131.out 2).trans rfl, (blk_cell BK131.out 3).trans rfl, (blk_cell BK131.out 4).trans rfl, (blk_cell BK131.out 5).trans rfl, (blk_cell BK131.out 6).trans rfl, (blk_cell BK128.out 0).trans rfl, (blk_cell BK128.out 1).trans rfl, (blk_cell BK128.out 2).trans rfl, (blk_cell BK128.out 3).trans rfl, (blk_cell BK128.out 4).trans rfl, (blk_cell BK128.out 5).trans rfl, (blk_cell BK128.out 6).trans rfl, (blk_cell BK128.out 7).trans rfl⟩ (fun hHeld => ?_)
  clear hK K
  refine norm_ (a' := ?_) ?_ ?_
  rotate_left
  · show Act.put _ (some 18) _ = _
    simp only [Act.put, List.setIfInBounds_toArray, List.set_cons_zero, List.set_cons_succ, i64_w, i32_w]
    rfl
  refine pure_ (i := 7) (N := some 19) (v := ?_) (a' := ?_) #[true, true, true, true, true, true, true, true, false, false] rfl rfl (any_of HT_.out (by kernel_rfl)) (fun _ _ _ h => h) (Or.inl ⟨by rfl, ?_⟩) ?_ ?_
  rotate_left
  · intro w'
    go_simp
    with_reducible rfl
  rotate_left
  · simp only [Act.put, List.setIfInBounds_toArray, List.set_cons_zero, List.set_cons_succ, i64_w, i32_w]
    rfl
  refine pure_ (i := 8) (N := some 20) (v := ?_) (a' := ?_) #[true, true, true, true, true, true, true, true, true, false] rfl rfl (any_of HT_.out (by kernel_rfl)) (fun _ _ _ h => h) (Or.inl ⟨by rfl, ?_⟩) ?_ ?_
  rotate_left
  · intro w'
    go_simp
    with_reducible rfl
  rotate_left
  · simp only [Act.put, List.setIfInBounds_toArray, List.set_cons_zero, List.set_cons_succ, i64_w, i32_w]
    rfl
  refine last_ (i := 9) (N := none) #[true, true, true, true, true, true, true, true, true, true] rfl rfl (one_of HT_.out (by kernel_rfl)) (by decide) (fun K hK => ?_)
  have hs17 : w16.cell? ⟨gb131, 1, none⟩ = some (.int .i64 0) := (blk_cell BK131.out 1).trans rfl
  have hfs17 := blk_frozen BK131.out 1
  have hns17_0 := NB128_131.out
  have hns17_1 := NB129_131.out
  have hms17_0 := NB131_128.out
  have hms17_1 := NB131_129.out
  refine skip_ (w1 := ?_) (by rfl) rfl ?_ ?_
  rotate_left
  · go_simp
    rfl
  refine hK.out _ _ ?_
  clear hK K
  refine done_ (done_of HT_.out (by kernel_rfl)) ?_
  try go_wp2
  have n0_ : Aside0 (((w16.drewN nd).setCell ⟨gb131, 1, none⟩ (.int .i64 (wrap64 ((wrap64 ((wrap64 (2 * (wrap64 (1 + t130)))) + 2)) + t132)))).heap[gb128]? = some (.cells #[.int .i64 a0_0, .int .i64 a0_1, .int .i64 a0_2, .int .i64 a0_3, .int .i64 a0_4, .slice A0_5 l0_5.length c0_5, .slice A0_6 l0_6.length c0_6, .slice A0_7 l0_7.length c0_7] 24 (0, 0))) := ⟨by (with_reducible repeat (first | refine blk_drewN ?_ _ | refine blk_drew ?_ | refine blk_alloc ?_ _)); refine blk_far ?_ NB128_131.out _; (with_reducible repeat (first | refine blk_drewN ?_ _ | refine blk_drew ?_ | refine blk_alloc ?_ _)); exact BK128.out⟩
  have n1_ : Aside0 (((w16.drewN nd).setCell ⟨gb131, 1, none⟩ (.int .i64 (wrap64 ((wrap64 ((wrap64 (2 * (wrap64 (1 + t130)))) + 2)) + t132)))).heap[gb129]? = some (.cells #[.int .i64 0, .int .i64 0, .int .i64 0, .int .i64 0, .int .i64 0, .slice none 0 0, .slice none 0 0] 29 (0, 0))) := ⟨by (with_reducible repeat (first | refine blk_drewN ?_ _ | refine blk_drew ?_ | refine blk_alloc ?_ _)); refine blk_far ?_ NB129_131.out _; (with_reducible repeat (first | refine blk_drewN ?_ _ | refine blk_drew ?_ | refine blk_alloc ?_ _)); exact BK129.out⟩
  have n2_ : Aside0 (((w16.drewN nd).setCell ⟨gb131, 1, none⟩ (.int .i64 (wrap64 ((wrap64 ((wrap64 (2 * (wrap64 (1 + t130)))) + 2)) + t132)))).heap[gb131]? = some (.cells #[.int .i64 (wrap64 (1 + t130)), .int .i64 (wrap64 ((wrap64 ((wrap64 (2 * (wrap64 (1 + t130)))) + 2)) + t132)), .int .i64 0, .int .i64 0, .int .i64 0, .slice none 0 0, .slice none 0 0] 29 (0, 0))) := ⟨by (with_reducible repeat (first | refine blk_drewN ?_ _ | refine blk_drew ?_ | refine blk_alloc ?_ _)); refine blk_put (cs := #[.int .i64 (wrap64 (1 + t130)), .int .i64 0, .int .i64 0, .int .i64 0, .int .i64 0, .slice none 0 0, .slice none 0 0]) ?_ 1 _ rfl; (with_reducible repeat (first | refine blk_drewN ?_ _ | refine blk_drew ?_ | refine blk_alloc ?_ _)); exact BK131.out⟩
  have n3_ : Aside0 (Below w.heap.size w ((w16.drewN nd).setCell ⟨gb131, 1, none⟩ (.int .i64 (wrap64 ((wrap64 ((wrap64 (2 * (wrap64 (1 + t130)))) + 2)) + t132))))) := ⟨by repeat (first | (with_reducible first | exact HB.out | apply below_alloc | apply pw_below_drewN | apply below_drew1 | refine below_set ?_ GE128.out | refine below_set ?_ GE129.out | refine below_set ?_ GE131.out) | exact HB.out)⟩
  (try clear BK128)
  (try clear BK129)
  (try clear BK131)
  (try clear HB)
  generalize ((w16.drewN nd).setCell ⟨gb131, 1, none⟩ (.int .i64 (wrap64 ((wrap64 ((wrap64 (2 * (wrap64 (1 + t130)))) + 2)) + t132)))) = w18 at n0_ n1_ n2_ n3_ ⊢
  have BK128 := n0_
  have BK129 := n1_
  have BK131 := n2_
  have HB := n3_
  clear n0_ n1_ n2_ n3_
  (try (rw [drewN_self w18]; generalize hq_ : World.drewN w18 _ = w18; have n0_ : Aside0 (w18.heap[gb128]? = some (.cells #[.int .i64 a0_0, .int .i64 a0_1, .int .i64 a0_2, .int .i64 a0_3, .int .i64 a0_4, .slice A0_5 l0_5.length c0_5, .slice A0_6 l0_6.length c0_6, .slice A0_7 l0_7.length c0_7] 24 (0, 0))) := ⟨by rw [← hq_]; exact (by (with_reducible repeat (first | refine blk_drewN ?_ _ | refine blk_drew ?_ | refine blk_alloc ?_ _)); exact BK128.out)⟩; have n1_ : Aside0 (w18.heap[gb129]? = some (.cells #[.int .i64 0, .int .i64 0, .int .i64 0, .int .i64 0, .int .i64 0, .slice none 0 0, .slice none 0 0] 29 (0, 0))) := ⟨by rw [← hq_]; exact (by (with_reducible repeat (first | refine blk_drewN ?_ _ | refine blk_drew ?_ | refine blk_alloc ?_ _)); exact BK129.out)⟩; have n2_ : Aside0 (w18.heap[gb131]? = some (.cells #[.int .i64 (wrap64 (1 + t130)), .int .i64 (wrap64 ((wrap64 ((wrap64 (2 * (wrap64 (1 + t130)))) + 2)) + t132)), .int .i64 0, .int .i64 0, .int .i64 0, .slice none 0 0, .slice none 0 0] 29 (0, 0))) := ⟨by rw [← hq_]; exact (by (with_reducible repeat (first | refine blk_drewN ?_ _ | refine blk_drew ?_ | refine blk_alloc ?_ _)); exact BK131.out)⟩; have n3_ : Aside0 (Below w.heap.size w w18) := ⟨by rw [← hq_]; exact (by repeat (first | (with_reducible first | exact HB.out | apply below_alloc | apply pw_below_drewN | apply below_drew1 | refine below_set ?_ GE128.out | refine below_set ?_ GE129.out | refine below_set ?_ GE131.out) | exact HB.out))⟩; clear BK128 BK129 BK131 HB hq_; have BK128 := n0_; have BK129 := n1_; have BK131 := n2_; have HB := n3_; clear n0_ n1_ n2_ n3_))
  have n0_ := Aside0.mk (blk_drew BK128.out)
  have n1_ := Aside0.mk (blk_drew BK129.out)
  have n2_ := Aside0.mk (blk_drew BK131.out)
  have n3_ := Aside0.mk (below_drew1 HB.out)
  clear BK128
  clear BK129
  clear BK131
  clear HB
  have BK128 := n0_
  have BK129 := n1_
  have BK131 := n2_
  have HB := n3_
  clear n0_ n1_ n2_ n3_
  refine start_ (n := 19) (S := fun w' => w'.cell? ⟨gb128, 0, none⟩ = some (.int .i64 a0_0) ∧ w'.cell? ⟨gb128, 1, none⟩ = some (.int .i64 a0_1) ∧ w'.cell? ⟨gb128, 2, none⟩ = some (.int .i64 a0_2) ∧ w'.cell? ⟨gb128, 3, none⟩ = some (.int .i64 a0_3) ∧ w'.cell? ⟨gb128, 4, none⟩ = some (.int .i64 a0_4) ∧ w'.cell? ⟨gb128, 5, none⟩ = some (.slice A0_5 l0_5.length c0_5) ∧ w'.cell? ⟨gb128, 6, none⟩ = some (.slice A0_6 l0_6.length c0_6) ∧ w'.cell? ⟨gb128, 7, none⟩ = some (.slice A0_7 l0_7.length c0_7) ∧ w'.cell? ⟨gb131, 0, none⟩ = some (.int .i64 (wrap64 (1 + t130))) ∧ w'.cell? ⟨gb131, 1, none⟩ = some (.int .i64 (wrap64 ((wrap64 ((wrap64 (2 * (wrap64 (1 + t130)))) + 2)) + t132))) ∧ w'.cell? ⟨gb131, 2, none⟩ = some (.int .i64 0) ∧ w'.cell? ⟨gb131, 3, none⟩ = some (.int .i64 0) ∧ w'.cell? ⟨gb131, 4, none⟩ = some (.int .i64 0) ∧ w'.cell? ⟨gb131, 5, none⟩ = some (.slice none 0 0) ∧ w'.cell? ⟨gb131, 6, none⟩ = some (.slice none 0 0)) (ds := [14, 16, 18]) #[false, false, false, false, false, false, false, false, false, false, false, false, false, false, false, false, false, false, false] (by kernel_rfl) rfl rfl ⟨(blk_cell BK128.out 0).trans rfl, (blk_cell BK128.out 1).trans rfl, (blk_cell BK128.out 2).trans rfl, (blk_cell BK128.out 3).trans rfl, (blk_cell BK128.out 4).trans rfl, (blk_cell BK128.out 5).trans rfl, (blk_cell BK128.out 6).trans rfl, (blk_cell BK128.out 7).trans rfl, (blk_cell BK131.out 0).trans rfl, (blk_cell BK131.out 1).trans rfl, (blk_cell BK131.out 2).trans rfl, (blk_cell BK131.out 3).trans rfl, (blk_cell BK131.out 4).trans rfl, (blk_cell BK131.out 5).trans rfl, (blk_cell BK131.out 6).trans rfl⟩ (fun hHeld => ?_); refine with_tabW selfstablaw42_Raw_Link.tab3 selfstablaw42_Raw_Link.bits3 (fun HT_ HW_ => ?_)
  generalize w18.drew = w19 at BK128 BK129 BK131 HB hHeld ⊢
  refine pure_ (i := 0) (N := some 21) (v := ?_) (a' := ?_) #[true, false, false, false, false, false, false, false, false, false, false, false, false, false, false, false, false, false, false] rfl rfl (any_of HT_.out (by kernel_rfl)) (fun _ _ _ h => h) (Or.inl ⟨by rfl, ?_⟩) ?_ ?_
  rotate_left
  · intro w'
    go_simp
    with_reducible rfl
  rotate_left
  · simp only [Act.put, List.setIfInBounds_toArray, List.set_cons_zero, List.set_cons_succ, i64_w, i32_w]
    rfl
  refine pure_ (i := 2) (N := some 23) (v := ?_) (a' := ?_) #[true, false, true, false, false, false, false, false, false, false, false, false, false, false, false, false, false, false, false] rfl rfl (any_of HT_.out (by kernel_rfl)) (fun _ _ _ h => h) (Or.inl ⟨by rfl, ?_⟩) ?_ ?_
  rotate_left
  · intro w'
    go_simp
    with_reducible rfl
  rotate_left
  · simp only [Act.put, List.setIfInBounds_toArray, List.set_cons_zero, List.set_cons_succ, i64_w, i32_w]
    rfl
  refine pure_ (i := 5) (N := some 26) (v := ?_) (a' := ?_) #[true, false, true, false, false, true, false, false, false, false, false, false, false, false, false, false, false, false, false] rfl rfl (any_of HT_.out (by kernel_rfl)) (fun _ _ _ h => h) (Or.inl ⟨by rfl, ?_⟩) ?_ ?_
  rotate_left
  · intro w'
    go_simp
    with_reducible rfl
  rotate_left
  · simp only [Act.put, List.setIfInBounds_toArray, List.set_cons_zero, List.set_cons_succ, i64_w, i32_w]
    rfl
  refine pure_ (i := 7) (N := some 28) (v := ?_) (a' := ?_) #[true, false, true, false, false, true, false, true, false, false, false, false, false, false, false, false, false, false, false] rfl rfl (any_of HT_.out (by kernel_rfl)) (fun _ _ _ h => h) (Or.inl ⟨by rfl, ?_⟩) ?_ ?_
  rotate_left
  · intro w'
    go_simp
    with_reducible rfl
  rotate_left
  · simp only [Act.put, List.setIfInBounds_toArray, List.set_cons_zero, List.set_cons_succ, i64_w, i32_w]
    rfl
  refine pure_ (i := 10) (N := some 31) (v := ?_) (a' := ?_) #[true, false, true, false, false, true, false, true, false, false, true, false, false, false, false, false, false, false, false] rfl rfl (any_of HT_.out (by kernel_rfl)) (fun _ _ _ h => h) (Or.inl ⟨by rfl, ?_⟩) ?_ ?_
  rotate_left
  · intro w'
    go_simp
    with_reducible rfl
  rotate_left
  · simp only [Act.put, List.setIfInBounds_toArray, List.set_cons_zero, List.set_cons_succ, i64_w, i32_w]
    rfl
  refine take_ (i := 1) (N := some 22) (v := ?_) (a' := ?_) #[true, true, true, false, false, true, false, true, false, false, true, false, false, false, false, false, false, false, false] rfl rfl (take_ofW HT_.out HW_.out (by kernel_rfl)) (fun _ _ _ h => h) (Or.inl ⟨by rfl, ?_⟩) hHeld ?_ ?_
  rotate_left
  · rintro w' ⟨s0, s1, s2, s3, s4, s5, s6, s7, s8, s9, s10, s11, s12, s13, s14⟩
    go_simp
    with_reducible rfl
  rotate_left
  · simp only [Act.put, List.setIfInBounds_toArray, List.set_cons_zero, List.set_cons_succ, i64_w, i32_w]
    rfl
  refine take_ (i := 3) (N := some 24) (v := ?_) (a' := ?_) #[true, true, true, true, false, true, false, true, false, false, true, false, false, false, false, false, false, false, false] rfl rfl (take_ofW HT_.out HW_.out (by kernel_rfl)) (fun _ _ _ h => h) (Or.inl ⟨by rfl, ?_⟩) hHeld ?_ ?_
  rotate_left
  · rintro w' ⟨s0, s1, s2, s3, s4, s5, s6, s7, s8, s9, s10, s11, s12, s13, s14⟩
    go_simp
    with_reducible rfl
  rotate_left
  · simp only [Act.put, List.setIfInBounds_toArray, List.set_cons_zero, List.set_cons_succ, i64_w, i32_w]
    rfl
  refine take_ (i := 6) (N := some 27) (v := ?_) (a' := ?_) #[true, true, true, true, false, true, true, true, false, false, true, false, false, false, false, false, false, false, false] rfl rfl (take_ofW HT_.out HW_.out (by kernel_rfl)) (fun _ _ _ h => h) (Or.inl ⟨by rfl, ?_⟩) hHeld ?_ ?_
  rotate_left
  · rintro w' ⟨s0, s1, s2, s3, s4, s5, s6, s7, s8, s9, s10, s11, s12, s13, s14⟩
    go_simp
    with_reducible rfl
  rotate_left
  · simp only [Act.put, List.setIfInBounds_toArray, List.set_cons_zero, List.set_cons_succ, i64_w, i32_w]
    rfl
  refine take_ (i := 8) (N := some 29) (v := ?_) (a' := ?_) #[true, true, true, true, false, true, true, true, true, false, true, false, false, false, false, false, false, false, false] rfl rfl (take_ofW HT_.out HW_.out (by kernel_rfl)) (fun _ _ _ h => h) (Or.inl ⟨by rfl, ?_⟩) hHeld ?_ ?_
  rotate_left
  · rintro w' ⟨s0, s1, s2, s3, s4, s5, s6, s7, s8, s9, s10, s11, s12, s13, s14⟩
    go_simp
    with_reducible rfl
  rotate_left
  · simp only [Act.put, List.setIfInBounds_toArray, List.set_cons_zero, List.set_cons_succ, i64_w, i32_w]
    rfl
  refine take_ (i := 11) (N := some 32) (v := ?_) (a' := ?_) #[true, true, true, true, false, true, true, true, true, false, true, true, false, false, false, false, false, false, false] rfl rfl (take_ofW HT_.out HW_.out (by kernel_rfl)) (fun _ _ _ h => h) (Or.inl ⟨by rfl, ?_⟩) hHeld ?_ ?_
  rotate_left
  · rintro w' ⟨s0, s1, s2, s3, s4, s5, s6, s7, s8, s9, s10, s11, s12, s13, s14⟩
    go_simp
    with_reducible rfl
  rotate_left
  · simp only [Act.put, List.setIfInBounds_toArray, List.set_cons_zero, List.set_cons_succ, i64_w, i32_w]
    rfl
  refine one_ (i := 4) (N := some 25) #[true, true, true, true, true, true, true, true, true, false, true, true, false, false, false, false, false, false, false] rfl rfl (one_of HT_.out (by kernel_rfl)) (by decide) (fun K hK => ?_)
  refine goes_ Try.func17 (by kernel_rfl) rfl #[.int .i64 a0_2, .int .i64 (wrap64 ((wrap64 ((wrap64 (2 * (wrap64 (1 + t130)))) + 2)) + t132))] (by rfl) rfl rfl (by (try simp only [List.map_toArray, List.map_cons, List.map_nil]); first | done | rfl | (simp only [List.length_drop, List.length_take]; rfl)) ?_
  with_reducible refine (selfstabworld_Within.calls a0_2 (wrap64 ((wrap64 ((wrap64 (2 * (wrap64 (1 + t130)))) + 2)) + t132)) t133 _ A4.out).mono ?_
  rintro e w' ⟨rfl, ⟨nd, rfl⟩⟩
  refine ⟨_, rfl, ?_⟩
  refine hK.out _ _ ⟨(blk_cell BK128.out 0).trans rfl, (blk_cell BK128.out 1).trans rfl, (blk_cell BK128.out 2).trans rfl, (blk_cell BK128.out 3).trans rfl, (blk_cell BK128.out 4).trans rfl, (blk_cell BK128.out 5).trans rfl, (blk_cell BK128.out 6).trans rfl, (blk_cell BK128.out 7).trans rfl, (blk_cell BK131.out 0).trans rfl, (blk_cell BK131.out 1).trans rfl, (blk_cell BK131.out 2).trans rfl, (blk_cell BK131.out 3).trans rfl, (blk_cell BK131.out 4).trans rfl, (blk_cell BK131.out 5).trans rfl, (blk_cell BK131.out 6).trans rfl⟩ (fun hHeld => ?_)
  clear hK K
  refine norm_ (a' := ?_) ?_ ?_
  rotate_left
  · show Act.put _ (some 25) _ = _
    simp only [Act.put, List.setIfInBounds_toArray, List.set_cons_zero, List.set_cons_succ, i64_w, i32_w]
    rfl
  refine pure_ (i := 13) (N := some 34) (v := ?_) (a' := ?_) #[true, true, true, true, true, true, true, true, true, false, true, true, false, true, false, false, false, false, false] rfl rfl (any_of HT_.out (by kernel_rfl)) (fun _ _ _ h => h) (Or.inl ⟨by rfl, ?_⟩) ?_ ?_
  rotate_left
  · intro w'
    go_simp
    with_reducible rfl
  rotate_left
  · simp only [Act.put, List.setIfInBounds_toArray, List.set_cons_zero, List.set_cons_succ, i64_w, i32_w]
    rfl
  refine one_ (i := 9) (N := some 30) #[true, true, true, true, true, true, true, true, true, true, true, true, false, true, false, false, false, false, false] rfl rfl (one_of HT_.out (by kernel_rfl)) (by decide) (fun K hK => ?_)
  refine goes_ Try.func17 (by kernel_rfl) rfl #[.int .i64 a0_4, .int .i64 (wrap64 ((wrap64 ((wrap64 (2 * (wrap64 (1 + t130)))) + 2)) + t132))] (by rfl) rfl rfl (by (try simp only [List.map_toArray, List.map_cons, List.map_nil]); first | done | rfl | (simp only [List.length_drop, List.length_take]; rfl)) ?_
  with_reducible refine (selfstabworld_Within.calls a0_4 (wrap64 ((wrap64 ((wrap64 (2 * (wrap64 (1 + t130)))) + 2)) + t132)) t134 _ A5.out).mono ?_
  rintro e w' ⟨rfl, ⟨nd, rfl⟩⟩
  refine ⟨_, rfl, ?_⟩
  refine hK.out _ _ ⟨(blk_cell BK128.out 0).trans rfl, (blk_cell BK128.out 1).trans rfl, (blk_cell BK128.out 2).trans rfl, (blk_cell BK128.out 3).trans rfl, (blk_cell BK128.out 4).trans rfl, (blk_cell BK128.out 5).trans rfl, (blk_cell BK128.out 6).trans rfl, (blk_cell BK128.out 7).trans rfl, (blk_cell BK131.out 0).trans rfl, (blk_cell BK131.out 1).trans rfl, (blk_cell BK131.out 2).trans rfl, (blk_cell BK131.out 3).trans rfl, (blk_cell BK131.out 4).trans rfl, (blk_cell BK131.out 5).trans rfl, (blk_cell BK131.out 6).trans rfl⟩ (fun hHeld => ?_)
  clear hK K
  refine norm_ (a' := ?_) ?_ ?_
  rotate_left
  · show Act.put _ (some 30) _ = _
    simp only [Act.put, List.setIfInBounds_toArray, List.set_cons_zero, List.set_cons_succ, i64_w, i32_w]
    rfl
  refine one_ (i := 12) (N := some 33) #[true, true, true, true, true, true, true, true, true, true, true, true, true, true, false, false, false, false, false] rfl rfl (one_of HT_.out (by kernel_rfl)) (by decide) (fun K hK => ?_)
  refine goes_ Try.func17 (by kernel_rfl) rfl #[.int .i64 a0_3, .int .i64 1000] (by rfl) rfl rfl (by (try simp only [List.map_toArray, List.map_cons, List.map_nil]); first | done | rfl | (simp only [List.length_drop, List.length_take]; rfl)) ?_
  with_reducible refine (selfstabworld_Within.calls a0_3 1000 t135 _ A6.out).mono ?_
  rintro e w' ⟨rfl, ⟨nd, rfl⟩⟩
  refine ⟨_, rfl, ?_⟩
  refine hK.out _ _ ⟨(blk_cell BK128.out 0).trans rfl, (blk_cell BK128.out 1).trans rfl, (blk_cell BK128.out 2).trans rfl, (blk_cell BK128.out 3).trans rfl, (blk_cell BK128.out 4).trans rfl, (blk_cell BK128.out 5).trans rfl, (blk_cell BK128.out 6).trans rfl, (blk_cell BK128.out 7).trans rfl, (blk_cell BK131.out 0).trans rfl, (blk_cell BK131.out 1).trans rfl, (blk_cell BK131.out 2).trans rfl, (blk_cell BK131.out 3).trans rfl, (blk_cell BK131.out 4).trans rfl, (blk_cell BK131.out 5).trans rfl, (blk_cell BK131.out 6).trans rfl⟩ (fun hHeld => ?_)
  clear hK K
  refine norm_ (a' := ?_) ?_ ?_
  rotate_left
  · show Act.put _ (some 33) _ = _
    simp only [Act.put, List.setIfInBounds_toArray, List.set_cons_zero, List.set_cons_succ, i64_w, i32_w]
    rfl
  refine last_ (i := 14) (N := none) #[true, true, true, true, true, true, true, true, true, true, true, true, true, true, true, false, false, false, false] rfl rfl (one_of HT_.out (by kernel_rfl)) (by decide) (fun K hK => ?_)
  have hs20 : w19.cell? ⟨gb131, 2, none⟩ = some (.int .i64 0) := (blk_cell BK131.out 2).trans rfl
  have hfs20 := blk_frozen BK131.out 2
  have hns20_0 := NB128_131.out
  have hns20_1 := NB129_131.out
  have hms20_0 := NB131_128.out
  have hms20_1 := NB131_129.out
  refine skip_ (w1 := ?_) (by rfl) rfl ?_ ?_
  rotate_left
  · go_simp
    rfl
  refine hK.out _ _ ?_
  clear hK K
  refine pure_ (i := 15) (N := some 35) (v := ?_) (a' := ?_) #[true, true, true, true, true, true, true, true, true, true, true, true, true, true, true, true, false, false, false] rfl rfl (any_of HT_.out (by kernel_rfl)) (fun _ _ _ h => h) (Or.inl ⟨by rfl, ?_⟩) ?_ ?_
  rotate_left
  · intro w'
    go_simp
    with_reducible rfl
  rotate_left
  · simp only [Act.put, List.setIfInBounds_toArray, List.set_cons_zero, List.set_cons_succ, i64_w, i32_w]
    rfl
  refine last_ (i := 16) (N := none) #[true, true, true, true, true, true, true, true, true, true, true, true, true, true, true, true, true, false, false] rfl rfl (one_of HT_.out (by kernel_rfl)) (by decide) (fun K hK => ?_)
  have hs21 : w19.cell? ⟨gb131, 4, none⟩ = some (.int .i64 0) := (blk_cell BK131.out 4).trans rfl
  have hfs21 := blk_frozen BK131.out 4
  have hns21_0 := NB128_131.out
  have hns21_1 := NB129_131.out
  have hms21_0 := NB131_128.out
  have hms21_1 := NB131_129.out
  refine skip_ (w1 := ?_) (by rfl) rfl ?_ ?_
  rotate_left
  · go_simp
    rfl
  refine hK.out _ _ ?_
  clear hK K
  refine pure_ (i := 17) (N := some 36) (v := ?_) (a' := ?_) #[true, true, true, true, true, true, true, true, true, true, true, true, true, true, true, true, true, true, false] rfl rfl (any_of HT_.out (by kernel_rfl)) (fun _ _ _ h => h) (Or.inl ⟨by rfl, ?_⟩) ?_ ?_
  rotate_left
  · intro w'
    go_simp
    with_reducible rfl
  rotate_left
  · simp only [Act.put, List.setIfInBounds_toArray, List.set_cons_zero, List.set_cons_succ, i64_w, i32_w]
    rfl
  refine last_ (i := 18) (N := none) #[true, true, true, true, true, true, true, true, true, true, true, true, true, true, true, true, true, true, true] rfl rfl (one_of HT_.out (by kernel_rfl)) (by decide) (fun K hK => ?_)
  have hs22 : w19.cell? ⟨gb131, 3, none⟩ = some (.int .i64 0) := (blk_cell BK131.out 3).trans rfl
  have hfs22 := blk_frozen BK131.out 3
  have hns22_0 := NB128_131.out
  have hns22_1 := NB129_131.out
  have hms22_0 := NB131_128.out
  have hms22_1 := NB131_129.out
  refine skip_ (w1 := ?_) (by rfl) rfl ?_ ?_
  rotate_left
  · go_simp
    rfl
  refine hK.out _ _ ?_
  clear hK K
  refine done_ (done_of HT_.out (by kernel_rfl)) ?_
  try go_wp2
  go_loopg [4] k (fun kq v4 w' => ∃ (x4_1 : Int) (x132005_1 : List (S46)) (u132005 : Value), v4 = .int .i64 x4_1 ∧ Aside0 (selfstablaw42_Raw_Link.l0 kq x4_1 a0_0 a0_1 a0_2 a0_3 a0_4 l0_5 l0_6 l0_7 (wrap64 (1 + t130)) (wrap64 ((wrap64 ((wrap64 (2 * (wrap64 (1 + t130)))) + 2)) + t132)) t133 t135 t134 x132005_1 = some (r1, r2, r3, r4, r5, r6, r7)) ∧ Aside0 (kq ≤ k) ∧ Aside0 (Kd.R k46 46 w' w.heap.size (fun _ => True) u132005 x132005_1) ∧ Aside0 (w'.heap[gb128]? = some (.cells #[.int .i64 a0_0, .int .i64 a0_1, .int .i64 a0_2, .int .i64 a0_3, .int .i64 a0_4, (.slice A0_5 l0_5.length c0_5), (.slice A0_6 l0_6.length c0_6), (.slice A0_7 l0_7.length c0_7)] 24 (0, 0))) ∧ Aside0 (w'.heap[gb129]? = some (.cells #[.int .i64 0, .int .i64 0, .int .i64 0, .int .i64 0, .int .i64 0, (.slice none 0 0), (.slice none 0 0)] 29 (0, 0))) ∧ Aside0 (w'.heap[gb131]? = some (.cells #[.int .i64 (wrap64 (1 + t130)), .int .i64 (wrap64 ((wrap64 ((wrap64 (2 * (wrap64 (1 + t130)))) + 2)) + t132)), .int .i64 t133, .int .i64 t135, .int .i64 t134, u132005, (.slice none 0 0)] 29 (0, 0))) ∧ Aside0 (Below w.heap.size w w'))
  case atStart => exact ⟨(0), (([] : List (S46))), (.slice none 0 0), (by first | rfl | (simp; done) | (simp [*]; done)), H', ⟨Nat.le_refl _⟩, ⟨by first | exact Kd.R_nil _ _ _ _ _ | exact Kd.N_nil _ _ _ _ _ | exact Kd.V_nil _ _ _ _ _ | exact Kd.Q_nil _ _ _ _ _ | exact Kd.S_nil _ _ _ _ _⟩, ⟨by (with_reducible repeat (first | refine blk_drewN ?_ _ | refine blk_drew ?_ | refine blk_alloc ?_ _)); refine blk_far ?_ NB128_131.out _; (with_reducible repeat (first | refine blk_drewN ?_ _ | refine blk_drew ?_ | refine blk_alloc ?_ _)); refine blk_far ?_ NB128_131.out _; (with_reducible repeat (first | refine blk_drewN ?_ _ | refine blk_drew ?_ | refine blk_alloc ?_ _)); refine blk_far ?_ NB128_131.out _; (with_reducible repeat (first | refine blk_drewN ?_ _ | refine blk_drew ?_ | refine blk_alloc ?_ _)); exact BK128.out⟩, ⟨by (with_reducible repeat (first | refine blk_drewN ?_ _ | refine blk_drew ?_ | refine blk_alloc ?_ _)); refine blk_far ?_ NB129_131.out _; (with_reducible repeat (first | refine blk_drewN ?_ _ | refine blk_drew ?_ | refine blk_alloc ?_ _)); refine blk_far ?_ NB129_131.out _; (with_reducible repeat (first | refine blk_drewN ?_ _ | refine blk_drew ?_ | refine blk_alloc ?_ _)); refine blk_far ?_ NB129_131.out _; (with_reducible repeat (first | refine blk_drewN ?_ _ | refine blk_drew ?_ | refine blk_alloc ?_ _)); exact BK129.out⟩, ⟨by (with_reducible repeat (first | refine blk_drewN ?_ _ | refine blk_drew ?_ | refine blk_alloc ?_ _)); refine blk_put (cs := #[.int .i64 (wrap64 (1 + t130)), .int .i64 (wrap64 ((wrap64 ((wrap64 (2 * (wrap64 (1 + t130)))) + 2)) + t132)), .int .i64 t133, .int .i64 0, .int .i64 t134, .slice none 0 0, .slice none 0 0]) ?_ 3 _ rfl; (with_reducible repeat (first | refine blk_drewN ?_ _ | refine blk_drew ?_ | refine blk_alloc ?_ _)); refine blk_put (cs := #[.int .i64 (wrap64 (1 + t130)), .int .i64 (wrap64 ((wrap64 ((wrap64 (2 * (wrap64 (1 + t130)))) + 2)) + t132)), .int .i64 t133, .int .i64 0, .int .i64 0, .slice none 0 0, .slice none 0 0]) ?_ 4 _ rfl; (with_reducible repeat (first | refine blk_drewN ?_ _ | refine blk_drew ?_ | refine blk_alloc ?_ _)); refine blk_put (cs := #[.int .i64 (wrap64 (1 + t130)), .int .i64 (wrap64 ((wrap64 ((wrap64 (2 * (wrap64 (1 + t130)))) + 2)) + t132)), .int .i64 0, .int .i64 0, .int .i64 0, .slice none 0 0, .slice none 0 0]) ?_ 2 _ rfl; (with_reducible repeat (first | refine blk_drewN ?_ _ | refine blk_drew ?_ | refine blk_alloc ?_ _)); exact BK131.out⟩, ⟨by repeat (first | (with_reducible first | exact HB.out | apply below_alloc | apply pw_below_drewN | apply below_drew1 | refine below_set ?_ GE128.out | refine below_set ?_ GE129.out | refine below_set ?_ GE131.out) | exact HB.out)⟩⟩
  case round =>
    clear H'
    try clear c1
    try clear p2
    try clear p6
    try clear c9
    try clear c10
    try clear c12
    try clear c13
    try clear c17
    try clear hcz10_0
    try clear hcz10_1
    try clear hcz10_2
    try clear hcz10_3
    try clear hcz10_4
    try clear hcz10_5
    try clear hcz10_6
    try clear hcz10_7
    try clear hcz14_0
    try clear hcz14_1
    try clear hcz14_2
    try clear hcz14_3
    try clear hcz14_4
    try clear hcz14_5
    try clear hcz14_6
    try clear hfz10_0
    try clear hfz10_1
    try clear hfz10_2
    try clear hfz10_3
    try clear hfz10_4
    try clear hfz10_5
    try clear hfz10_6
    try clear hfz10_7
    try clear hfz14_0
    try clear hfz14_1
    try clear hfz14_2
    try clear hfz14_3
    try clear hfz14_4
    try clear hfz14_5
    try clear hfz14_6
    obtain ⟨x4_1, x132005_1, u132005, rfl, HA, HK1, HO_132005, BK128, BK129, BK131, HB⟩ := hrel
    cases gk with
    | zero => exact absurd HA.out (by simp [selfstablaw42_Raw_Link.l0])
    | succ k1 =>
      have H := HA.out
      clear HA
      simp only [selfstablaw42_Raw_Link.l0] at H
      have HC23 := Aside0.mk H
      clear H
      go_upto_region 5 with (fail)
      go_cut [47] (fun v47 wc => ∃ (kq : Nat) (x47_22 : Bool), v47 = .bool x47_22 ∧ Aside0 (selfstablaw42_Raw_Link.j1 kq x4_1 x47_22 a0_0 a0_1 a0_2 a0_3 a0_4 l0_5 l0_6 l0_7 (wrap64 (1 + t130)) (wrap64 ((wrap64 ((wrap64 (2 * (wrap64 (1 + t130)))) + 2)) + t132)) t133 t135 t134 x132005_1 = some (r1, r2, r3, r4, r5, r6, r7)) ∧ Aside0 (kq ≤ k1) ∧ Aside0 (Kd.R k46 46 wc w.heap.size (fun _ => True) u132005 x132005_1) ∧ Aside0 (wc.heap[gb128]? = some (.cells #[.int .i64 a0_0, .int .i64 a0_1, .int .i64 a0_2, .int .i64 a0_3, .int .i64 a0_4, (.slice A0_5 l0_5.length c0_5), (.slice A0_6 l0_6.length c0_6), (.slice A0_7 l0_7.length c0_7)] 24 (0, 0))) ∧ Aside0 (wc.heap[gb129]? = some (.cells #[.int .i64 0, .int .i64 0, .int .i64 0, .int .i64 0, .int .i64 0, (.slice none 0 0), (.slice none 0 0)] 29 (0, 0))) ∧ Aside0 (wc.heap[gb131]? = some (.cells #[.int .i64 (wrap64 (1 + t130)), .int .i64 (wrap64 ((wrap64 ((wrap64 (2 * (wrap64 (1 + t130)))) + 2)) + t132)), .int .i64 t133, .int .i64 t135, .int .i64 t134, u132005, (.slice none 0 0)] 29 (0, 0))) ∧ Aside0 (Below w.heap.size w wc))
      case first =>
        have H := HC23.out
        clear HC23
        by_cases c24 : x4_1 < (l0_5.length : Int)
        · rw [if_pos c24] at H
          have c24b0 : decide (x4_1 < (l0_5.length : Int)) = true := decide_eq_true c24
          clear c24
          (first | rw [c24b0] | (simp only [i64_w, i32_w]; rw [c24b0]) | skip)
          have H' := Aside0.mk H
          clear H
          have hnb25 := NB128_129.out
          have hnc25 := NB129_128.out
          have hnb26 := NB128_131.out
          have hnc26 := NB131_128.out
          have hcz27_0 : wr.cell? ⟨gb128, 0, none⟩ = some (.int .i64 a0_0) := (blk_cell BK128.out 0).trans rfl
          have hcz27_1 : wr.cell? ⟨gb128, 1, none⟩ = some (.int .i64 a0_1) := (blk_cell BK128.out 1).trans rfl
          have hcz27_2 : wr.cell? ⟨gb128, 2, none⟩ = some (.int .i64 a0_2) := (blk_cell BK128.out 2).trans rfl
          have hcz27_3 : wr.cell? ⟨gb128, 3, none⟩ = some (.int .i64 a0_3) := (blk_cell BK128.out 3).trans rfl
          have hcz27_4 : wr.cell? ⟨gb128, 4, none⟩ = some (.int .i64 a0_4) := (blk_cell BK128.out 4).trans rfl
          have hcz27_5 : wr.cell? ⟨gb128, 5, none⟩ = some (.slice A0_5 l0_5.length c0_5) := (blk_cell BK128.out 5).trans rfl
          have hcz27_6 : wr.cell? ⟨gb128, 6, none⟩ = some (.slice A0_6 l0_6.length c0_6) := (blk_cell BK128.out 6).trans rfl
          have hcz27_7 : wr.cell? ⟨gb128, 7, none⟩ = some (.slice A0_7 l0_7.length c0_7) := (blk_cell BK128.out 7).trans rfl
          have hfz27_0 := blk_frozen BK128.out 0
          have hfz27_1 := blk_frozen BK128.out 1
          have hfz27_2 := blk_frozen BK128.out 2
          have hfz27_3 := blk_frozen BK128.out 3
          have hfz27_4 := blk_frozen BK128.out 4
          have hfz27_5 := blk_frozen BK128.out 5
          have hfz27_6 := blk_frozen BK128.out 6
          have hfz27_7 := blk_frozen BK128.out 7
          have hnb28 := NB131_129.out
          have hnc28 := NB129_131.out
          have hcz29_0 : wr.cell? ⟨gb131, 0, none⟩ = some (.int .i64 (wrap64 (1 + t130))) := (blk_cell BK131.out 0).trans rfl
          have hcz29_1 : wr.cell? ⟨gb131, 1, none⟩ = some (.int .i64 (wrap64 ((wrap64 ((wrap64 (2 * (wrap64 (1 + t130)))) + 2)) + t132))) := (blk_cell BK131.out 1).trans rfl
          have hcz29_2 : wr.cell? ⟨gb131, 2, none⟩ = some (.int .i64 t133) := (blk_cell BK131.out 2).trans rfl
          have hcz29_3 : wr.cell? ⟨gb131, 3, none⟩ = some (.int .i64 t135) := (blk_cell BK131.out 3).trans rfl
          have hcz29_4 : wr.cell? ⟨gb131, 4, none⟩ = some (.int .i64 t134) := (blk_cell BK131.out 4).trans rfl
          have hcz29_5 : wr.cell? ⟨gb131, 5, none⟩ = some (u132005) := (blk_cell BK131.out 5).trans rfl
          have hcz29_6 : wr.cell? ⟨gb131, 6, none⟩ = some (.slice none 0 0) := (blk_cell BK131.out 6).trans rfl
          have hfz29_0 := blk_frozen BK131.out 0
          have hfz29_1 := blk_frozen BK131.out 1
          have hfz29_2 := blk_frozen BK131.out 2
          have hfz29_3 := blk_frozen BK131.out 3
          have hfz29_4 := blk_frozen BK131.out 4
          have hfz29_5 := blk_frozen BK131.out 5
          have hfz29_6 := blk_frozen BK131.out 6
          go_wp2
          go_meet
          case rel => exact ⟨_, (decide (x4_1 < (wrap64 (1 + t130)))), (by first | rfl | (simp; done) | (simp [*]; done)), H', ⟨by have := HK1.out; first | omega | exact Nat.le_refl _⟩, ⟨by (with_reducible repeat (first | apply Kd.R_alloc | apply Kd.R_drewN | apply Kd.R_drew)); exact HO_132005.out⟩, ⟨by (with_reducible repeat (first | refine blk_drewN ?_ _ | refine blk_drew ?_ | refine blk_alloc ?_ _)); exact BK128.out⟩, ⟨by (with_reducible repeat (first | refine blk_drewN ?_ _ | refine blk_drew ?_ | refine blk_alloc ?_ _)); exact BK129.out⟩, ⟨by (with_reducible repeat (first | refine blk_drewN ?_ _ | refine blk_drew ?_ | refine blk_alloc ?_ _)); exact BK131.out⟩, ⟨by repeat (first | (with_reducible first | exact HB.out | apply below_alloc | apply pw_below_drewN | apply below_drew1 | refine below_set ?_ GE128.out | refine below_set ?_ GE129.out | refine below_set ?_ GE131.out) | exact HB.out)⟩⟩
        · rw [if_neg c24] at H
          have c24b0 : decide (x4_1 < (l0_5.length : Int)) = false := decide_eq_false c24
          clear c24
          (first | rw [c24b0] | (simp only [i64_w, i32_w]; rw [c24b0]) | skip)
          have H' := Aside0.mk H
          clear H
          have hnb30 := NB128_129.out
          have hnc30 := NB129_128.out
          have hnb31 := NB128_131.out
          have hnc31 := NB131_128.out
          have hcz32_0 : wr.cell? ⟨gb128, 0, none⟩ = some (.int .i64 a0_0) := (blk_cell BK128.out 0).trans rfl
          have hcz32_1 : wr.cell? ⟨gb128, 1, none⟩ = some (.int .i64 a0_1) := (blk_cell BK128.out 1).trans rfl
          have hcz32_2 : wr.cell? ⟨gb128, 2, none⟩ = some (.int .i64 a0_2) := (blk_cell BK128.out 2).trans rfl
          have hcz32_3 : wr.cell? ⟨gb128, 3, none⟩ = some (.int .i64 a0_3) := (blk_cell BK128.out 3).trans rfl
          have hcz32_4 : wr.cell? ⟨gb128, 4, none⟩ = some (.int .i64 a0_4) := (blk_cell BK128.out 4).trans rfl
          have hcz32_5 : wr.cell? ⟨gb128, 5, none⟩ = some (.slice A0_5 l0_5.length c0_5) := (blk_cell BK128.out 5).trans rfl
          have hcz32_6 : wr.cell? ⟨gb128, 6, none⟩ = some (.slice A0_6 l0_6.length c0_6) := (blk_cell BK128.out 6).trans rfl
          have hcz32_7 : wr.cell? ⟨gb128, 7, none⟩ = some (.slice A0_7 l0_7.length c0_7) := (blk_cell BK128.out 7).trans rfl
          have hfz32_0 := blk_frozen BK128.out 0
          have hfz32_1 := blk_frozen BK128.out 1
          have hfz32_2 := blk_frozen BK128.out 2
          have hfz32_3 := blk_frozen BK128.out 3
          have hfz32_4 := blk_frozen BK128.out 4
          have hfz32_5 := blk_frozen BK128.out 5
          have hfz32_6 := blk_frozen BK128.out 6
          have hfz32_7 := blk_frozen BK128.out 7
          go_wp2
          go_meet
          case rel => exact ⟨_, (false), (by first | rfl | (simp; done) | (simp [*]; done)), H', ⟨by have := HK1.out; first | omega | exact Nat.le_refl _⟩, ⟨by (with_reducible repeat (first | apply Kd.R_alloc | apply Kd.R_drewN | apply Kd.R_drew)); exact HO_132005.out⟩, ⟨by (with_reducible repeat (first | refine blk_drewN ?_ _ | refine blk_drew ?_ | refine blk_alloc ?_ _)); exact BK128.out⟩, ⟨by (with_reducible repeat (first | refine blk_drewN ?_ _ | refine blk_drew ?_ | refine blk_alloc ?_ _)); exact BK129.out⟩, ⟨by (with_reducible repeat (first | refine blk_drewN ?_ _ | refine blk_drew ?_ | refine blk_alloc ?_ _)); exact BK131.out⟩, ⟨by repeat (first | (with_reducible first | exact HB.out | apply below_alloc | apply pw_below_drewN | apply below_drew1 | refine below_set ?_ GE128.out | refine below_set ?_ GE129.out | refine below_set ?_ GE131.out) | exact HB.out)⟩⟩
      case rest =>
        clear HC23
        try clear c1
        try clear c2
        try clear p2
        try clear c3
        try clear p6
        try clear c9
        try clear c10
        try clear c12
        try clear c13
        try clear c17
        try clear c24
        try clear c24b0
        try clear c25
        try clear c26
        try clear c28
        try clear c30
        try clear c31
        try clear hcz10_0
        try clear hcz10_1
        try clear hcz10_2
        try clear hcz10_3
        try clear hcz10_4
        try clear hcz10_5
        try clear hcz10_6
        try clear hcz10_7
        try clear hcz14_0
        try clear hcz14_1
        try clear hcz14_2
        try clear hcz14_3
        try clear hcz14_4
        try clear hcz14_5
        try clear hcz14_6
        try clear hcz27_0
        try clear hcz27_1
        try clear hcz27_2
        try clear hcz27_3
        try clear hcz27_4
        try clear hcz27_5
        try clear hcz27_6
        try clear hcz27_7
        try clear hcz29_0
        try clear hcz29_1
        try clear hcz29_2
        try clear hcz29_3
        try clear hcz29_4
        try clear hcz29_5
        try clear hcz29_6
        try clear hcz32_0
        try clear hcz32_1
        try clear hcz32_2
        try clear hcz32_3
        try clear hcz32_4
        try clear hcz32_5
        try clear hcz32_6
        try clear hcz32_7
        try clear hfz10_0
        try clear hfz10_1
        try clear hfz10_2
        try clear hfz10_3
        try clear hfz10_4
        try clear hfz10_5
        try clear hfz10_6
        try clear hfz10_7
        try clear hfz14_0
        try clear hfz14_1
        try clear hfz14_2
        try clear hfz14_3
        try clear hfz14_4
        try clear hfz14_5
        try clear hfz14_6
        try clear hfz27_0
        try clear hfz27_1
        try clear hfz27_2
        try clear hfz27_3
        try clear hfz27_4
        try clear hfz27_5
        try clear hfz27_6
        try clear hfz27_7
        try clear hfz29_0
        try clear hfz29_1
        try clear hfz29_2
        try clear hfz29_3
        try clear hfz29_4
        try clear hfz29_5
        try clear hfz29_6
        try clear hfz32_0
        try clear hfz32_1
        try clear hfz32_2
        try clear hfz32_3
        try clear hfz32_4
        try clear hfz32_5
        try clear hfz32_6
        try clear hfz32_7
        try clear p2
        try clear p6
        obtain ⟨kq, x47_22, rfl, HA, HJ22, HO_132005, BK128, BK129, BK131, HB⟩ := hcut
        cases kq with
        | zero => exact absurd HA.out (by simp [selfstablaw42_Raw_Link.j1])
        | succ kj22 =>
          have H := HA.out
          clear HA
          simp only [selfstablaw42_Raw_Link.j1] at H
          by_cases c33 : x47_22 = true
          · subst c33
            have H1 : (if x4_1 < (l0_6.length : Int) then (if 0 ≤ x4_1 then ((selfstabworld_Within.f (rd l0_6 x4_1) 50).bind fun t137 => (if x4_1 < (l0_5.length : Int) then ((selfstabworld_Within.f (rd l0_5 x4_1) (wrap64 ((wrap64 ((wrap64 (2 * (wrap64 (1 + t130)))) + 2)) + t132))).bind fun t139 => (if x132005_1.length < 8796093022208 then (selfstablaw42_Raw_Link.l0 kj22 (wrap64 (x4_1 + 1)) a0_0 a0_1 a0_2 a0_3 a0_4 l0_5 l0_6 l0_7 (wrap64 (1 + t130)) (wrap64 ((wrap64 ((wrap64 (2 * (wrap64 (1 + t130)))) + 2)) + t132)) t133 t135 t134 (x132005_1 ++ [(⟨t139, wrap64 ((-1) - t137)⟩ : S46)])) else (none))) else (none))) else (none)) else (if 0 ≤ x4_1 then (if x4_1 < (l0_5.length : Int) then ((selfstabworld_Within.f (rd l0_5 x4_1) (wrap64 ((wrap64 ((wrap64 (2 * (wrap64 (1 + t130)))) + 2)) + t132))).bind fun t144 => (if x132005_1.length < 8796093022208 then (selfstablaw42_Raw_Link.l0 kj22 (wrap64 (x4_1 + 1)) a0_0 a0_1 a0_2 a0_3 a0_4 l0_5 l0_6 l0_7 (wrap64 (1 + t130)) (wrap64 ((wrap64 ((wrap64 (2 * (wrap64 (1 + t130)))) + 2)) + t132)) t133 t135 t134 (x132005_1 ++ [(⟨t144, (-1) - 0⟩ : S46)])) else (none))) else (none)) else (none))) = some (r1, r2, r3, r4, r5, r6, r7) := by rw [if_pos rfl] at H; exact H
            clear H
            have H := H1
            clear H1
            by_cases c34 : x4_1 < (l0_6.length : Int)
            · rw [if_pos c34] at H
              have c34b0 : decide (x4_1 < (l0_6.length : Int)) = true := decide_eq_true c34
              clear c34
              by_cases c35 : 0 ≤ x4_1
              · rw [if_pos c35] at H
                have c35b0 : decide (0 ≤ x4_1) = true := decide_eq_true c35
                clear c35
                replace H := Option.bind_eq_some_iff.mp H
                obtain ⟨t137, A360, H⟩ := H
                replace H : (if x4_1 < (l0_5.length : Int) then ((selfstabworld_Within.f (rd l0_5 x4_1) (wrap64 ((wrap64 ((wrap64 (2 * (wrap64 (1 + t130)))) + 2)) + t132))).bind fun t139 => (if x132005_1.length < 8796093022208 then (selfstablaw42_Raw_Link.l0 kj22 (wrap64 (x4_1 + 1)) a0_0 a0_1 a0_2 a0_3 a0_4 l0_5 l0_6 l0_7 (wrap64 (1 + t130)) (wrap64 ((wrap64 ((wrap64 (2 * (wrap64 (1 + t130)))) + 2)) + t132)) t133 t135 t134 (x132005_1 ++ [(⟨t139, wrap64 ((-1) - t137)⟩ : S46)])) else (none))) else (none)) = some (r1, r2, r3, r4, r5, r6, r7) := H
                have A36 := Aside0.mk A360
                clear A360
                by_cases c37 : x4_1 < (l0_5.length : Int)
                · rw [if_pos c37] at H
                  have c37b0 : decide (x4_1 < (l0_5.length : Int)) = true := decide_eq_true c37
                  clear c37
                  replace H := Option.bind_eq_some_iff.mp H
                  obtain ⟨t139, A380, H⟩ := H
                  replace H : (if x132005_1.length < 8796093022208 then (selfstablaw42_Raw_Link.l0 kj22 (wrap64 (x4_1 + 1)) a0_0 a0_1 a0_2 a0_3 a0_4 l0_5 l0_6 l0_7 (wrap64 (1 + t130)) (wrap64 ((wrap64 ((wrap64 (2 * (wrap64 (1 + t130)))) + 2)) + t132)) t133 t135 t134 (x132005_1 ++ [(⟨t139, wrap64 ((-1) - t137)⟩ : S46)])) else (none)) = some (r1, r2, r3, r4, r5, r6, r7) := H
                  have A38 := Aside0.mk A380
                  clear A380
                  by_cases c39 : x132005_1.length < 8796093022208
                  · rw [if_pos c39] at H
                    have LMc39 := Aside0.mk c39
                    clear c39
                    obtain ⟨y140, hy140⟩ : ∃ y_ : List (S46), y_ = (x132005_1 ++ [(⟨t139, wrap64 ((-1) - t137)⟩ : S46)]) := ⟨_, rfl⟩
                    replace H : (selfstablaw42_Raw_Link.l0 kj22 (wrap64 (x4_1 + 1)) a0_0 a0_1 a0_2 a0_3 a0_4 l0_5 l0_6 l0_7 (wrap64 (1 + t130)) (wrap64 ((wrap64 ((wrap64 (2 * (wrap64 (1 + t130)))) + 2)) + t132)) t133 t135 t134 y140) = some (r1, r2, r3, r4, r5, r6, r7) := by first | (rw [hy140]; with_reducible exact H) | (have H2_ := (Option.bind_some _ _).symm.trans H; rw [hy140]; with_reducible exact H2_) | (have H2_ := (Option.bind_some _ _).symm.trans H; with_reducible exact H2_) | with_reducible exact H | (rw [hy140]; exact H) | exact H
                    have Ny140 := Aside0.mk hy140
                    clear hy140
                    have H' := Aside0.mk H
                    clear H
                    have hnb40 := NB128_129.out
                    have hnc40 := NB129_128.out
                    have hnb41 := NB128_131.out
                    have hnc41 := NB131_128.out
                    have hcz42_0 : wc.cell? ⟨gb128, 0, none⟩ = some (.int .i64 a0_0) := (blk_cell BK128.out 0).trans rfl
                    have hcz42_1 : wc.cell? ⟨gb128, 1, none⟩ = some (.int .i64 a0_1) := (blk_cell BK128.out 1).trans rfl
                    have hcz42_2 : wc.cell? ⟨gb128, 2, none⟩ = some (.int .i64 a0_2) := (blk_cell BK128.out 2).trans rfl
                    have hcz42_3 : wc.cell? ⟨gb128, 3, none⟩ = some (.int .i64 a0_3) := (blk_cell BK128.out 3).trans rfl
                    have hcz42_4 : wc.cell? ⟨gb128, 4, none⟩ = some (.int .i64 a0_4) := (blk_cell BK128.out 4).trans rfl
                    have hcz42_5 : wc.cell? ⟨gb128, 5, none⟩ = some (.slice A0_5 l0_5.length c0_5) := (blk_cell BK128.out 5).trans rfl
                    have hcz42_6 : wc.cell? ⟨gb128, 6, none⟩ = some (.slice A0_6 l0_6.length c0_6) := (blk_cell BK128.out 6).trans rfl
                    have hcz42_7 : wc.cell? ⟨gb128, 7, none⟩ = some (.slice A0_7 l0_7.length c0_7) := (blk_cell BK128.out 7).trans rfl
                    have hfz42_0 := blk_frozen BK128.out 0
                    have hfz42_1 := blk_frozen BK128.out 1
                    have hfz42_2 := blk_frozen BK128.out 2
                    have hfz42_3 := blk_frozen BK128.out 3
                    have hfz42_4 := blk_frozen BK128.out 4
                    have hfz42_5 := blk_frozen BK128.out 5
                    have hfz42_6 := blk_frozen BK128.out 6
                    have hfz42_7 := blk_frozen BK128.out 7
                    have p136 : 0 ≤ (x4_1 : Int) := of_decide_eq_true (by first | (with_reducible assumption) | assumption)
                    have q136 : x4_1 < (l0_6.length : Int) := of_decide_eq_true (by first | (with_reducible assumption) | assumption)
                    obtain ⟨ad136, e136, hx136_0⟩ := Kd.at_int HR0_6.out x4_1 p136 q136
                    cases e136
                    replace hx136_0 := (HB.out.cell (World.block_lt_of_cell? w _ hx136_0)).trans hx136_0
                    replace p136 := eq_true p136
                    replace q136 := eq_true q136
                    try go_wp2_with (first | ((with_reducible refine gate_callee (f := 17) rfl ?_); refine goesL_ (some 60) rfl rfl Try.func17 (by kernel_rfl) rfl #[.int .i64 (rd l0_6 x4_1), .int .i64 50] rfl (by (try simp only [List.map_toArray, List.map_cons, List.map_nil]); first | done | rfl | (simp only [List.length_drop, List.length_take]; rfl)) ?_; (with_reducible refine (selfstabworld_Within.calls (rd l0_6 x4_1) 50 t137 _ A36.out).mono ?_); rintro e w' ⟨rfl, ⟨nd, rfl⟩⟩; refine ⟨_, rfl, ?_⟩; (try (rw [drewN_self wc]; generalize hq_ : World.drewN wc _ = wc; have n0_ : Aside0 (Kd.R k46 46 wc w.heap.size (fun _ => True) u132005 x132005_1) := ⟨by rw [← hq_]; exact (by (with_reducible repeat (first | apply Kd.R_alloc | apply Kd.R_drewN | apply Kd.R_drew)); exact HO_132005.out)⟩; have n1_ : Aside0 (wc.heap[gb128]? = some (.cells #[.int .i64 a0_0, .int .i64 a0_1, .int .i64 a0_2, .int .i64 a0_3, .int .i64 a0_4, .slice A0_5 l0_5.length c0_5, .slice (some ad136) l0_6.length c0_6, .slice A0_7 l0_7.length c0_7] 24 (0, 0))) := ⟨by rw [← hq_]; exact (by (with_reducible repeat (first | refine blk_drewN ?_ _ | refine blk_drew ?_ | refine blk_alloc ?_ _)); exact BK128.out)⟩; have n2_ : Aside0 (wc.heap[gb129]? = some (.cells #[.int .i64 0, .int .i64 0, .int .i64 0, .int .i64 0, .int .i64 0, .slice none 0 0, .slice none 0 0] 29 (0, 0))) := ⟨by rw [← hq_]; exact (by (with_reducible repeat (first | refine blk_drewN ?_ _ | refine blk_drew ?_ | refine blk_alloc ?_ _)); exact BK129.out)⟩; have n3_ : Aside0 (wc.heap[gb131]? = some (.cells #[.int .i64 (wrap64 (1 + t130)), .int .i64 (wrap64 ((wrap64 ((wrap64 (2 * (wrap64 (1 + t130)))) + 2)) + t132)), .int .i64 t133, .int .i64 t135, .int .i64 t134, u132005, .slice none 0 0] 29 (0, 0))) := ⟨by rw [← hq_]; exact (by (with_reducible repeat (first | refine blk_drewN ?_ _ | refine blk_drew ?_ | refine blk_alloc ?_ _)); exact BK131.out)⟩; have n4_ : Aside0 (Below w.heap.size w wc) := ⟨by rw [← hq_]; exact (by repeat (first | (with_reducible first | exact HB.out | apply below_alloc | apply pw_below_drewN | apply below_drew1 | refine below_set ?_ GE128.out | refine below_set ?_ GE129.out | refine below_set ?_ GE131.out) | exact HB.out))⟩; clear HO_132005 BK128 BK129 BK131 HB hq_; have HO_132005 := n0_; have BK128 := n1_; have BK129 := n2_; have BK131 := n3_; have HB := n4_; clear n0_ n1_ n2_ n3_ n4_))))
                    have n0_ := Aside0.mk (Kd.R_drew HO_132005.out)
                    have n1_ := Aside0.mk (blk_drew BK128.out)
                    have n2_ := Aside0.mk (blk_drew BK129.out)
                    have n3_ := Aside0.mk (blk_drew BK131.out)
                    have n4_ := Aside0.mk (below_drew1 HB.out)
                    clear HO_132005
                    clear BK128
                    clear BK129
                    clear BK131
                    clear HB
                    have HO_132005 := n0_
                    have BK128 := n1_
                    have BK129 := n2_
                    have BK131 := n3_
                    have HB := n4_
                    clear n0_ n1_ n2_ n3_ n4_
                    have p138 : 0 ≤ (x4_1 : Int) := of_decide_eq_true (by first | (with_reducible assumption) | assumption)
                    have q138 : x4_1 < (l0_5.length : Int) := of_decide_eq_true (by first | (with_reducible assumption) | assumption)
                    obtain ⟨ad138, e138, hx138_0⟩ := Kd.at_int HR0_5.out x4_1 p138 q138
                    have hw138_0 := hx138_0
                    cases e138
                    replace hx138_0 := (HB.out.cell (World.block_lt_of_cell? w _ hx138_0)).trans hx138_0
                    replace p138 := eq_true p138
                    replace q138 := eq_true q138
                    refine start_ (n := 17) (S := fun w' => w'.cell? ⟨gb131, 0, none⟩ = some (.int .i64 (wrap64 (1 + t130))) ∧ w'.cell? ⟨gb131, 1, none⟩ = some (.int .i64 (wrap64 ((wrap64 ((wrap64 (2 * (wrap64 (1 + t130)))) + 2)) + t132))) ∧ w'.cell? ⟨gb131, 2, none⟩ = some (.int .i64 t133) ∧ w'.cell? ⟨gb131, 3, none⟩ = some (.int .i64 t135) ∧ w'.cell? ⟨gb131, 4, none⟩ = some (.int .i64 t134) ∧ w'.cell? ⟨gb131, 5, none⟩ = some (u132005) ∧ w'.cell? ⟨gb131, 6, none⟩ = some (.slice none 0 0) ∧ w'.cell? ⟨gb128, 0, none⟩ = some (.int .i64 a0_0) ∧ w'.cell? ⟨gb128, 1, none⟩ = some (.int .i64 a0_1) ∧ w'.cell? ⟨gb128, 2, none⟩ = some (.int .i64 a0_2) ∧ w'.cell? ⟨gb128, 3, none⟩ = some (.int .i64 a0_3) ∧ w'.cell? ⟨gb128, 4, none⟩ = some (.int .i64 a0_4) ∧ w'.cell? ⟨gb128, 5, none⟩ = some (.slice (some ad138) l0_5.length c0_5) ∧ w'.cell? ⟨gb128, 6, none⟩ = some (.slice (some ad136) l0_6.length c0_6) ∧ w'.cell? ⟨gb128, 7, none⟩ = some (.slice A0_7 l0_7.length c0_7) ∧ w'.cell? (ad138.add (x4_1).toNat) = some (.int .i64 (rd l0_5 x4_1))) (ds := [16]) #[false, false, false, false, false, false, false, false, false, false, false, false, false, false, false, false, false] (by kernel_rfl) rfl rfl ⟨(blk_cell BK131.out 0).trans rfl, (blk_cell BK131.out 1).trans rfl, (blk_cell BK131.out 2).trans rfl, (blk_cell BK131.out 3).trans rfl, (blk_cell BK131.out 4).trans rfl, (blk_cell BK131.out 5).trans rfl, (blk_cell BK131.out 6).trans rfl, (blk_cell BK128.out 0).trans rfl, (blk_cell BK128.out 1).trans rfl, (blk_cell BK128.out 2).trans rfl, (blk_cell BK128.out 3).trans rfl, (blk_cell BK128.out 4).trans rfl, (blk_cell BK128.out 5).trans rfl, (blk_cell BK128.out 6).trans rfl, (blk_cell BK128.out 7).trans rfl, ((HB.out.cell (World.block_lt_of_cell? w _ hw138_0)).trans hw138_0)⟩ (fun hHeld => ?_); refine with_tabW selfstablaw42_Raw_Link.tab10 selfstablaw42_Raw_Link.bits10 (fun HT_ HW_ => ?_)
                    generalize wc.drew = w43 at HO_132005 BK128 BK129 BK131 HB hx138_0 hHeld ⊢
                    refine pure_ (i := 0) (N := some 61) (v := ?_) (a' := ?_) #[true, false, false, false, false, false, false, false, false, false, false, false, false, false, false, false, false] rfl rfl (any_of HT_.out (by kernel_rfl)) (fun _ _ _ h => h) (Or.inl ⟨by rfl, ?_⟩) ?_ ?_
                    rotate_left
                    · intro w'
                      go_simp
                      with_reducible rfl
                    rotate_left
                    · simp only [Act.put, List.setIfInBounds_toArray, List.set_cons_zero, List.set_cons_succ, i64_w, i32_w]
                      rfl
                    refine pure_ (i := 2) (N := some 63) (v := ?_) (a' := ?_) #[true, false, true, false, false, false, false, false, false, false, false, false, false, false, false, false, false] rfl rfl (any_of HT_.out (by kernel_rfl)) (fun _ _ _ h => h) (Or.inl ⟨by rfl, ?_⟩) ?_ ?_
                    rotate_left
                    · intro w'
                      go_simp
                      with_reducible rfl
                    rotate_left
                    · simp only [Act.put, List.setIfInBounds_toArray, List.set_cons_zero, List.set_cons_succ, i64_w, i32_w]
                      rfl
                    refine pure_ (i := 4) (N := some 65) (v := ?_) (a' := ?_) #[true, false, true, false, true, false, false, false, false, false, false, false, false, false, false, false, false] rfl rfl (any_of HT_.out (by kernel_rfl)) (fun _ _ _ h => h) (Or.inl ⟨by rfl, ?_⟩) ?_ ?_
                    rotate_left
                    · intro w'
                      go_simp
                      with_reducible rfl
                    rotate_left
                    · simp only [Act.put, List.setIfInBounds_toArray, List.set_cons_zero, List.set_cons_succ, i64_w, i32_w]
                      rfl
                    refine pure_ (i := 7) (N := some 68) (v := ?_) (a' := ?_) #[true, false, true, false, true, false, false, true, false, false, false, false, false, false, false, false, false] rfl rfl (any_of HT_.out (by kernel_rfl)) (fun _ _ _ h => h) (Or.inl ⟨by rfl, ?_⟩) ?_ ?_
                    rotate_left
                    · intro w'
                      go_simp
                      with_reducible rfl
                    rotate_left
                    · simp only [Act.put, List.setIfInBounds_toArray, List.set_cons_zero, List.set_cons_succ, i64_w, i32_w]
                      rfl
                    refine pure_ (i := 10) (N := some 71) (v := ?_) (a' := ?_) #[true, false, true, false, true, false, false, true, false, false, true, false, false, false, false, false, false] rfl rfl (any_of HT_.out (by kernel_rfl)) (fun _ _ _ h => h) (Or.inl ⟨by rfl, ?_⟩) ?_ ?_
                    rotate_left
                    · intro w'
                      go_simp
                      with_reducible rfl
                    rotate_left
                    · simp only [Act.put, List.setIfInBounds_toArray, List.set_cons_zero, List.set_cons_succ, i64_w, i32_w]
                      rfl
                    refine pure_ (i := 11) (N := some 72) (v := ?_) (a' := ?_) #[true, false, true, false, true, false, false, true, false, false, true, true, false, false, false, false, false] rfl rfl (any_of HT_.out (by kernel_rfl)) (fun _ _ _ h => h) (Or.inl ⟨by rfl, ?_⟩) ?_ ?_
                    rotate_left
                    · intro w'
                      go_simp
                      with_reducible rfl
                    rotate_left
                    · simp only [Act.put, List.setIfInBounds_toArray, List.set_cons_zero, List.set_cons_succ, i64_w, i32_w]
                      rfl
                    refine take_ (i := 1) (N := some 62) (v := ?_) (a' := ?_) #[true, true, true, false, true, false, false, true, false, false, true, true, false, false, false, false, false] rfl rfl (take_ofW HT_.out HW_.out (by kernel_rfl)) (fun _ _ _ h => h) (Or.inl ⟨by rfl, ?_⟩) hHeld ?_ ?_
                    rotate_left
                    · rintro w' ⟨s0, s1, s2, s3, s4, s5, s6, s7, s8, s9, s10, s11, s12, s13, s14, s15⟩
                      go_simp
                      with_reducible rfl
                    rotate_left
                    · simp only [Act.put, List.setIfInBounds_toArray, List.set_cons_zero, List.set_cons_succ, i64_w, i32_w]
                      rfl
                    refine take_ (i := 3) (N := some 64) (v := ?_) (a' := ?_) #[true, true, true, true, true, false, false, true, false, false, true, true, false, false, false, false, false] rfl rfl (take_ofW HT_.out HW_.out (by kernel_rfl)) (fun _ _ _ h => h) (Or.inl ⟨by rfl, ?_⟩) hHeld ?_ ?_
                    rotate_left
                    · rintro w' ⟨s0, s1, s2, s3, s4, s5, s6, s7, s8, s9, s10, s11, s12, s13, s14, s15⟩
                      go_simp
                      with_reducible rfl
                    rotate_left
                    · simp only [Act.put, List.setIfInBounds_toArray, List.set_cons_zero, List.set_cons_succ, i64_w, i32_w]
                      rfl
                    refine pure_ (i := 5) (N := some 66) (v := ?_) (a' := ?_) #[true, true, true, true, true, true, false, true, false, false, true, true, false, false, false, false, false] rfl rfl (any_of HT_.out (by kernel_rfl)) (fun _ _ _ h => h) (Or.inl ⟨by rfl, ?_⟩) ?_ ?_
                    rotate_left
                    · intro w'
                      go_simp
                      with_reducible rfl
                    rotate_left
                    · simp only [Act.put, List.setIfInBounds_toArray, List.set_cons_zero, List.set_cons_succ, i64_w, i32_w]
                      rfl
                    refine take_ (i := 6) (N := some 67) (v := ?_) (a' := ?_) #[true, true, true, true, true, true, true, true, false, false, true, true, false, false, false, false, false] rfl rfl (take_ofW HT_.out HW_.out (by kernel_rfl)) (fun _ _ _ h => h) (Or.inl ⟨by rfl, ?_⟩) hHeld ?_ ?_
                    rotate_left
                    · rintro w' ⟨s0, s1, s2, s3, s4, s5, s6, s7, s8, s9, s10, s11, s12, s13, s14, s15⟩
                      go_simp
                      with_reducible rfl
                    rotate_left
                    · simp only [Act.put, List.setIfInBounds_toArray, List.set_cons_zero, List.set_cons_succ, i64_w, i32_w]
                      rfl
                    refine take_ (i := 8) (N := some 69) (v := ?_) (a' := ?_) #[true, true, true, true, true, true, true, true, true, false, true, true, false, false, false, false, false] rfl rfl (take_ofW HT_.out HW_.out (by kernel_rfl)) (fun _ _ _ h => h) (Or.inl ⟨by rfl, ?_⟩) hHeld ?_ ?_
                    rotate_left
                    · rintro w' ⟨s0, s1, s2, s3, s4, s5, s6, s7, s8, s9, s10, s11, s12, s13, s14, s15⟩
                      go_simp
                      with_reducible rfl
                    rotate_left
                    · simp only [Act.put, List.setIfInBounds_toArray, List.set_cons_zero, List.set_cons_succ, i64_w, i32_w]
                      rfl
                    refine one_ (i := 9) (N := some 70) #[true, true, true, true, true, true, true, true, true, true, true, true, false, false, false, false, false] rfl rfl (one_of HT_.out (by kernel_rfl)) (by decide) (fun K hK => ?_)
                    refine goes_ Try.func17 (by kernel_rfl) rfl #[.int .i64 (rd l0_5 x4_1), .int .i64 (wrap64 ((wrap64 ((wrap64 (2 * (wrap64 (1 + t130)))) + 2)) + t132))] (by rfl) rfl rfl (by (try simp only [List.map_toArray, List.map_cons, List.map_nil]); first | done | rfl | (simp only [List.length_drop, List.length_take]; rfl)) ?_
                    with_reducible refine (selfstabworld_Within.calls (rd l0_5 x4_1) (wrap64 ((wrap64 ((wrap64 (2 * (wrap64 (1 + t130)))) + 2)) + t132)) t139 _ A38.out).mono ?_
                    rintro e w' ⟨rfl, ⟨nd, rfl⟩⟩
                    refine ⟨_, rfl, ?_⟩
                    refine hK.out _ _ ⟨(blk_cell BK131.out 0).trans rfl, (blk_cell BK131.out 1).trans rfl, (blk_cell BK131.out 2).trans rfl, (blk_cell BK131.out 3).trans rfl, (blk_cell BK131.out 4).trans rfl, (blk_cell BK131.out 5).trans rfl, (blk_cell BK131.out 6).trans rfl, (blk_cell BK128.out 0).trans rfl, (blk_cell BK128.out 1).trans rfl, (blk_cell BK128.out 2).trans rfl, (blk_cell BK128.out 3).trans rfl, (blk_cell BK128.out 4).trans rfl, (blk_cell BK128.out 5).trans rfl, (blk_cell BK128.out 6).trans rfl, (blk_cell BK128.out 7).trans rfl, ((HB.out.cell (World.block_lt_of_cell? w _ hw138_0)).trans hw138_0)⟩ (fun hHeld => ?_)
                    clear hK K
                    refine norm_ (a' := ?_) ?_ ?_
                    rotate_left
                    · show Act.put _ (some 70) _ = _
                      simp only [Act.put, List.setIfInBounds_toArray, List.set_cons_zero, List.set_cons_succ, i64_w, i32_w]
                      rfl
                    refine pure_ (i := 12) (N := some 73) (v := ?_) (a' := ?_) #[true, true, true, true, true, true, true, true, true, true, true, true, true, false, false, false, false] rfl rfl (any_of HT_.out (by kernel_rfl)) (fun _ _ _ h => h) (Or.inl ⟨by rfl, ?_⟩) ?_ ?_
                    rotate_left
                    · intro w'
                      go_simp
                      with_reducible rfl
                    rotate_left
                    · simp only [Act.put, List.setIfInBounds_toArray, List.set_cons_zero, List.set_cons_succ, i64_w, i32_w]
                      rfl
                    refine one_ (i := 13) (N := some 74) #[true, true, true, true, true, true, true, true, true, true, true, true, true, true, false, false, false] rfl rfl (one_of HT_.out (by kernel_rfl)) (by decide) (fun K hK => ?_)
                    refine value_ (w1 := ?_) (v := ?_) (by rfl) rfl ?_ ?_
                    rotate_left 2
                    · go_simp
                      constructor
                      · rfl
                      · rfl
                    refine hK.out _ _ ⟨(blk_cell (blk_alloc BK131.out _) 0).trans rfl, (blk_cell (blk_alloc BK131.out _) 1).trans rfl, (blk_cell (blk_alloc BK131.out _) 2).trans rfl, (blk_cell (blk_alloc BK131.out _) 3).trans rfl, (blk_cell (blk_alloc BK131.out _) 4).trans rfl, (blk_cell (blk_alloc BK131.out _) 5).trans rfl, (blk_cell (blk_alloc BK131.out _) 6).trans rfl, (blk_cell (blk_alloc BK128.out _) 0).trans rfl, (blk_cell (blk_alloc BK128.out _) 1).trans rfl, (blk_cell (blk_alloc BK128.out _) 2).trans rfl, (blk_cell (blk_alloc BK128.out _) 3).trans rfl, (blk_cell (blk_alloc BK128.out _) 4).trans rfl, (blk_cell (blk_alloc BK128.out _) 5).trans rfl, (blk_cell (blk_alloc BK128.out _) 6).trans rfl, (blk_cell (blk_alloc BK128.out _) 7).trans rfl, (World.cell?_alloc_lt _ _ _ (World.block_lt_of_cell? _ _ (((HB.out.cell (World.block_lt_of_cell? w _ hw138_0)).trans hw138_0)))).trans (((HB.out.cell (World.block_lt_of_cell? w _ hw138_0)).trans hw138_0))⟩ (fun hHeld => ?_)
                    clear hK K
                    refine norm_ (a' := ?_) ?_ ?_
                    rotate_left
                    · show Act.put _ (some 74) _ = _
                      simp only [Act.put, List.setIfInBounds_toArray, List.set_cons_zero, List.set_cons_succ, i64_w, i32_w]
                      rfl
                    refine one_ (i := 14) (N := some 75) #[true, true, true, true, true, true, true, true, true, true, true, true, true, true, true, false, false] rfl rfl (one_of HT_.out (by kernel_rfl)) (by decide) (fun K hK => ?_)
                    refine Kd.R_append_step k46 (w0 := w) w.heap.size (by rfl) (.tmp 62) (.tmp 74) 27 46 (.agg #[(.int .i64 0), (.int .i64 0)]) 16 rfl Try.underlying27 info46 rfl (by decide) (by omega) u132005 x132005_1 (⟨t139, wrap64 ((-1) - t137)⟩ : S46) [.int .i64 t139, .int .i64 (wrap64 ((-1) - t137))] (fun _ => True) (fun _ => False) rfl rfl ?aP (fun _ hk => hk.elim) ?aF ?aO ?aB ?aS ?aL ?_
                    (case aP => exact k46_mkM _ _ _ (⟨t139, wrap64 ((-1) - t137)⟩ : S46))
                    (case aB => exact (by repeat (first | (with_reducible first | exact HB.out | apply below_alloc | apply pw_below_drewN | apply below_drew1 | refine below_set ?_ GE128.out | refine below_set ?_ GE129.out | refine below_set ?_ GE131.out) | exact HB.out)))
                    (case aF => exact (fun _ _ => trivial))
                    (case aO => exact (by (with_reducible repeat (first | apply Kd.R_alloc | apply Kd.R_drewN | apply Kd.R_drew)); exact HO_132005.out))
                    (case aS => exact (below_size (by repeat (first | (with_reducible first | exact HB.out | apply below_alloc | apply pw_below_drewN | apply below_drew1 | refine below_set ?_ GE128.out | refine below_set ?_ GE129.out | refine below_set ?_ GE131.out) | exact HB.out))))
                    (case aL => have := LMc39.out; omega)
                    intro v141 w44 ho hb hg hat
                    rw [← Ny140.out] at ho
                    have n0_ := Aside0.mk (blk_grown (g := gb128) (o := .cells #[.int .i64 a0_0, .int .i64 a0_1, .int .i64 a0_2, .int .i64 a0_3, .int .i64 a0_4, .slice (some ad138) l0_5.length c0_5, .slice (some ad136) l0_6.length c0_6, .slice A0_7 l0_7.length c0_7] 24 (0, 0)) (by (with_reducible repeat (first | refine blk_drewN ?_ _ | refine blk_drew ?_ | refine blk_alloc ?_ _)); exact BK128.out) hg (Kd.R_ne HO_132005.out BK128.out (by decide)))
                    have n1_ := Aside0.mk (blk_grown (g := gb129) (o := .cells #[.int .i64 0, .int .i64 0, .int .i64 0, .int .i64 0, .int .i64 0, .slice none 0 0, .slice none 0 0] 29 (0, 0)) (by (with_reducible repeat (first | refine blk_drewN ?_ _ | refine blk_drew ?_ | refine blk_alloc ?_ _)); exact BK129.out) hg (Kd.R_ne HO_132005.out BK129.out (by decide)))
                    have n2_ := Aside0.mk (blk_grown (g := gb131) (o := .cells #[.int .i64 (wrap64 (1 + t130)), .int .i64 (wrap64 ((wrap64 ((wrap64 (2 * (wrap64 (1 + t130)))) + 2)) + t132)), .int .i64 t133, .int .i64 t135, .int .i64 t134, u132005, .slice none 0 0] 29 (0, 0)) (by (with_reducible repeat (first | refine blk_drewN ?_ _ | refine blk_drew ?_ | refine blk_alloc ?_ _)); exact BK131.out) hg (Kd.R_ne HO_132005.out BK131.out (by decide)))
                    have n3_ := Aside0.mk (hb)
                    have n4_ := Aside0.mk (ho)
                    clear BK128
                    clear BK129
                    clear BK131
                    clear HB
                    clear HO_132005
                    have BK128 := n0_
                    have BK129 := n1_
                    have BK131 := n2_
                    have HB := n3_
                    have HO142 := n4_
                    clear n0_ n1_ n2_ n3_ n4_
                    clear ho hb hg hat
                    obtain ⟨Ao45, co45, eo45⟩ := Kd.R_slice HO142.out
                    (first | subst eo45 | (injection eo45 with f1_ f2_ f3_; have f4_ := f1_.symm; have f5_ := f3_.symm; clear f1_ f2_ f3_; subst f4_; subst f5_))
                    refine hK.out _ _ ⟨(blk_cell BK131.out 0).trans rfl, (blk_cell BK131.out 1).trans rfl, (blk_cell BK131.out 2).trans rfl, (blk_cell BK131.out 3).trans rfl, (blk_cell BK131.out 4).trans rfl, (blk_cell BK131.out 5).trans rfl, (blk_cell BK131.out 6).trans rfl, (blk_cell BK128.out 0).trans rfl, (blk_cell BK128.out 1).trans rfl, (blk_cell BK128.out 2).trans rfl, (blk_cell BK128.out 3).trans rfl, (blk_cell BK128.out 4).trans rfl, (blk_cell BK128.out 5).trans rfl, (blk_cell BK128.out 6).trans rfl, (blk_cell BK128.out 7).trans rfl, ((HB.out.cell (World.block_lt_of_cell? w _ hw138_0)).trans hw138_0)⟩ (fun hHeld => ?_)
                    clear hK K
                    refine norm_ (a' := ?_) ?_ ?_
                    rotate_left
                    · show Act.put _ (some 75) _ = _
                      simp only [Act.put, List.setIfInBounds_toArray, List.set_cons_zero, List.set_cons_succ, i64_w, i32_w]
                      rfl
                    refine pure_ (i := 15) (N := some 76) (v := ?_) (a' := ?_) #[true, true, true, true, true, true, true, true, true, true, true, true, true, true, true, true, false] rfl rfl (any_of HT_.out (by kernel_rfl)) (fun _ _ _ h => h) (Or.inl ⟨by rfl, ?_⟩) ?_ ?_
                    rotate_left
                    · intro w'
                      go_simp
                      with_reducible rfl
                    rotate_left
                    · simp only [Act.put, List.setIfInBounds_toArray, List.set_cons_zero, List.set_cons_succ, i64_w, i32_w]
                      rfl
                    refine last_ (i := 16) (N := none) #[true, true, true, true, true, true, true, true, true, true, true, true, true, true, true, true, true] rfl rfl (one_of HT_.out (by kernel_rfl)) (by decide) (fun K hK => ?_)
                    have hs46 : w44.cell? ⟨gb131, 5, none⟩ = some (u132005) := (blk_cell BK131.out 5).trans rfl
                    have hfs46 := blk_frozen BK131.out 5
                    have hns46_0 := NB128_131.out
                    have hns46_1 := NB129_131.out
                    have hms46_0 := NB131_128.out
                    have hms46_1 := NB131_129.out
                    refine skip_ (w1 := ?_) (by rfl) rfl ?_ ?_
                    rotate_left
                    · go_simp
                      rfl
                    refine hK.out _ _ ?_
                    clear hK K
                    refine done_ (done_of HT_.out (by kernel_rfl)) ?_
                    try go_wp2
                    go_roundg kj22
                    case measure => have := HK1.out; have := HJ22.out; omega
                    case rel => exact ⟨(wrap64 (x4_1 + 1)), (y140), (.slice Ao45 y140.length co45), (by first | rfl | (simp; done) | (simp [*]; done)), H', ⟨by have := HK1.out; have := HJ22.out; omega⟩, ⟨by (with_reducible repeat (first | apply Kd.R_alloc | apply Kd.R_drewN | apply Kd.R_drew)); exact Kd.R_mono (Kd.R_far (p := ⟨gb131, 5, none⟩) (Kd.R_types HO142.out BK131.out (by decide)) (fun _ hk => hk.2) (.slice Ao45 y140.length co45)) (fun _ hk => trivial)⟩, ⟨by (with_reducible repeat (first | refine blk_drewN ?_ _ | refine blk_drew ?_ | refine blk_alloc ?_ _)); refine blk_far ?_ NB128_131.out _; (with_reducible repeat (first | refine blk_drewN ?_ _ | refine blk_drew ?_ | refine blk_alloc ?_ _)); exact BK128.out⟩, ⟨by (with_reducible repeat (first | refine blk_drewN ?_ _ | refine blk_drew ?_ | refine blk_alloc ?_ _)); refine blk_far ?_ NB129_131.out _; (with_reducible repeat (first | refine blk_drewN ?_ _ | refine blk_drew ?_ | refine blk_alloc ?_ _)); exact BK129.out⟩, ⟨by (with_reducible repeat (first | refine blk_drewN ?_ _ | refine blk_drew ?_ | refine blk_alloc ?_ _)); refine blk_put (cs := #[.int .i64 (wrap64 (1 + t130)), .int .i64 (wrap64 ((wrap64 ((wrap64 (2 * (wrap64 (1 + t130)))) + 2)) + t132)), .int .i64 t133, .int .i64 t135, .int .i64 t134, u132005, .slice none 0 0]) ?_ 5 _ rfl; (with_reducible repeat (first | refine blk_drewN ?_ _ | refine blk_drew ?_ | refine blk_alloc ?_ _)); exact BK131.out⟩, ⟨by repeat (first | (with_reducible first | exact HB.out | apply below_alloc | apply pw_below_drewN | apply below_drew1 | refine below_set ?_ GE128.out | refine below_set ?_ GE129.out | refine below_set ?_ GE131.out) | exact HB.out)⟩⟩
                  · rw [if_neg c39] at H
                    exact absurd H (by simp)
                · rw [if_neg c37] at H
                  exact absurd H (by simp)
              · rw [if_neg c35] at H
                exact absurd H (by simp)
            · rw [if_neg c34] at H
              have c34b0 : decide (x4_1 < (l0_6.length : Int)) = false := decide_eq_false c34
              clear c34
              by_cases c47 : 0 ≤ x4_1
              · rw [if_pos c47] at H
                have c47b0 : decide (0 ≤ x4_1) = true := decide_eq_true c47
                clear c47
                by_cases c48 : x4_1 < (l0_5.length : Int)
                · rw [if_pos c48] at H
                  have c48b0 : decide (x4_1 < (l0_5.length : Int)) = true := decide_eq_true c48
                  clear c48
                  replace H := Option.bind_eq_some_iff.mp H
                  obtain ⟨t144, A490, H⟩ := H
                  replace H : (if x132005_1.length < 8796093022208 then (selfstablaw42_Raw_Link.l0 kj22 (wrap64 (x4_1 + 1)) a0_0 a0_1 a0_2 a0_3 a0_4 l0_5 l0_6 l0_7 (wrap64 (1 + t130)) (wrap64 ((wrap64 ((wrap64 (2 * (wrap64 (1 + t130)))) + 2)) + t132)) t133 t135 t134 (x132005_1 ++ [(⟨t144, (-1) - 0⟩ : S46)])) else (none)) = some (r1, r2, r3, r4, r5, r6, r7) := H
                  have A49 := Aside0.mk A490
                  clear A490
                  by_cases c50 : x132005_1.length < 8796093022208
                  · rw [if_pos c50] at H
                    have LMc50 := Aside0.mk c50
                    clear c50
                    obtain ⟨y145, hy145⟩ : ∃ y_ : List (S46), y_ = (x132005_1 ++ [(⟨t144, (-1) - 0⟩ : S46)]) := ⟨_, rfl⟩
                    replace H : (selfstablaw42_Raw_Link.l0 kj22 (wrap64 (x4_1 + 1)) a0_0 a0_1 a0_2 a0_3 a0_4 l0_5 l0_6 l0_7 (wrap64 (1 + t130)) (wrap64 ((wrap64 ((wrap64 (2 * (wrap64 (1 + t130)))) + 2)) + t132)) t133 t135 t134 y145) = some (r1, r2, r3, r4, r5, r6, r7) := by first | (rw [hy145]; with_reducible exact H) | (have H2_ := (Option.bind_some _ _).symm.trans H; rw [hy145]; with_reducible exact H2_) | (have H2_ := (Option.bind_some _ _).symm.trans H; with_reducible exact H2_) | with_reducible exact H | (rw [hy145]; exact H) | exact H
                    have Ny145 := Aside0.mk hy145
                    clear hy145
                    have H' := Aside0.mk H
                    clear H
                    have hnb51 := NB128_129.out
                    have hnc51 := NB129_128.out
                    have hnb52 := NB128_131.out
                    have hnc52 := NB131_128.out
                    have hcz53_0 : wc.cell? ⟨gb128, 0, none⟩ = some (.int .i64 a0_0) := (blk_cell BK128.out 0).trans rfl
                    have hcz53_1 : wc.cell? ⟨gb128, 1, none⟩ = some (.int .i64 a0_1) := (blk_cell BK128.out 1).trans rfl
                    have hcz53_2 : wc.cell? ⟨gb128, 2, none⟩ = some (.int .i64 a0_2) := (blk_cell BK128.out 2).trans rfl
                    have hcz53_3 : wc.cell? ⟨gb128, 3, none⟩ = some (.int .i64 a0_3) := (blk_cell BK128.out 3).trans rfl
                    have hcz53_4 : wc.cell? ⟨gb128, 4, none⟩ = some (.int .i64 a0_4) := (blk_cell BK128.out 4).trans rfl
                    have hcz53_5 : wc.cell? ⟨gb128, 5, none⟩ = some (.slice A0_5 l0_5.length c0_5) := (blk_cell BK128.out 5).trans rfl
                    have hcz53_6 : wc.cell? ⟨gb128, 6, none⟩ = some (.slice A0_6 l0_6.length c0_6) := (blk_cell BK128.out 6).trans rfl
                    have hcz53_7 : wc.cell? ⟨gb128, 7, none⟩ = some (.slice A0_7 l0_7.length c0_7) := (blk_cell BK128.out 7).trans rfl
                    have hfz53_0 := blk_frozen BK128.out 0
                    have hfz53_1 := blk_frozen BK128.out 1
                    have hfz53_2 := blk_frozen BK128.out 2
                    have hfz53_3 := blk_frozen BK128.out 3
                    have hfz53_4 := blk_frozen BK128.out 4
                    have hfz53_5 := blk_frozen BK128.out 5
                    have hfz53_6 := blk_frozen BK128.out 6
                    have hfz53_7 := blk_frozen BK128.out 7
                    try go_wp2
                    have n0_ := Aside0.mk (Kd.R_drew HO_132005.out)
                    have n1_ := Aside0.mk (blk_drew BK128.out)
                    have n2_ := Aside0.mk (blk_drew BK129.out)
                    have n3_ := Aside0.mk (blk_drew BK131.out)
                    have n4_ := Aside0.mk (below_drew1 HB.out)
                    clear HO_132005
                    clear BK128
                    clear BK129
                    clear BK131
                    clear HB
                    have HO_132005 := n0_
                    have BK128 := n1_
                    have BK129 := n2_
                    have BK131 := n3_
                    have HB := n4_
                    clear n0_ n1_ n2_ n3_ n4_
                    have p143 : 0 ≤ (x4_1 : Int) := of_decide_eq_true (by first | (with_reducible assumption) | assumption)
                    have q143 : x4_1 < (l0_5.length : Int) := of_decide_eq_true (by first | (with_reducible assumption) | assumption)
                    obtain ⟨ad143, e143, hx143_0⟩ := Kd.at_int HR0_5.out x4_1 p143 q143
                    have hw143_0 := hx143_0
                    cases e143
                    replace hx143_0 := (HB.out.cell (World.block_lt_of_cell? w _ hx143_0)).trans hx143_0
                    replace p143 := eq_true p143
                    replace q143 := eq_true q143
                    refine start_ (n := 17) (S := fun w' => w'.cell? ⟨gb131, 0, none⟩ = some (.int .i64 (wrap64 (1 + t130))) ∧ w'.cell? ⟨gb131, 1, none⟩ = some (.int .i64 (wrap64 ((wrap64 ((wrap64 (2 * (wrap64 (1 + t130)))) + 2)) + t132))) ∧ w'.cell? ⟨gb131, 2, none⟩ = some (.int .i64 t133) ∧ w'.cell? ⟨gb131, 3, none⟩ = some (.int .i64 t135) ∧ w'.cell? ⟨gb131, 4, none⟩ = some (.int .i64 t134) ∧ w'.cell? ⟨gb131, 5, none⟩ = some (u132005) ∧ w'.cell? ⟨gb131, 6, none⟩ = some (.slice none 0 0) ∧ w'.cell? ⟨gb128, 0, none⟩ = some (.int .i64 a0_0) ∧ w'.cell? ⟨gb128, 1, none⟩ = some (.int .i64 a0_1) ∧ w'.cell? ⟨gb128, 2, none⟩ = some (.int .i64 a0_2) ∧ w'.cell? ⟨gb128, 3, none⟩ = some (.int .i64 a0_3) ∧ w'.cell? ⟨gb128, 4, none⟩ = some (.int .i64 a0_4) ∧ w'.cell? ⟨gb128, 5, none⟩ = some (.slice (some ad143) l0_5.length c0_5) ∧ w'.cell? ⟨gb128, 6, none⟩ = some (.slice A0_6 l0_6.length c0_6) ∧ w'.cell? ⟨gb128, 7, none⟩ = some (.slice A0_7 l0_7.length c0_7) ∧ w'.cell? (ad143.add (x4_1).toNat) = some (.int .i64 (rd l0_5 x4_1))) (ds := [16]) #[false, false, false, false, false, false, false, false, false, false, false, false, false, false, false, false, false] (by kernel_rfl) rfl rfl ⟨(blk_cell BK131.out 0).trans rfl, (blk_cell BK131.out 1).trans rfl, (blk_cell BK131.out 2).trans rfl, (blk_cell BK131.out 3).trans rfl, (blk_cell BK131.out 4).trans rfl, (blk_cell BK131.out 5).trans rfl, (blk_cell BK131.out 6).trans rfl, (blk_cell BK128.out 0).trans rfl, (blk_cell BK128.out 1).trans rfl, (blk_cell BK128.out 2).trans rfl, (blk_cell BK128.out 3).trans rfl, (blk_cell BK128.out 4).trans rfl, (blk_cell BK128.out 5).trans rfl, (blk_cell BK128.out 6).trans rfl, (blk_cell BK128.out 7).trans rfl, ((HB.out.cell (World.block_lt_of_cell? w _ hw143_0)).trans hw143_0)⟩ (fun hHeld => ?_); refine with_tabW selfstablaw42_Raw_Link.tab10 selfstablaw42_Raw_Link.bits10 (fun HT_ HW_ => ?_)
                    generalize wc.drew = w54 at HO_132005 BK128 BK129 BK131 HB hx143_0 hHeld ⊢
                    refine pure_ (i := 0) (N := some 61) (v := ?_) (a' := ?_) #[true, false, false, false, false, false, false, false, false, false, false, false, false, false, false, false, false] rfl rfl (any_of HT_.out (by kernel_rfl)) (fun _ _ _ h => h) (Or.inl ⟨by rfl, ?_⟩) ?_ ?_
                    rotate_left
                    · intro w'
                      go_simp
                      with_reducible rfl
                    rotate_left
                    · simp only [Act.put, List.setIfInBounds_toArray, List.set_cons_zero, List.set_cons_succ, i64_w, i32_w]
                      rfl
                    refine pure_ (i := 2) (N := some 63) (v := ?_) (a' := ?_) #[true, false, true, false, false, false, false, false, false, false, false, false, false, false, false, false, false] rfl rfl (any_of HT_.out (by kernel_rfl)) (fun _ _ _ h => h) (Or.inl ⟨by rfl, ?_⟩) ?_ ?_
                    rotate_left
                    · intro w'
                      go_simp
                      with_reducible rfl
                    rotate_left
                    · simp only [Act.put, List.setIfInBounds_toArray, List.set_cons_zero, List.set_cons_succ, i64_w, i32_w]
                      rfl
                    refine pure_ (i := 4) (N := some 65) (v := ?_) (a' := ?_) #[true, false, true, false, true, false, false, false, false, false, false, false, false, false, false, false, false] rfl rfl (any_of HT_.out (by kernel_rfl)) (fun _ _ _ h => h) (Or.inl ⟨by rfl, ?_⟩) ?_ ?_
                    rotate_left
                    · intro w'
                      go_simp
                      with_reducible rfl
                    rotate_left
                    · simp only [Act.put, List.setIfInBounds_toArray, List.set_cons_zero, List.set_cons_succ, i64_w, i32_w]
                      rfl
                    refine pure_ (i := 7) (N := some 68) (v := ?_) (a' := ?_) #[true, false, true, false, true, false, false, true, false, false, false, false, false, false, false, false, false] rfl rfl (any_of HT_.out (by kernel_rfl)) (fun _ _ _ h => h) (Or.inl ⟨by rfl, ?_⟩) ?_ ?_
                    rotate_left
                    · intro w'
                      go_simp
                      with_reducible rfl
                    rotate_left
                    · simp only [Act.put, List.setIfInBounds_toArray, List.set_cons_zero, List.set_cons_succ, i64_w, i32_w]
                      rfl
                    refine pure_ (i := 10) (N := some 71) (v := ?_) (a' := ?_) #[true, false, true, false, true, false, false, true, false, false, true, false, false, false, false, false, false] rfl rfl (any_of HT_.out (by kernel_rfl)) (fun _ _ _ h => h) (Or.inl ⟨by rfl, ?_⟩) ?_ ?_
                    rotate_left
                    · intro w'
                      go_simp
                      with_reducible rfl
                    rotate_left
                    · simp only [Act.put, List.setIfInBounds_toArray, List.set_cons_zero, List.set_cons_succ, i64_w, i32_w]
                      rfl
                    refine pure_ (i := 11) (N := some 72) (v := ?_) (a' := ?_) #[true, false, true, false, true, false, false, true, false, false, true, true, false, false, false, false, false] rfl rfl (any_of HT_.out (by kernel_rfl)) (fun _ _ _ h => h) (Or.inl ⟨by rfl, ?_⟩) ?_ ?_
                    rotate_left
                    · intro w'
                      go_simp
                      with_reducible rfl
                    rotate_left
                    · simp only [Act.put, List.setIfInBounds_toArray, List.set_cons_zero, List.set_cons_succ, i64_w, i32_w]
                      rfl
                    refine take_ (i := 1) (N := some 62) (v := ?_) (a' := ?_) #[true, true, true, false, true, false, false, true, false, false, true, true, false, false, false, false, false] rfl rfl (take_ofW HT_.out HW_.out (by kernel_rfl)) (fun _ _ _ h => h) (Or.inl ⟨by rfl, ?_⟩) hHeld ?_ ?_
                    rotate_left
                    · rintro w' ⟨s0, s1, s2, s3, s4, s5, s6, s7, s8, s9, s10, s11, s12, s13, s14, s15⟩
                      go_simp
                      with_reducible rfl
                    rotate_left
                    · simp only [Act.put, List.setIfInBounds_toArray, List.set_cons_zero, List.set_cons_succ, i64_w, i32_w]
                      rfl
                    refine take_ (i := 3) (N := some 64) (v := ?_) (a' := ?_) #[true, true, true, true, true, false, false, true, false, false, true, true, false, false, false, false, false] rfl rfl (take_ofW HT_.out HW_.out (by kernel_rfl)) (fun _ _ _ h => h) (Or.inl ⟨by rfl, ?_⟩) hHeld ?_ ?_
                    rotate_left
                    · rintro w' ⟨s0, s1, s2, s3, s4, s5, s6, s7, s8, s9, s10, s11, s12, s13, s14, s15⟩
                      go_simp
                      with_reducible rfl
                    rotate_left
                    · simp only [Act.put, List.setIfInBounds_toArray, List.set_cons_zero, List.set_cons_succ, i64_w, i32_w]
                      rfl
                    refine pure_ (i := 5) (N := some 66) (v := ?_) (a' := ?_) #[true, true, true, true, true, true, false, true, false, false, true, true, false, false, false, false, false] rfl rfl (any_of HT_.out (by kernel_rfl)) (fun _ _ _ h => h) (Or.inl ⟨by rfl, ?_⟩) ?_ ?_
                    rotate_left
                    · intro w'
                      go_simp
                      with_reducible rfl
                    rotate_left
                    · simp only [Act.put, List.setIfInBounds_toArray, List.set_cons_zero, List.set_cons_succ, i64_w, i32_w]
                      rfl
                    refine take_ (i := 6) (N := some 67) (v := ?_) (a' := ?_) #[true, true, true, true, true, true, true, true, false, false, true, true, false, false, false, false, false] rfl rfl (take_ofW HT_.out HW_.out (by kernel_rfl)) (fun _ _ _ h => h) (Or.inl ⟨by rfl, ?_⟩) hHeld ?_ ?_
                    rotate_left
                    · rintro w' ⟨s0, s1, s2, s3, s4, s5, s6, s7, s8, s9, s10, s11, s12, s13, s14, s15⟩
                      go_simp
                      with_reducible rfl
                    rotate_left
                    · simp only [Act.put, List.setIfInBounds_toArray, List.set_cons_zero, List.set_cons_succ, i64_w, i32_w]
                      rfl
                    refine take_ (i := 8) (N := some 69) (v := ?_) (a' := ?_) #[true, true, true, true, true, true, true, true, true, false, true, true, false, false, false, false, false] rfl rfl (take_ofW HT_.out HW_.out (by kernel_rfl)) (fun _ _ _ h => h) (Or.inl ⟨by rfl, ?_⟩) hHeld ?_ ?_
                    rotate_left
                    · rintro w' ⟨s0, s1, s2, s3, s4, s5, s6, s7, s8, s9, s10, s11, s12, s13, s14, s15⟩
                      go_simp
                      with_reducible rfl
                    rotate_left
                    · simp only [Act.put, List.setIfInBounds_toArray, List.set_cons_zero, List.set_cons_succ, i64_w, i32_w]
                      rfl
                    refine one_ (i := 9) (N := some 70) #[true, true, true, true, true, true, true, true, true, true, true, true, false, false, false, false, false] rfl rfl (one_of HT_.out (by kernel_rfl)) (by decide) (fun K hK => ?_)
                    refine goes_ Try.func17 (by kernel_rfl) rfl #[.int .i64 (rd l0_5 x4_1), .int .i64 (wrap64 ((wrap64 ((wrap64 (2 * (wrap64 (1 + t130)))) + 2)) + t132))] (by rfl) rfl rfl (by (try simp only [List.map_toArray, List.map_cons, List.map_nil]); first | done | rfl | (simp only [List.length_drop, List.length_take]; rfl)) ?_
                    with_reducible refine (selfstabworld_Within.calls (rd l0_5 x4_1) (wrap64 ((wrap64 ((wrap64 (2 * (wrap64 (1 + t130)))) + 2)) + t132)) t144 _ A49.out).mono ?_
                    rintro e w' ⟨rfl, ⟨nd, rfl⟩⟩
                    refine ⟨_, rfl, ?_⟩
                    refine hK.out _ _ ⟨(blk_cell BK131.out 0).trans rfl, (blk_cell BK131.out 1).trans rfl, (blk_cell BK131.out 2).trans rfl, (blk_cell BK131.out 3).trans rfl, (blk_cell BK131.out 4).trans rfl, (blk_cell BK131.out 5).trans rfl, (blk_cell BK131.out 6).trans rfl, (blk_cell BK128.out 0).trans rfl, (blk_cell BK128.out 1).trans rfl, (blk_cell BK128.out 2).trans rfl, (blk_cell BK128.out 3).trans rfl, (blk_cell BK128.out 4).trans rfl, (blk_cell BK128.out 5).trans rfl, (blk_cell BK128.out 6).trans rfl, (blk_cell BK128.out 7).trans rfl, ((HB.out.cell (World.block_lt_of_cell? w _ hw143_0)).trans hw143_0)⟩ (fun hHeld => ?_)
                    clear hK K
                    refine norm_ (a' := ?_) ?_ ?_
                    rotate_left
                    · show Act.put _ (some 70) _ = _
                      simp only [Act.put, List.setIfInBounds_toArray, List.set_cons_zero, List.set_cons_succ, i64_w, i32_w]
                      rfl
                    refine pure_ (i := 12) (N := some 73) (v := ?_) (a' := ?_) #[true, true, true, true, true, true, true, true, true, true, true, true, true, false, false, false, false] rfl rfl (any_of HT_.out (by kernel_rfl)) (fun _ _ _ h => h) (Or.inl ⟨by rfl, ?_⟩) ?_ ?_
                    rotate_left
                    · intro w'
                      go_simp
                      with_reducible rfl
                    rotate_left
                    · simp only [Act.put, List.setIfInBounds_toArray, List.set_cons_zero, List.set_cons_succ, i64_w, i32_w]
                      rfl
                    refine one_ (i := 13) (N := some 74) #[true, true, true, true, true, true, true, true, true, true, true, true, true, true, false, false, false] rfl rfl (one_of HT_.out (by kernel_rfl)) (by decide) (fun K hK => ?_)
                    refine value_ (w1 := ?_) (v := ?_) (by rfl) rfl ?_ ?_
                    rotate_left 2
                    · go_simp
                      constructor
                      · rfl
                      · rfl
                    refine hK.out _ _ ⟨(blk_cell (blk_alloc BK131.out _) 0).trans rfl, (blk_cell (blk_alloc BK131.out _) 1).trans rfl, (blk_cell (blk_alloc BK131.out _) 2).trans rfl, (blk_cell (blk_alloc BK131.out _) 3).trans rfl, (blk_cell (blk_alloc BK131.out _) 4).trans rfl, (blk_cell (blk_alloc BK131.out _) 5).trans rfl, (blk_cell (blk_alloc BK131.out _) 6).trans rfl, (blk_cell (blk_alloc BK128.out _) 0).trans rfl, (blk_cell (blk_alloc BK128.out _) 1).trans rfl, (blk_cell (blk_alloc BK128.out _) 2).trans rfl, (blk_cell (blk_alloc BK128.out _) 3).trans rfl, (blk_cell (blk_alloc BK128.out _) 4).trans rfl, (blk_cell (blk_alloc BK128.out _) 5).trans rfl, (blk_cell (blk_alloc BK128.out _) 6).trans rfl, (blk_cell (blk_alloc BK128.out _) 7).trans rfl, (World.cell?_alloc_lt _ _ _ (World.block_lt_of_cell? _ _ (((HB.out.cell (World.block_lt_of_cell? w _ hw143_0)).trans hw143_0)))).trans (((HB.out.cell (World.block_lt_of_cell? w _ hw143_0)).trans hw143_0))⟩ (fun hHeld => ?_)
                    clear hK K
                    refine norm_ (a' := ?_) ?_ ?_
                    rotate_left
                    · show Act.put _ (some 74) _ = _
                      simp only [Act.put, List.setIfInBounds_toArray, List.set_cons_zero, List.set_cons_succ, i64_w, i32_w]
                      rfl
                    refine one_ (i := 14) (N := some 75) #[true, true, true, true, true, true, true, true, true, true, true, true, true, true, true, false, false] rfl rfl (one_of HT_.out (by kernel_rfl)) (by decide) (fun K hK => ?_)
                    try rw [show wrap64 (-1) = (-1) - 0 from by unfold wrap64; omega]
                    refine Kd.R_append_step k46 (w0 := w) w.heap.size (by rfl) (.tmp 62) (.tmp 74) 27 46 (.agg #[(.int .i64 0), (.int .i64 0)]) 16 rfl Try.underlying27 info46 rfl (by decide) (by omega) u132005 x132005_1 (⟨t144, (-1) - 0⟩ : S46) [.int .i64 t144, .int .i64 ((-1) - 0)] (fun _ => True) (fun _ => False) rfl rfl ?aP (fun _ hk => hk.elim) ?aF ?aO ?aB ?aS ?aL ?_
                    (case aP => exact k46_mkM _ _ _ (⟨t144, (-1) - 0⟩ : S46))
                    (case aB => exact (by repeat (first | (with_reducible first | exact HB.out | apply below_alloc | apply pw_below_drewN | apply below_drew1 | refine below_set ?_ GE128.out | refine below_set ?_ GE129.out | refine below_set ?_ GE131.out) | exact HB.out)))
                    (case aF => exact (fun _ _ => trivial))
                    (case aO => exact (by (with_reducible repeat (first | apply Kd.R_alloc | apply Kd.R_drewN | apply Kd.R_drew)); exact HO_132005.out))
                    (case aS => exact (below_size (by repeat (first | (with_reducible first | exact HB.out | apply below_alloc | apply pw_below_drewN | apply below_drew1 | refine below_set ?_ GE128.out | refine below_set ?_ GE129.out | refine below_set ?_ GE131.out) | exact HB.out))))
                    (case aL => have := LMc50.out; omega)
                    intro v146 w55 ho hb hg hat
                    rw [← Ny145.out] at ho
                    have n0_ := Aside0.mk (blk_grown (g := gb128) (o := .cells #[.int .i64 a0_0, .int .i64 a0_1, .int .i64 a0_2, .int .i64 a0_3, .int .i64 a0_4, .slice (some ad143) l0_5.length c0_5, .slice A0_6 l0_6.length c0_6, .slice A0_7 l0_7.length c0_7] 24 (0, 0)) (by (with_reducible repeat (first | refine blk_drewN ?_ _ | refine blk_drew ?_ | refine blk_alloc ?_ _)); exact BK128.out) hg (Kd.R_ne HO_132005.out BK128.out (by decide)))
                    have n1_ := Aside0.mk (blk_grown (g := gb129) (o := .cells #[.int .i64 0, .int .i64 0, .int .i64 0, .int .i64 0, .int .i64 0, .slice none 0 0, .slice none 0 0] 29 (0, 0)) (by (with_reducible repeat (first | refine blk_drewN ?_ _ | refine blk_drew ?_ | refine blk_alloc ?_ _)); exact BK129.out) hg (Kd.R_ne HO_132005.out BK129.out (by decide)))
                    have n2_ := Aside0.mk (blk_grown (g := gb131) (o := .cells #[.int .i64 (wrap64 (1 + t130)), .int .i64 (wrap64 ((wrap64 ((wrap64 (2 * (wrap64 (1 + t130)))) + 2)) + t132)), .int .i64 t133, .int .i64 t135, .int .i64 t134, u132005, .slice none 0 0] 29 (0, 0)) (by (with_reducible repeat (first | refine blk_drewN ?_ _ | refine blk_drew ?_ | refine blk_alloc ?_ _)); exact BK131.out) hg (Kd.R_ne HO_132005.out BK131.out (by decide)))
                    have n3_ := Aside0.mk (hb)
                    have n4_ := Aside0.mk (ho)
                    clear BK128
                    clear BK129
                    clear BK131
                    clear HB
                    clear HO_132005
                    have BK128 := n0_
                    have BK129 := n1_
                    have BK131 := n2_
                    have HB := n3_
                    have HO147 := n4_
                    clear n0_ n1_ n2_ n3_ n4_
                    clear ho hb hg hat
                    obtain ⟨Ao56, co56, eo56⟩ := Kd.R_slice HO147.out
                    (first | subst eo56 | (injection eo56 with f1_ f2_ f3_; have f4_ := f1_.symm; have f5_ := f3_.symm; clear f1_ f2_ f3_; subst f4_; subst f5_))
                    refine hK.out _ _ ⟨(blk_cell BK131.out 0).trans rfl, (blk_cell BK131.out 1).trans rfl, (blk_cell BK131.out 2).trans rfl, (blk_cell BK131.out 3).trans rfl, (blk_cell BK131.out 4).trans rfl, (blk_cell BK131.out 5).trans rfl, (blk_cell BK131.out 6).trans rfl, (blk_cell BK128.out 0).trans rfl, (blk_cell BK128.out 1).trans rfl, (blk_cell BK128.out 2).trans rfl, (blk_cell BK128.out 3).trans rfl, (blk_cell BK128.out 4).trans rfl, (blk_cell BK128.out 5).trans rfl, (blk_cell BK128.out 6).trans rfl, (blk_cell BK128.out 7).trans rfl, ((HB.out.cell (World.block_lt_of_cell? w _ hw143_0)).trans hw143_0)⟩ (fun hHeld => ?_)
                    clear hK K
                    refine norm_ (a' := ?_) ?_ ?_
                    rotate_left
                    · show Act.put _ (some 75) _ = _
                      simp only [Act.put, List.setIfInBounds_toArray, List.set_cons_zero, List.set_cons_succ, i64_w, i32_w]
                      rfl
                    refine pure_ (i := 15) (N := some 76) (v := ?_) (a' := ?_) #[true, true, true, true, true, true, true, true, true, true, true, true, true, true, true, true, false] rfl rfl (any_of HT_.out (by kernel_rfl)) (fun _ _ _ h => h) (Or.inl ⟨by rfl, ?_⟩) ?_ ?_
                    rotate_left
                    · intro w'
                      go_simp
                      with_reducible rfl
                    rotate_left
                    · simp only [Act.put, List.setIfInBounds_toArray, List.set_cons_zero, List.set_cons_succ, i64_w, i32_w]
                      rfl
                    refine last_ (i := 16) (N := none) #[true, true, true, true, true, true, true, true, true, true, true, true, true, true, true, true, true] rfl rfl (one_of HT_.out (by kernel_rfl)) (by decide) (fun K hK => ?_)
                    have hs57 : w55.cell? ⟨gb131, 5, none⟩ = some (u132005) := (blk_cell BK131.out 5).trans rfl
                    have hfs57 := blk_frozen BK131.out 5
                    have hns57_0 := NB128_131.out
                    have hns57_1 := NB129_131.out
                    have hms57_0 := NB131_128.out
                    have hms57_1 := NB131_129.out
                    refine skip_ (w1 := ?_) (by rfl) rfl ?_ ?_
                    rotate_left
                    · go_simp
                      rfl
                    refine hK.out _ _ ?_
                    clear hK K
                    refine done_ (done_of HT_.out (by kernel_rfl)) ?_
                    try go_wp2
                    go_roundg kj22
                    case measure => have := HK1.out; have := HJ22.out; omega
                    case rel => exact ⟨(wrap64 (x4_1 + 1)), (y145), (.slice Ao56 y145.length co56), (by first | rfl | (simp; done) | (simp [*]; done)), H', ⟨by have := HK1.out; have := HJ22.out; omega⟩, ⟨by (with_reducible repeat (first | apply Kd.R_alloc | apply Kd.R_drewN | apply Kd.R_drew)); exact Kd.R_mono (Kd.R_far (p := ⟨gb131, 5, none⟩) (Kd.R_types HO147.out BK131.out (by decide)) (fun _ hk => hk.2) (.slice Ao56 y145.length co56)) (fun _ hk => trivial)⟩, ⟨by (with_reducible repeat (first | refine blk_drewN ?_ _ | refine blk_drew ?_ | refine blk_alloc ?_ _)); refine blk_far ?_ NB128_131.out _; (with_reducible repeat (first | refine blk_drewN ?_ _ | refine blk_drew ?_ | refine blk_alloc ?_ _)); exact BK128.out⟩, ⟨by (with_reducible repeat (first | refine blk_drewN ?_ _ | refine blk_drew ?_ | refine blk_alloc ?_ _)); refine blk_far ?_ NB129_131.out _; (with_reducible repeat (first | refine blk_drewN ?_ _ | refine blk_drew ?_ | refine blk_alloc ?_ _)); exact BK129.out⟩, ⟨by (with_reducible repeat (first | refine blk_drewN ?_ _ | refine blk_drew ?_ | refine blk_alloc ?_ _)); refine blk_put (cs := #[.int .i64 (wrap64 (1 + t130)), .int .i64 (wrap64 ((wrap64 ((wrap64 (2 * (wrap64 (1 + t130)))) + 2)) + t132)), .int .i64 t133, .int .i64 t135, .int .i64 t134, u132005, .slice none 0 0]) ?_ 5 _ rfl; (with_reducible repeat (first | refine blk_drewN ?_ _ | refine blk_drew ?_ | refine blk_alloc ?_ _)); exact BK131.out⟩, ⟨by repeat (first | (with_reducible first | exact HB.out | apply below_alloc | apply pw_below_drewN | apply below_drew1 | refine below_set ?_ GE128.out | refine below_set ?_ GE129.out | refine below_set ?_ GE131.out) | exact HB.out)⟩⟩
                  · rw [if_neg c50] at H
                    exact absurd H (by simp)
                · rw [if_neg c48] at H
                  exact absurd H (by simp)
              · rw [if_neg c47] at H
                exact absurd H (by simp)
          · replace c33 := Bool.eq_false_iff.mpr c33
            subst c33
            have H1 : (selfstablaw42_Raw_Link.l1 kj22 0 a0_0 a0_1 a0_2 a0_3 a0_4 l0_5 l0_6 l0_7 (wrap64 (1 + t130)) (wrap64 ((wrap64 ((wrap64 (2 * (wrap64 (1 + t130)))) + 2)) + t132)) t133 t135 t134 x132005_1 ([] : List Int)) = some (r1, r2, r3, r4, r5, r6, r7) := by rw [if_neg (show ¬ (false = true) by decide)] at H; exact H
            clear H
            have H := H1
            clear H1
            have H' := Aside0.mk H
            clear H
            go_wp2
            go_loopg [6] kj22 (fun kq v6 w' => ∃ (x6_3 : Int) (x132006_3 : List Int) (u132006 : Value), v6 = .int .i64 x6_3 ∧ Aside0 (selfstablaw42_Raw_Link.l1 kq x6_3 a0_0 a0_1 a0_2 a0_3 a0_4 l0_5 l0_6 l0_7 (wrap64 (1 + t130)) (wrap64 ((wrap64 ((wrap64 (2 * (wrap64 (1 + t130)))) + 2)) + t132)) t133 t135 t134 x132005_1 x132006_3 = some (r1, r2, r3, r4, r5, r6, r7)) ∧ Aside0 (kq ≤ kj22) ∧ Aside0 (Kd.R k46 46 w' w.heap.size (fun _ => True) u132005 x132005_1) ∧ Aside0 (Kd.R (Kd.int .i64) 3 w' w.heap.size (fun _ => True) u132006 x132006_3) ∧ Aside0 (w'.heap[gb128]? = some (.cells #[.int .i64 a0_0, .int .i64 a0_1, .int .i64 a0_2, .int .i64 a0_3, .int .i64 a0_4, (.slice A0_5 l0_5.length c0_5), (.slice A0_6 l0_6.length c0_6), (.slice A0_7 l0_7.length c0_7)] 24 (0, 0))) ∧ Aside0 (w'.heap[gb129]? = some (.cells #[.int .i64 0, .int .i64 0, .int .i64 0, .int .i64 0, .int .i64 0, (.slice none 0 0), (.slice none 0 0)] 29 (0, 0))) ∧ Aside0 (w'.heap[gb131]? = some (.cells #[.int .i64 (wrap64 (1 + t130)), .int .i64 (wrap64 ((wrap64 ((wrap64 (2 * (wrap64 (1 + t130)))) + 2)) + t132)), .int .i64 t133, .int .i64 t135, .int .i64 t134, u132005, u132006] 29 (0, 0))) ∧ Aside0 (Below w.heap.size w w'))
            case atStart => exact ⟨(0), (([] : List Int)), (.slice none 0 0), (by first | rfl | (simp; done) | (simp [*]; done)), H', ⟨Nat.le_refl _⟩, ⟨by (with_reducible repeat (first | apply Kd.R_alloc | apply Kd.R_drewN | apply Kd.R_drew)); exact HO_132005.out⟩, ⟨by first | exact Kd.R_nil _ _ _ _ _ | exact Kd.N_nil _ _ _ _ _ | exact Kd.V_nil _ _ _ _ _ | exact Kd.Q_nil _ _ _ _ _ | exact Kd.S_nil _ _ _ _ _⟩, ⟨by (with_reducible repeat (first | refine blk_drewN ?_ _ | refine blk_drew ?_ | refine blk_alloc ?_ _)); exact BK128.out⟩, ⟨by (with_reducible repeat (first | refine blk_drewN ?_ _ | refine blk_drew ?_ | refine blk_alloc ?_ _)); exact BK129.out⟩, ⟨by (with_reducible repeat (first | refine blk_drewN ?_ _ | refine blk_drew ?_ | refine blk_alloc ?_ _)); exact BK131.out⟩, ⟨by repeat (first | (with_reducible first | exact HB.out | apply below_alloc | apply pw_below_drewN | apply below_drew1 | refine below_set ?_ GE128.out | refine below_set ?_ GE129.out | refine below_set ?_ GE131.out) | exact HB.out)⟩⟩
            case round =>
              clear H'
              try clear c1
              try clear p1
              try clear q1
              try clear hx1
              try clear p2
              try clear c3
              try clear c4
              try clear c5
              try clear p6
              try clear p13
              try clear q13
              try clear hx13
              try clear p14
              try clear q14
              try clear hx14
              try clear c17
              try clear c33
              try clear c34
              try clear c34b0
              try clear c35
              try clear c35b0
              try clear c37
              try clear c37b0
              try clear c39
              try clear c40
              try clear c41
              try clear c47
              try clear c47b0
              try clear c48
              try clear c48b0
              try clear c50
              try clear c51
              try clear c52
              try clear hcz42_0
              try clear hcz42_1
              try clear hcz42_2
              try clear hcz42_3
              try clear hcz42_4
              try clear hcz42_5
              try clear hcz42_6
              try clear hcz42_7
              try clear hcz53_0
              try clear hcz53_1
              try clear hcz53_2
              try clear hcz53_3
              try clear hcz53_4
              try clear hcz53_5
              try clear hcz53_6
              try clear hcz53_7
              try clear hfz10_5
              try clear hfz10_6
              try clear hfz10_7
              try clear hfz14_0
              try clear hfz14_1
              try clear hfz14_2
              try clear hfz14_3
              try clear hfz14_4
              try clear hfz14_5
              try clear hfz14_6
              try clear hfz27_0
              try clear hfz27_1
              try clear hfz27_2
              try clear hfz27_3
              try clear hfz27_4
              try clear hfz27_5
              try clear hfz27_6
              try clear hfz27_7
              try clear hfz29_0
              try clear hfz29_1
              try clear hfz29_2
              try clear hfz29_3
              try clear hfz29_4
              try clear hfz29_5
              try clear hfz29_6
              try clear hfz32_0
              try clear hfz32_1
              try clear hfz32_2
              try clear hfz32_3
              try clear hfz32_4
              try clear hfz32_5
              try clear hfz32_6
              try clear hfz32_7
              try clear hfz42_0
              try clear hfz42_1
              try clear hfz42_2
              try clear hfz42_3
              try clear hfz42_4
              try clear hfz42_5
              try clear hfz42_6
              try clear hfz42_7
              try clear hfz53_0
              try clear hfz53_1
              try clear hfz53_2
              try clear hfz53_3
              try clear hfz53_4
              try clear hfz53_5
              try clear hfz53_6
              try clear hfz53_7
              try clear hx136_0
              try clear hx138_0
              try clear hx143_0
              try clear p136
              try clear p138
              try clear p143
              try clear p2
              try clear p6
              try clear q136
              try clear q138
              try clear q143
              obtain ⟨x6_3, x132006_3, u132006, rfl, HA, HK3, HO_132005, HO_132006, BK128, BK129, BK131, HB⟩ := hrel
              cases gk with
              | zero => exact absurd HA.out (by simp [selfstablaw42_Raw_Link.l1])
              | succ k3 =>
                have H := HA.out
                clear HA
                simp only [selfstablaw42_Raw_Link.l1] at H
                by_cases c58 : x6_3 < (l0_7.length : Int)
                · rw [if_pos c58] at H
                  have c58b0 : decide (x6_3 < (l0_7.length : Int)) = true := decide_eq_true c58
                  clear c58
                  by_cases c59 : x6_3 < (wrap64 (1 + t130))
                  · rw [if_pos c59] at H
                    have c59b0 : decide (x6_3 < (wrap64 (1 + t130))) = true := decide_eq_true c59
                    clear c59
                    by_cases c60 : 0 ≤ x6_3
                    · rw [if_pos c60] at H
                      have c60b0 : decide (0 ≤ x6_3) = true := decide_eq_true c60
                      clear c60
                      replace H := Option.bind_eq_some_iff.mp H
                      obtain ⟨t149, A610, H⟩ := H
                      replace H : (if x132006_3.length < 17592186044416 then (selfstablaw42_Raw_Link.l1 k3 (wrap64 (x6_3 + 1)) a0_0 a0_1 a0_2 a0_3 a0_4 l0_5 l0_6 l0_7 (wrap64 (1 + t130)) (wrap64 ((wrap64 ((wrap64 (2 * (wrap64 (1 + t130)))) + 2)) + t132)) t133 t135 t134 x132005_1 (x132006_3 ++ [t149])) else (none)) = some (r1, r2, r3, r4, r5, r6, r7) := H
                      have A61 := Aside0.mk A610
                      clear A610
                      by_cases c62 : x132006_3.length < 17592186044416
                      · rw [if_pos c62] at H
                        have LMc62 := Aside0.mk c62
                        clear c62
                        obtain ⟨y150, hy150⟩ : ∃ y_ : List Int, y_ = (x132006_3 ++ [t149]) := ⟨_, rfl⟩
                        replace H : (selfstablaw42_Raw_Link.l1 k3 (wrap64 (x6_3 + 1)) a0_0 a0_1 a0_2 a0_3 a0_4 l0_5 l0_6 l0_7 (wrap64 (1 + t130)) (wrap64 ((wrap64 ((wrap64 (2 * (wrap64 (1 + t130)))) + 2)) + t132)) t133 t135 t134 x132005_1 y150) = some (r1, r2, r3, r4, r5, r6, r7) := by first | (rw [hy150]; with_reducible exact H) | (have H2_ := (Option.bind_some _ _).symm.trans H; rw [hy150]; with_reducible exact H2_) | (have H2_ := (Option.bind_some _ _).symm.trans H; with_reducible exact H2_) | with_reducible exact H | (rw [hy150]; exact H) | exact H
                        have Ny150 := Aside0.mk hy150
                        clear hy150
                        have H' := Aside0.mk H
                        clear H
                        have hnb63 := NB128_129.out
                        have hnc63 := NB129_128.out
                        have hnb64 := NB128_131.out
                        have hnc64 := NB131_128.out
                        have hcz65_0 : wr.cell? ⟨gb128, 0, none⟩ = some (.int .i64 a0_0) := (blk_cell BK128.out 0).trans rfl
                        have hcz65_1 : wr.cell? ⟨gb128, 1, none⟩ = some (.int .i64 a0_1) := (blk_cell BK128.out 1).trans rfl
                        have hcz65_2 : wr.cell? ⟨gb128, 2, none⟩ = some (.int .i64 a0_2) := (blk_cell BK128.out 2).trans rfl
                        have hcz65_3 : wr.cell? ⟨gb128, 3, none⟩ = some (.int .i64 a0_3) := (blk_cell BK128.out 3).trans rfl
                        have hcz65_4 : wr.cell? ⟨gb128, 4, none⟩ = some (.int .i64 a0_4) := (blk_cell BK128.out 4).trans rfl
                        have hcz65_5 : wr.cell? ⟨gb128, 5, none⟩ = some (.slice A0_5 l0_5.length c0_5) := (blk_cell BK128.out 5).trans rfl
                        have hcz65_6 : wr.cell? ⟨gb128, 6, none⟩ = some (.slice A0_6 l0_6.length c0_6) := (blk_cell BK128.out 6).trans rfl
                        have hcz65_7 : wr.cell? ⟨gb128, 7, none⟩ = some (.slice A0_7 l0_7.length c0_7) := (blk_cell BK128.out 7).trans rfl
                        have hfz65_0 := blk_frozen BK128.out 0
                        have hfz65_1 := blk_frozen BK128.out 1
                        have hfz65_2 := blk_frozen BK128.out 2
                        have hfz65_3 := blk_frozen BK128.out 3
                        have hfz65_4 := blk_frozen BK128.out 4
                        have hfz65_5 := blk_frozen BK128.out 5
                        have hfz65_6 := blk_frozen BK128.out 6
                        have hfz65_7 := blk_frozen BK128.out 7
                        have hnb66 := NB131_129.out
                        have hnc66 := NB129_131.out
                        have hcz67_0 : wr.cell? ⟨gb131, 0, none⟩ = some (.int .i64 (wrap64 (1 + t130))) := (blk_cell BK131.out 0).trans rfl
                        have hcz67_1 : wr.cell? ⟨gb131, 1, none⟩ = some (.int .i64 (wrap64 ((wrap64 ((wrap64 (2 * (wrap64 (1 + t130)))) + 2)) + t132))) := (blk_cell BK131.out 1).trans rfl
                        have hcz67_2 : wr.cell? ⟨gb131, 2, none⟩ = some (.int .i64 t133) := (blk_cell BK131.out 2).trans rfl
                        have hcz67_3 : wr.cell? ⟨gb131, 3, none⟩ = some (.int .i64 t135) := (blk_cell BK131.out 3).trans rfl
                        have hcz67_4 : wr.cell? ⟨gb131, 4, none⟩ = some (.int .i64 t134) := (blk_cell BK131.out 4).trans rfl
                        have hcz67_5 : wr.cell? ⟨gb131, 5, none⟩ = some (u132005) := (blk_cell BK131.out 5).trans rfl
                        have hcz67_6 : wr.cell? ⟨gb131, 6, none⟩ = some (u132006) := (blk_cell BK131.out 6).trans rfl
                        have hfz67_0 := blk_frozen BK131.out 0
                        have hfz67_1 := blk_frozen BK131.out 1
                        have hfz67_2 := blk_frozen BK131.out 2
                        have hfz67_3 := blk_frozen BK131.out 3
                        have hfz67_4 := blk_frozen BK131.out 4
                        have hfz67_5 := blk_frozen BK131.out 5
                        have hfz67_6 := blk_frozen BK131.out 6
                        try go_wp2
                        have n0_ := Aside0.mk (Kd.R_drew HO_132005.out)
                        have n1_ := Aside0.mk (Kd.R_drew HO_132006.out)
                        have n2_ := Aside0.mk (blk_drew BK128.out)
                        have n3_ := Aside0.mk (blk_drew BK129.out)
                        have n4_ := Aside0.mk (blk_drew BK131.out)
                        have n5_ := Aside0.mk (below_drew1 HB.out)
                        clear HO_132005
                        clear HO_132006
                        clear BK128
                        clear BK129
                        clear BK131
                        clear HB
                        have HO_132005 := n0_
                        have HO_132006 := n1_
                        have BK128 := n2_
                        have BK129 := n3_
                        have BK131 := n4_
                        have HB := n5_
                        clear n0_ n1_ n2_ n3_ n4_ n5_
                        have p148 : 0 ≤ (x6_3 : Int) := of_decide_eq_true (by first | (with_reducible assumption) | assumption)
                        have q148 : x6_3 < (l0_7.length : Int) := of_decide_eq_true (by first | (with_reducible assumption) | assumption)
                        obtain ⟨ad148, e148, hx148_0⟩ := Kd.at_int HR0_7.out x6_3 p148 q148
                        have hw148_0 := hx148_0
                        cases e148
                        replace hx148_0 := (HB.out.cell (World.block_lt_of_cell? w _ hx148_0)).trans hx148_0
                        replace p148 := eq_true p148
                        replace q148 := eq_true q148
                        refine start_ (n := 14) (S := fun w' => w'.cell? ⟨gb131, 0, none⟩ = some (.int .i64 (wrap64 (1 + t130))) ∧ w'.cell? ⟨gb131, 1, none⟩ = some (.int .i64 (wrap64 ((wrap64 ((wrap64 (2 * (wrap64 (1 + t130)))) + 2)) + t132))) ∧ w'.cell? ⟨gb131, 2, none⟩ = some (.int .i64 t133) ∧ w'.cell? ⟨gb131, 3, none⟩ = some (.int .i64 t135) ∧ w'.cell? ⟨gb131, 4, none⟩ = some (.int .i64 t134) ∧ w'.cell? ⟨gb131, 5, none⟩ = some (u132005) ∧ w'.cell? ⟨gb131, 6, none⟩ = some (u132006) ∧ w'.cell? ⟨gb128, 0, none⟩ = some (.int .i64 a0_0) ∧ w'.cell? ⟨gb128, 1, none⟩ = some (.int .i64 a0_1) ∧ w'.cell? ⟨gb128, 2, none⟩ = some (.int .i64 a0_2) ∧ w'.cell? ⟨gb128, 3, none⟩ = some (.int .i64 a0_3) ∧ w'.cell? ⟨gb128, 4, none⟩ = some (.int .i64 a0_4) ∧ w'.cell? ⟨gb128, 5, none⟩ = some (.slice A0_5 l0_5.length c0_5) ∧ w'.cell? ⟨gb128, 6, none⟩ = some (.slice A0_6 l0_6.length c0_6) ∧ w'.cell? ⟨gb128, 7, none⟩ = some (.slice (some ad148) l0_7.length c0_7) ∧ w'.cell? (ad148.add (x6_3).toNat) = some (.int .i64 (rd l0_7 x6_3))) (ds := [13]) #[false, false, false, false, false, false, false, false, false, false, false, false, false, false] (by kernel_rfl) rfl rfl ⟨(blk_cell BK131.out 0).trans rfl, (blk_cell BK131.out 1).trans rfl, (blk_cell BK131.out 2).trans rfl, (blk_cell BK131.out 3).trans rfl, (blk_cell BK131.out 4).trans rfl, (blk_cell BK131.out 5).trans rfl, (blk_cell BK131.out 6).trans rfl, (blk_cell BK128.out 0).trans rfl, (blk_cell BK128.out 1).trans rfl, (blk_cell BK128.out 2).trans rfl, (blk_cell BK128.out 3).trans rfl, (blk_cell BK128.out 4).trans rfl, (blk_cell BK128.out 5).trans rfl, (blk_cell BK128.out 6).trans rfl, (blk_cell BK128.out 7).trans rfl, ((HB.out.cell (World.block_lt_of_cell? w _ hw148_0)).trans hw148_0)⟩ (fun hHeld => ?_); refine with_tabW selfstablaw42_Raw_Link.tab14 selfstablaw42_Raw_Link.bits14 (fun HT_ HW_ => ?_)
                        generalize wr.drew = w68 at HO_132005 HO_132006 BK128 BK129 BK131 HB hx148_0 hHeld ⊢
                        refine pure_ (i := 0) (N := some 90) (v := ?_) (a' := ?_) #[true, false, false, false, false, false, false, false, false, false, false, false, false, false] rfl rfl (any_of HT_.out (by kernel_rfl)) (fun _ _ _ h => h) (Or.inl ⟨by rfl, ?_⟩) ?_ ?_
                        rotate_left
                        · intro w'
                          go_simp
                          with_reducible rfl
                        rotate_left
                        · simp only [Act.put, List.setIfInBounds_toArray, List.set_cons_zero, List.set_cons_succ, i64_w, i32_w]
                          rfl
                        refine pure_ (i := 2) (N := some 92) (v := ?_) (a' := ?_) #[true, false, true, false, false, false, false, false, false, false, false, false, false, false] rfl rfl (any_of HT_.out (by kernel_rfl)) (fun _ _ _ h => h) (Or.inl ⟨by rfl, ?_⟩) ?_ ?_
                        rotate_left
                        · intro w'
                          go_simp
                          with_reducible rfl
                        rotate_left
                        · simp only [Act.put, List.setIfInBounds_toArray, List.set_cons_zero, List.set_cons_succ, i64_w, i32_w]
                          rfl
                        refine pure_ (i := 4) (N := some 94) (v := ?_) (a' := ?_) #[true, false, true, false, true, false, false, false, false, false, false, false, false, false] rfl rfl (any_of HT_.out (by kernel_rfl)) (fun _ _ _ h => h) (Or.inl ⟨by rfl, ?_⟩) ?_ ?_
                        rotate_left
                        · intro w'
                          go_simp
                          with_reducible rfl
                        rotate_left
                        · simp only [Act.put, List.setIfInBounds_toArray, List.set_cons_zero, List.set_cons_succ, i64_w, i32_w]
                          rfl
                        refine pure_ (i := 7) (N := some 97) (v := ?_) (a' := ?_) #[true, false, true, false, true, false, false, true, false, false, false, false, false, false] rfl rfl (any_of HT_.out (by kernel_rfl)) (fun _ _ _ h => h) (Or.inl ⟨by rfl, ?_⟩) ?_ ?_
                        rotate_left
                        · intro w'
                          go_simp
                          with_reducible rfl
                        rotate_left
                        · simp only [Act.put, List.setIfInBounds_toArray, List.set_cons_zero, List.set_cons_succ, i64_w, i32_w]
                          rfl
                        refine take_ (i := 1) (N := some 91) (v := ?_) (a' := ?_) #[true, true, true, false, true, false, false, true, false, false, false, false, false, false] rfl rfl (take_ofW HT_.out HW_.out (by kernel_rfl)) (fun _ _ _ h => h) (Or.inl ⟨by rfl, ?_⟩) hHeld ?_ ?_
                        rotate_left
                        · rintro w' ⟨s0, s1, s2, s3, s4, s5, s6, s7, s8, s9, s10, s11, s12, s13, s14, s15⟩
                          go_simp
                          with_reducible rfl
                        rotate_left
                        · simp only [Act.put, List.setIfInBounds_toArray, List.set_cons_zero, List.set_cons_succ, i64_w, i32_w]
                          rfl
                        refine take_ (i := 3) (N := some 93) (v := ?_) (a' := ?_) #[true, true, true, true, true, false, false, true, false, false, false, false, false, false] rfl rfl (take_ofW HT_.out HW_.out (by kernel_rfl)) (fun _ _ _ h => h) (Or.inl ⟨by rfl, ?_⟩) hHeld ?_ ?_
                        rotate_left
                        · rintro w' ⟨s0, s1, s2, s3, s4, s5, s6, s7, s8, s9, s10, s11, s12, s13, s14, s15⟩
                          go_simp
                          with_reducible rfl
                        rotate_left
                        · simp only [Act.put, List.setIfInBounds_toArray, List.set_cons_zero, List.set_cons_succ, i64_w, i32_w]
                          rfl
                        refine pure_ (i := 5) (N := some 95) (v := ?_) (a' := ?_) #[true, true, true, true, true, true, false, true, false, false, false, false, false, false] rfl rfl (any_of HT_.out (by kernel_rfl)) (fun _ _ _ h => h) (Or.inl ⟨by rfl, ?_⟩) ?_ ?_
                        rotate_left
                        · intro w'
                          go_simp
                          with_reducible rfl
                        rotate_left
                        · simp only [Act.put, List.setIfInBounds_toArray, List.set_cons_zero, List.set_cons_succ, i64_w, i32_w]
                          rfl
                        refine take_ (i := 6) (N := some 96) (v := ?_) (a' := ?_) #[true, true, true, true, true, true, true, true, false, false, false, false, false, false] rfl rfl (take_ofW HT_.out HW_.out (by kernel_rfl)) (fun _ _ _ h => h) (Or.inl ⟨by rfl, ?_⟩) hHeld ?_ ?_
                        rotate_left
                        · rintro w' ⟨s0, s1, s2, s3, s4, s5, s6, s7, s8, s9, s10, s11, s12, s13, s14, s15⟩
                          go_simp
                          with_reducible rfl
                        rotate_left
                        · simp only [Act.put, List.setIfInBounds_toArray, List.set_cons_zero, List.set_cons_succ, i64_w, i32_w]
                          rfl
                        refine take_ (i := 8) (N := some 98) (v := ?_) (a' := ?_) #[true, true, true, true, true, true, true, true, true, false, false, false, false, false] rfl rfl (take_ofW HT_.out HW_.out (by kernel_rfl)) (fun _ _ _ h => h) (Or.inl ⟨by rfl, ?_⟩) hHeld ?_ ?_
                        rotate_left
                        · rintro w' ⟨s0, s1, s2, s3, s4, s5, s6, s7, s8, s9, s10, s11, s12, s13, s14, s15⟩
                          go_simp
                          with_reducible rfl
                        rotate_left
                        · simp only [Act.put, List.setIfInBounds_toArray, List.set_cons_zero, List.set_cons_succ, i64_w, i32_w]
                          rfl
                        refine one_ (i := 9) (N := some 99) #[true, true, true, true, true, true, true, true, true, true, false, false, false, false] rfl rfl (one_of HT_.out (by kernel_rfl)) (by decide) (fun K hK => ?_)
                        refine goes_ Try.func17 (by kernel_rfl) rfl #[.int .i64 (rd l0_7 x6_3), .int .i64 (wrap64 ((wrap64 ((wrap64 (2 * (wrap64 (1 + t130)))) + 2)) + t132))] (by rfl) rfl rfl (by (try simp only [List.map_toArray, List.map_cons, List.map_nil]); first | done | rfl | (simp only [List.length_drop, List.length_take]; rfl)) ?_
                        with_reducible refine (selfstabworld_Within.calls (rd l0_7 x6_3) (wrap64 ((wrap64 ((wrap64 (2 * (wrap64 (1 + t130)))) + 2)) + t132)) t149 _ A61.out).mono ?_
                        rintro e w' ⟨rfl, ⟨nd, rfl⟩⟩
                        refine ⟨_, rfl, ?_⟩
                        refine hK.out _ _ ⟨(blk_cell BK131.out 0).trans rfl, (blk_cell BK131.out 1).trans rfl, (blk_cell BK131.out 2).trans rfl, (blk_cell BK131.out 3).trans rfl, (blk_cell BK131.out 4).trans rfl, (blk_cell BK131.out 5).trans rfl, (blk_cell BK131.out 6).trans rfl, (blk_cell BK128.out 0).trans rfl, (blk_cell BK128.out 1).trans rfl, (blk_cell BK128.out 2).trans rfl, (blk_cell BK128.out 3).trans rfl, (blk_cell BK128.out 4).trans rfl, (blk_cell BK128.out 5).trans rfl, (blk_cell BK128.out 6).trans rfl, (blk_cell BK128.out 7).trans rfl, ((HB.out.cell (World.block_lt_of_cell? w _ hw148_0)).trans hw148_0)⟩ (fun hHeld => ?_)
                        clear hK K
                        refine norm_ (a' := ?_) ?_ ?_
                        rotate_left
                        · show Act.put _ (some 99) _ = _
                          simp only [Act.put, List.setIfInBounds_toArray, List.set_cons_zero, List.set_cons_succ, i64_w, i32_w]
                          rfl
                        refine one_ (i := 10) (N := some 100) #[true, true, true, true, true, true, true, true, true, true, true, false, false, false] rfl rfl (one_of HT_.out (by kernel_rfl)) (by decide) (fun K hK => ?_)
                        refine value_ (w1 := ?_) (v := ?_) (by rfl) rfl ?_ ?_
                        rotate_left 2
                        · go_simp
                          constructor
                          · rfl
                          · rfl
                        refine hK.out _ _ ⟨(blk_cell (blk_alloc BK131.out _) 0).trans rfl, (blk_cell (blk_alloc BK131.out _) 1).trans rfl, (blk_cell (blk_alloc BK131.out _) 2).trans rfl, (blk_cell (blk_alloc BK131.out _) 3).trans rfl, (blk_cell (blk_alloc BK131.out _) 4).trans rfl, (blk_cell (blk_alloc BK131.out _) 5).trans rfl, (blk_cell (blk_alloc BK131.out _) 6).trans rfl, (blk_cell (blk_alloc BK128.out _) 0).trans rfl, (blk_cell (blk_alloc BK128.out _) 1).trans rfl, (blk_cell (blk_alloc BK128.out _) 2).trans rfl, (blk_cell (blk_alloc BK128.out _) 3).trans rfl, (blk_cell (blk_alloc BK128.out _) 4).trans rfl, (blk_cell (blk_alloc BK128.out _) 5).trans rfl, (blk_cell (blk_alloc BK128.out _) 6).trans rfl, (blk_cell (blk_alloc BK128.out _) 7).trans rfl, (World.cell?_alloc_lt _ _ _ (World.block_lt_of_cell? _ _ (((HB.out.cell (World.block_lt_of_cell? w _ hw148_0)).trans hw148_0)))).trans (((HB.out.cell (World.block_lt_of_cell? w _ hw148_0)).trans hw148_0))⟩ (fun hHeld => ?_)
                        clear hK K
                        refine norm_ (a' := ?_) ?_ ?_
                        rotate_left
                        · show Act.put _ (some 100) _ = _
                          simp only [Act.put, List.setIfInBounds_toArray, List.set_cons_zero, List.set_cons_succ, i64_w, i32_w]
                          rfl
                        refine one_ (i := 11) (N := some 101) #[true, true, true, true, true, true, true, true, true, true, true, true, false, false] rfl rfl (one_of HT_.out (by kernel_rfl)) (by decide) (fun K hK => ?_)
                        refine Kd.R_append_step (Kd.int .i64) (w0 := w) w.heap.size (by rfl) (.tmp 91) (.tmp 100) 22 3 (.int .i64 0) 8 rfl Try.underlying22 info3 rfl (by decide) (by omega) u132006 x132006_3 t149 [.int .i64 t149] (fun _ => True) (fun _ => False) rfl rfl ?aP (fun _ hk => hk.elim) ?aF ?aO ?aB ?aS ?aL ?_
                        (case aP => exact rfl)
                        (case aB => exact (by repeat (first | (with_reducible first | exact HB.out | apply below_alloc | apply pw_below_drewN | apply below_drew1 | refine below_set ?_ GE128.out | refine below_set ?_ GE129.out | refine below_set ?_ GE131.out) | exact HB.out)))
                        (case aF => exact (fun _ _ => trivial))
                        (case aO => exact (by (with_reducible repeat (first | apply Kd.R_alloc | apply Kd.R_drewN | apply Kd.R_drew)); exact HO_132006.out))
                        (case aS => exact (below_size (by repeat (first | (with_reducible first | exact HB.out | apply below_alloc | apply pw_below_drewN | apply below_drew1 | refine below_set ?_ GE128.out | refine below_set ?_ GE129.out | refine below_set ?_ GE131.out) | exact HB.out))))
                        (case aL => have := LMc62.out; omega)
                        intro v151 w69 ho hb hg hat
                        rw [← Ny150.out] at ho
                        have n0_ := Aside0.mk (Kd.R_over' (by (with_reducible repeat (first | apply Kd.R_alloc | apply Kd.R_drewN | apply Kd.R_drew)); exact HO_132005.out) (Kd.R_typed (by (with_reducible repeat (first | apply Kd.R_alloc | apply Kd.R_drewN | apply Kd.R_drew)); exact HO_132006.out)) (by decide) hg)
                        have n1_ := Aside0.mk (blk_grown (g := gb128) (o := .cells #[.int .i64 a0_0, .int .i64 a0_1, .int .i64 a0_2, .int .i64 a0_3, .int .i64 a0_4, .slice A0_5 l0_5.length c0_5, .slice A0_6 l0_6.length c0_6, .slice (some ad148) l0_7.length c0_7] 24 (0, 0)) (by (with_reducible repeat (first | refine blk_drewN ?_ _ | refine blk_drew ?_ | refine blk_alloc ?_ _)); exact BK128.out) hg (Kd.R_ne HO_132006.out BK128.out (by decide)))
                        have n2_ := Aside0.mk (blk_grown (g := gb129) (o := .cells #[.int .i64 0, .int .i64 0, .int .i64 0, .int .i64 0, .int .i64 0, .slice none 0 0, .slice none 0 0] 29 (0, 0)) (by (with_reducible repeat (first | refine blk_drewN ?_ _ | refine blk_drew ?_ | refine blk_alloc ?_ _)); exact BK129.out) hg (Kd.R_ne HO_132006.out BK129.out (by decide)))
                        have n3_ := Aside0.mk (blk_grown (g := gb131) (o := .cells #[.int .i64 (wrap64 (1 + t130)), .int .i64 (wrap64 ((wrap64 ((wrap64 (2 * (wrap64 (1 + t130)))) + 2)) + t132)), .int .i64 t133, .int .i64 t135, .int .i64 t134, u132005, u132006] 29 (0, 0)) (by (with_reducible repeat (first | refine blk_drewN ?_ _ | refine blk_drew ?_ | refine blk_alloc ?_ _)); exact BK131.out) hg (Kd.R_ne HO_132006.out BK131.out (by decide)))
                        have n4_ := Aside0.mk (hb)
                        have n5_ := Aside0.mk (ho)
                        clear HO_132005
                        clear BK128
                        clear BK129
                        clear BK131
                        clear HB
                        clear HO_132006
                        have HO_132005 := n0_
                        have BK128 := n1_
                        have BK129 := n2_
                        have BK131 := n3_
                        have HB := n4_
                        have HO152 := n5_
                        clear n0_ n1_ n2_ n3_ n4_ n5_
                        clear ho hb hg hat
                        obtain ⟨Ao70, co70, eo70⟩ := Kd.R_slice HO152.out
                        (first | subst eo70 | (injection eo70 with f1_ f2_ f3_; have f4_ := f1_.symm; have f5_ := f3_.symm; clear f1_ f2_ f3_; subst f4_; subst f5_))
                        refine hK.out _ _ ⟨(blk_cell BK131.out 0).trans rfl, (blk_cell BK131.out 1).trans rfl, (blk_cell BK131.out 2).trans rfl, (blk_cell BK131.out 3).trans rfl, (blk_cell BK131.out 4).trans rfl, (blk_cell BK131.out 5).trans rfl, (blk_cell BK131.out 6).trans rfl, (blk_cell BK128.out 0).trans rfl, (blk_cell BK128.out 1).trans rfl, (blk_cell BK128.out 2).trans rfl, (blk_cell BK128.out 3).trans rfl, (blk_cell BK128.out 4).trans rfl, (blk_cell BK128.out 5).trans rfl, (blk_cell BK128.out 6).trans rfl, (blk_cell BK128.out 7).trans rfl, ((HB.out.cell (World.block_lt_of_cell? w _ hw148_0)).trans hw148_0)⟩ (fun hHeld => ?_)
                        clear hK K
                        refine norm_ (a' := ?_) ?_ ?_
                        rotate_left
                        · show Act.put _ (some 101) _ = _
                          simp only [Act.put, List.setIfInBounds_toArray, List.set_cons_zero, List.set_cons_succ, i64_w, i32_w]
                          rfl
                        refine pure_ (i := 12) (N := some 102) (v := ?_) (a' := ?_) #[true, true, true, true, true, true, true, true, true, true, true, true, true, false] rfl rfl (any_of HT_.out (by kernel_rfl)) (fun _ _ _ h => h) (Or.inl ⟨by rfl, ?_⟩) ?_ ?_
                        rotate_left
                        · intro w'
                          go_simp
                          with_reducible rfl
                        rotate_left
                        · simp only [Act.put, List.setIfInBounds_toArray, List.set_cons_zero, List.set_cons_succ, i64_w, i32_w]
                          rfl
                        refine last_ (i := 13) (N := none) #[true, true, true, true, true, true, true, true, true, true, true, true, true, true] rfl rfl (one_of HT_.out (by kernel_rfl)) (by decide) (fun K hK => ?_)
                        have hs71 : w69.cell? ⟨gb131, 6, none⟩ = some (u132006) := (blk_cell BK131.out 6).trans rfl
                        have hfs71 := blk_frozen BK131.out 6
                        have hns71_0 := NB128_131.out
                        have hns71_1 := NB129_131.out
                        have hms71_0 := NB131_128.out
                        have hms71_1 := NB131_129.out
                        refine skip_ (w1 := ?_) (by rfl) rfl ?_ ?_
                        rotate_left
                        · go_simp
                          rfl
                        refine hK.out _ _ ?_
                        clear hK K
                        refine done_ (done_of HT_.out (by kernel_rfl)) ?_
                        try go_wp2
                        go_roundg k3
                        case measure => have := HK1.out; have := HJ22.out; have := HK3.out; omega
                        case rel => exact ⟨(wrap64 (x6_3 + 1)), (y150), (.slice Ao70 y150.length co70), (by first | rfl | (simp; done) | (simp [*]; done)), H', ⟨by have := HK1.out; have := HJ22.out; have := HK3.out; omega⟩, ⟨by (with_reducible repeat (first | apply Kd.R_alloc | apply Kd.R_drewN | apply Kd.R_drew)); exact Kd.R_mono (Kd.R_far (p := ⟨gb131, 6, none⟩) (Kd.R_types HO_132005.out BK131.out (by decide)) (fun _ hk => hk.2) (.slice Ao70 y150.length co70)) (fun _ hk => trivial)⟩, ⟨by (with_reducible repeat (first | apply Kd.R_alloc | apply Kd.R_drewN | apply Kd.R_drew)); exact Kd.R_mono (Kd.R_far (p := ⟨gb131, 6, none⟩) (Kd.R_types HO152.out BK131.out (by decide)) (fun _ hk => hk.2) (.slice Ao70 y150.length co70)) (fun _ hk => trivial)⟩, ⟨by (with_reducible repeat (first | refine blk_drewN ?_ _ | refine blk_drew ?_ | refine blk_alloc ?_ _)); refine blk_far ?_ NB128_131.out _; (with_reducible repeat (first | refine blk_drewN ?_ _ | refine blk_drew ?_ | refine blk_alloc ?_ _)); exact BK128.out⟩, ⟨by (with_reducible repeat (first | refine blk_drewN ?_ _ | refine blk_drew ?_ | refine blk_alloc ?_ _)); refine blk_far ?_ NB129_131.out _; (with_reducible repeat (first | refine blk_drewN ?_ _ | refine blk_drew ?_ | refine blk_alloc ?_ _)); exact BK129.out⟩, ⟨by (with_reducible repeat (first | refine blk_drewN ?_ _ | refine blk_drew ?_ | refine blk_alloc ?_ _)); refine blk_put (cs := #[.int .i64 (wrap64 (1 + t130)), .int .i64 (wrap64 ((wrap64 ((wrap64 (2 * (wrap64 (1 + t130)))) + 2)) + t132)), .int .i64 t133, .int .i64 t135, .int .i64 t134, u132005, u132006]) ?_ 6 _ rfl; (with_reducible repeat (first | refine blk_drewN ?_ _ | refine blk_drew ?_ | refine blk_alloc ?_ _)); exact BK131.out⟩, ⟨by repeat (first | (with_reducible first | exact HB.out | apply below_alloc | apply pw_below_drewN | apply below_drew1 | refine below_set ?_ GE128.out | refine below_set ?_ GE129.out | refine below_set ?_ GE131.out) | exact HB.out)⟩⟩
                      · rw [if_neg c62] at H
                        exact absurd H (by simp)
                    · rw [if_neg c60] at H
                      exact absurd H (by simp)
                  · rw [if_neg c59] at H
                    have c59b0 : decide (x6_3 < (wrap64 (1 + t130))) = false := decide_eq_false c59
                    clear c59
                    simp only [Option.some.injEq, Prod.mk.injEq] at H
                    obtain ⟨rfl, rfl, rfl, rfl, rfl, rfl, rfl⟩ := H
                    have hnb72 := NB128_129.out
                    have hnc72 := NB129_128.out
                    have hnb73 := NB128_131.out
                    have hnc73 := NB131_128.out
                    have hcz74_0 : wr.cell? ⟨gb128, 0, none⟩ = some (.int .i64 a0_0) := (blk_cell BK128.out 0).trans rfl
                    have hcz74_1 : wr.cell? ⟨gb128, 1, none⟩ = some (.int .i64 a0_1) := (blk_cell BK128.out 1).trans rfl
                    have hcz74_2 : wr.cell? ⟨gb128, 2, none⟩ = some (.int .i64 a0_2) := (blk_cell BK128.out 2).trans rfl
                    have hcz74_3 : wr.cell? ⟨gb128, 3, none⟩ = some (.int .i64 a0_3) := (blk_cell BK128.out 3).trans rfl
                    have hcz74_4 : wr.cell? ⟨gb128, 4, none⟩ = some (.int .i64 a0_4) := (blk_cell BK128.out 4).trans rfl
                    have hcz74_5 : wr.cell? ⟨gb128, 5, none⟩ = some (.slice A0_5 l0_5.length c0_5) := (blk_cell BK128.out 5).trans rfl
                    have hcz74_6 : wr.cell? ⟨gb128, 6, none⟩ = some (.slice A0_6 l0_6.length c0_6) := (blk_cell BK128.out 6).trans rfl
                    have hcz74_7 : wr.cell? ⟨gb128, 7, none⟩ = some (.slice A0_7 l0_7.length c0_7) := (blk_cell BK128.out 7).trans rfl
                    have hfz74_0 := blk_frozen BK128.out 0
                    have hfz74_1 := blk_frozen BK128.out 1
                    have hfz74_2 := blk_frozen BK128.out 2
                    have hfz74_3 := blk_frozen BK128.out 3
                    have hfz74_4 := blk_frozen BK128.out 4
                    have hfz74_5 := blk_frozen BK128.out 5
                    have hfz74_6 := blk_frozen BK128.out 6
                    have hfz74_7 := blk_frozen BK128.out 7
                    have hnb75 := NB131_129.out
                    have hnc75 := NB129_131.out
                    have hcz76_0 : wr.cell? ⟨gb131, 0, none⟩ = some (.int .i64 (wrap64 (1 + t130))) := (blk_cell BK131.out 0).trans rfl
                    have hcz76_1 : wr.cell? ⟨gb131, 1, none⟩ = some (.int .i64 (wrap64 ((wrap64 ((wrap64 (2 * (wrap64 (1 + t130)))) + 2)) + t132))) := (blk_cell BK131.out 1).trans rfl
                    have hcz76_2 : wr.cell? ⟨gb131, 2, none⟩ = some (.int .i64 t133) := (blk_cell BK131.out 2).trans rfl
                    have hcz76_3 : wr.cell? ⟨gb131, 3, none⟩ = some (.int .i64 t135) := (blk_cell BK131.out 3).trans rfl
                    have hcz76_4 : wr.cell? ⟨gb131, 4, none⟩ = some (.int .i64 t134) := (blk_cell BK131.out 4).trans rfl
                    have hcz76_5 : wr.cell? ⟨gb131, 5, none⟩ = some (u132005) := (blk_cell BK131.out 5).trans rfl
                    have hcz76_6 : wr.cell? ⟨gb131, 6, none⟩ = some (u132006) := (blk_cell BK131.out 6).trans rfl
                    have hfz76_0 := blk_frozen BK131.out 0
                    have hfz76_1 := blk_frozen BK131.out 1
                    have hfz76_2 := blk_frozen BK131.out 2
                    have hfz76_3 := blk_frozen BK131.out 3
                    have hfz76_4 := blk_frozen BK131.out 4
                    have hfz76_5 := blk_frozen BK131.out 5
                    have hfz76_6 := blk_frozen BK131.out 6
                    have hcz77_0 : wr.cell? ⟨gb129, 0, none⟩ = some (.int .i64 0) := (blk_cell BK129.out 0).trans rfl
                    have hcz77_1 : wr.cell? ⟨gb129, 1, none⟩ = some (.int .i64 0) := (blk_cell BK129.out 1).trans rfl
                    have hcz77_2 : wr.cell? ⟨gb129, 2, none⟩ = some (.int .i64 0) := (blk_cell BK129.out 2).trans rfl
                    have hcz77_3 : wr.cell? ⟨gb129, 3, none⟩ = some (.int .i64 0) := (blk_cell BK129.out 3).trans rfl
                    have hcz77_4 : wr.cell? ⟨gb129, 4, none⟩ = some (.int .i64 0) := (blk_cell BK129.out 4).trans rfl
                    have hcz77_5 : wr.cell? ⟨gb129, 5, none⟩ = some (.slice none 0 0) := (blk_cell BK129.out 5).trans rfl
                    have hcz77_6 : wr.cell? ⟨gb129, 6, none⟩ = some (.slice none 0 0) := (blk_cell BK129.out 6).trans rfl
                    have hfz77_0 := blk_frozen BK129.out 0
                    have hfz77_1 := blk_frozen BK129.out 1
                    have hfz77_2 := blk_frozen BK129.out 2
                    have hfz77_3 := blk_frozen BK129.out 3
                    have hfz77_4 := blk_frozen BK129.out 4
                    have hfz77_5 := blk_frozen BK129.out 5
                    have hfz77_6 := blk_frozen BK129.out 6
                    obtain ⟨Ao78, co78, eo78⟩ := Kd.R_slice HO_132005.out
                    subst eo78
                    obtain ⟨Ao79, co79, eo79⟩ := Kd.R_slice HO_132006.out
                    subst eo79
                    go_wp2
                    refine bodyPost_ret (results_cell_row rfl _ _ gb129 29 #[.int .i64 (wrap64 (1 + t130)), .int .i64 (wrap64 ((wrap64 ((wrap64 (2 * (wrap64 (1 + t130)))) + 2)) + t132)), .int .i64 t133, .int .i64 t135, .int .i64 t134, .slice Ao78 x132005_1.length co78, .slice Ao79 x132006_3.length co79] (0, 0) _ rfl (by (with_reducible repeat (first | refine blk_drewN ?_ _ | refine blk_drew ?_ | refine blk_alloc ?_ _)); refine blk_put (cs := #[.int .i64 (wrap64 (1 + t130)), .int .i64 (wrap64 ((wrap64 ((wrap64 (2 * (wrap64 (1 + t130)))) + 2)) + t132)), .int .i64 t133, .int .i64 t135, .int .i64 t134, .slice Ao78 x132005_1.length co78, .slice none 0 0]) ?_ 6 _ rfl; (with_reducible repeat (first | refine blk_drewN ?_ _ | refine blk_drew ?_ | refine blk_alloc ?_ _)); refine blk_put (cs := #[.int .i64 (wrap64 (1 + t130)), .int .i64 (wrap64 ((wrap64 ((wrap64 (2 * (wrap64 (1 + t130)))) + 2)) + t132)), .int .i64 t133, .int .i64 t135, .int .i64 t134, .slice none 0 0, .slice none 0 0]) ?_ 5 _ rfl; (with_reducible repeat (first | refine blk_drewN ?_ _ | refine blk_drew ?_ | refine blk_alloc ?_ _)); refine blk_put (cs := #[.int .i64 (wrap64 (1 + t130)), .int .i64 (wrap64 ((wrap64 ((wrap64 (2 * (wrap64 (1 + t130)))) + 2)) + t132)), .int .i64 t133, .int .i64 t135, .int .i64 0, .slice none 0 0, .slice none 0 0]) ?_ 4 _ rfl; (with_reducible repeat (first | refine blk_drewN ?_ _ | refine blk_drew ?_ | refine blk_alloc ?_ _)); refine blk_put (cs := #[.int .i64 (wrap64 (1 + t130)), .int .i64 (wrap64 ((wrap64 ((wrap64 (2 * (wrap64 (1 + t130)))) + 2)) + t132)), .int .i64 t133, .int .i64 0, .int .i64 0, .slice none 0 0, .slice none 0 0]) ?_ 3 _ rfl; (with_reducible repeat (first | refine blk_drewN ?_ _ | refine blk_drew ?_ | refine blk_alloc ?_ _)); refine blk_put (cs := #[.int .i64 (wrap64 (1 + t130)), .int .i64 (wrap64 ((wrap64 ((wrap64 (2 * (wrap64 (1 + t130)))) + 2)) + t132)), .int .i64 0, .int .i64 0, .int .i64 0, .slice none 0 0, .slice none 0 0]) ?_ 2 _ rfl; (with_reducible repeat (first | refine blk_drewN ?_ _ | refine blk_drew ?_ | refine blk_alloc ?_ _)); refine blk_put (cs := #[.int .i64 (wrap64 (1 + t130)), .int .i64 0, .int .i64 0, .int .i64 0, .int .i64 0, .slice none 0 0, .slice none 0 0]) ?_ 1 _ rfl; (with_reducible repeat (first | refine blk_drewN ?_ _ | refine blk_drew ?_ | refine blk_alloc ?_ _)); refine blk_put (cs := #[.int .i64 0, .int .i64 0, .int .i64 0, .int .i64 0, .int .i64 0, .slice none 0 0, .slice none 0 0]) ?_ 0 _ rfl; (with_reducible repeat (first | refine blk_drewN ?_ _ | refine blk_drew ?_ | refine blk_alloc ?_ _)); exact BK129.out) Try.underlying29 rfl (by kernel_rfl)) rfl ?_
                    exact ⟨_, _, by first | rfl | (simp [errW_none, errW_some] <;> rfl) | (simp [*, errW_none, errW_some] <;> rfl), by (with_reducible repeat (first | apply Kd.R_alloc | apply Kd.R_drewN | apply Kd.R_drew)); exact Kd.R_mono (Kd.R_far (p := ⟨gb129, 6, none⟩) (Kd.R_far (p := ⟨gb129, 5, none⟩) (Kd.R_far (p := ⟨gb129, 4, none⟩) (Kd.R_far (p := ⟨gb129, 3, none⟩) (Kd.R_far (p := ⟨gb129, 2, none⟩) (Kd.R_far (p := ⟨gb129, 1, none⟩) (Kd.R_far (p := ⟨gb129, 0, none⟩) (Kd.R_types HO_132005.out BK129.out (by decide)) (fun _ hk => hk.2) (.int .i64 (wrap64 (1 + t130)))) (fun _ hk => hk.2) (.int .i64 (wrap64 ((wrap64 ((wrap64 (2 * (wrap64 (1 + t130)))) + 2)) + t132)))) (fun _ hk => hk.2) (.int .i64 t133)) (fun _ hk => hk.2) (.int .i64 t135)) (fun _ hk => hk.2) (.int .i64 t134)) (fun _ hk => hk.2) (.slice Ao78 x132005_1.length co78)) (fun _ hk => hk.2) (.slice Ao79 x132006_3.length co79)) (fun _ hk => trivial), by (with_reducible repeat (first | apply Kd.R_alloc | apply Kd.R_drewN | apply Kd.R_drew)); exact Kd.R_mono (Kd.R_far (p := ⟨gb129, 6, none⟩) (Kd.R_far (p := ⟨gb129, 5, none⟩) (Kd.R_far (p := ⟨gb129, 4, none⟩) (Kd.R_far (p := ⟨gb129, 3, none⟩) (Kd.R_far (p := ⟨gb129, 2, none⟩) (Kd.R_far (p := ⟨gb129, 1, none⟩) (Kd.R_far (p := ⟨gb129, 0, none⟩) (Kd.R_types HO_132006.out BK129.out (by decide)) (fun _ hk => hk.2) (.int .i64 (wrap64 (1 + t130)))) (fun _ hk => hk.2) (.int .i64 (wrap64 ((wrap64 ((wrap64 (2 * (wrap64 (1 + t130)))) + 2)) + t132)))) (fun _ hk => hk.2) (.int .i64 t133)) (fun _ hk => hk.2) (.int .i64 t135)) (fun _ hk => hk.2) (.int .i64 t134)) (fun _ hk => hk.2) (.slice Ao78 x132005_1.length co78)) (fun _ hk => hk.2) (.slice Ao79 x132006_3.length co79)) (fun _ hk => trivial), by repeat (first | (with_reducible first | exact HB.out | apply below_alloc | apply pw_below_drewN | apply below_drew1 | refine below_set ?_ GE128.out | refine below_set ?_ GE129.out | refine below_set ?_ GE131.out) | exact HB.out)⟩
                · rw [if_neg c58] at H
                  have c58b0 : decide (x6_3 < (l0_7.length : Int)) = false := decide_eq_false c58
                  clear c58
                  simp only [Option.some.injEq, Prod.mk.injEq] at H
                  obtain ⟨rfl, rfl, rfl, rfl, rfl, rfl, rfl⟩ := H
                  have hnb80 := NB128_129.out
                  have hnc80 := NB129_128.out
                  have hnb81 := NB128_131.out
                  have hnc81 := NB131_128.out
                  have hcz82_0 : wr.cell? ⟨gb128, 0, none⟩ = some (.int .i64 a0_0) := (blk_cell BK128.out 0).trans rfl
                  have hcz82_1 : wr.cell? ⟨gb128, 1, none⟩ = some (.int .i64 a0_1) := (blk_cell BK128.out 1).trans rfl
                  have hcz82_2 : wr.cell? ⟨gb128, 2, none⟩ = some (.int .i64 a0_2) := (blk_cell BK128.out 2).trans rfl
                  have hcz82_3 : wr.cell? ⟨gb128, 3, none⟩ = some (.int .i64 a0_3) := (blk_cell BK128.out 3).trans rfl
                  have hcz82_4 : wr.cell? ⟨gb128, 4, none⟩ = some (.int .i64 a0_4) := (blk_cell BK128.out 4).trans rfl
                  have hcz82_5 : wr.cell? ⟨gb128, 5, none⟩ = some (.slice A0_5 l0_5.length c0_5) := (blk_cell BK128.out 5).trans rfl
                  have hcz82_6 : wr.cell? ⟨gb128, 6, none⟩ = some (.slice A0_6 l0_6.length c0_6) := (blk_cell BK128.out 6).trans rfl
                  have hcz82_7 : wr.cell? ⟨gb128, 7, none⟩ = some (.slice A0_7 l0_7.length c0_7) := (blk_cell BK128.out 7).trans rfl
                  have hfz82_0 := blk_frozen BK128.out 0
                  have hfz82_1 := blk_frozen BK128.out 1
                  have hfz82_2 := blk_frozen BK128.out 2
                  have hfz82_3 := blk_frozen BK128.out 3
                  have hfz82_4 := blk_frozen BK128.out 4
                  have hfz82_5 := blk_frozen BK128.out 5
                  have hfz82_6 := blk_frozen BK128.out 6
                  have hfz82_7 := blk_frozen BK128.out 7
                  have hnb83 := NB131_129.out
                  have hnc83 := NB129_131.out
                  have hcz84_0 : wr.cell? ⟨gb131, 0, none⟩ = some (.int .i64 (wrap64 (1 + t130))) := (blk_cell BK131.out 0).trans rfl
                  have hcz84_1 : wr.cell? ⟨gb131, 1, none⟩ = some (.int .i64 (wrap64 ((wrap64 ((wrap64 (2 * (wrap64 (1 + t130)))) + 2)) + t132))) := (blk_cell BK131.out 1).trans rfl
                  have hcz84_2 : wr.cell? ⟨gb131, 2, none⟩ = some (.int .i64 t133) := (blk_cell BK131.out 2).trans rfl
                  have hcz84_3 : wr.cell? ⟨gb131, 3, none⟩ = some (.int .i64 t135) := (blk_cell BK131.out 3).trans rfl
                  have hcz84_4 : wr.cell? ⟨gb131, 4, none⟩ = some (.int .i64 t134) := (blk_cell BK131.out 4).trans rfl
                  have hcz84_5 : wr.cell? ⟨gb131, 5, none⟩ = some (u132005) := (blk_cell BK131.out 5).trans rfl
                  have hcz84_6 : wr.cell? ⟨gb131, 6, none⟩ = some (u132006) := (blk_cell BK131.out 6).trans rfl
                  have hfz84_0 := blk_frozen BK131.out 0
                  have hfz84_1 := blk_frozen BK131.out 1
                  have hfz84_2 := blk_frozen BK131.out 2
                  have hfz84_3 := blk_frozen BK131.out 3
                  have hfz84_4 := blk_frozen BK131.out 4
                  have hfz84_5 := blk_frozen BK131.out 5
                  have hfz84_6 := blk_frozen BK131.out 6
                  have hcz85_0 : wr.cell? ⟨gb129, 0, none⟩ = some (.int .i64 0) := (blk_cell BK129.out 0).trans rfl
                  have hcz85_1 : wr.cell? ⟨gb129, 1, none⟩ = some (.int .i64 0) := (blk_cell BK129.out 1).trans rfl
                  have hcz85_2 : wr.cell? ⟨gb129, 2, none⟩ = some (.int .i64 0) := (blk_cell BK129.out 2).trans rfl
                  have hcz85_3 : wr.cell? ⟨gb129, 3, none⟩ = some (.int .i64 0) := (blk_cell BK129.out 3).trans rfl
                  have hcz85_4 : wr.cell? ⟨gb129, 4, none⟩ = some (.int .i64 0) := (blk_cell BK129.out 4).trans rfl
                  have hcz85_5 : wr.cell? ⟨gb129, 5, none⟩ = some (.slice none 0 0) := (blk_cell BK129.out 5).trans rfl
                  have hcz85_6 : wr.cell? ⟨gb129, 6, none⟩ = some (.slice none 0 0) := (blk_cell BK129.out 6).trans rfl
                  have hfz85_0 := blk_frozen BK129.out 0
                  have hfz85_1 := blk_frozen BK129.out 1
                  have hfz85_2 := blk_frozen BK129.out 2
                  have hfz85_3 := blk_frozen BK129.out 3
                  have hfz85_4 := blk_frozen BK129.out 4
                  have hfz85_5 := blk_frozen BK129.out 5
                  have hfz85_6 := blk_frozen BK129.out 6
                  obtain ⟨Ao86, co86, eo86⟩ := Kd.R_slice HO_132005.out
                  subst eo86
                  obtain ⟨Ao87, co87, eo87⟩ := Kd.R_slice HO_132006.out
                  subst eo87
                  go_wp2
                  refine bodyPost_ret (results_cell_row rfl _ _ gb129 29 #[.int .i64 (wrap64 (1 + t130)), .int .i64 (wrap64 ((wrap64 ((wrap64 (2 * (wrap64 (1 + t130)))) + 2)) + t132)), .int .i64 t133, .int .i64 t135, .int .i64 t134, .slice Ao86 x132005_1.length co86, .slice Ao87 x132006_3.length co87] (0, 0) _ rfl (by (with_reducible repeat (first | refine blk_drewN ?_ _ | refine blk_drew ?_ | refine blk_alloc ?_ _)); refine blk_put (cs := #[.int .i64 (wrap64 (1 + t130)), .int .i64 (wrap64 ((wrap64 ((wrap64 (2 * (wrap64 (1 + t130)))) + 2)) + t132)), .int .i64 t133, .int .i64 t135, .int .i64 t134, .slice Ao86 x132005_1.length co86, .slice none 0 0]) ?_ 6 _ rfl; (with_reducible repeat (first | refine blk_drewN ?_ _ | refine blk_drew ?_ | refine blk_alloc ?_ _)); refine blk_put (cs := #[.int .i64 (wrap64 (1 + t130)), .int .i64 (wrap64 ((wrap64 ((wrap64 (2 * (wrap64 (1 + t130)))) + 2)) + t132)), .int .i64 t133, .int .i64 t135, .int .i64 t134, .slice none 0 0, .slice none 0 0]) ?_ 5 _ rfl; (with_reducible repeat (first | refine blk_drewN ?_ _ | refine blk_drew ?_ | refine blk_alloc ?_ _)); refine blk_put (cs := #[.int .i64 (wrap64 (1 + t130)), .int .i64 (wrap64 ((wrap64 ((wrap64 (2 * (wrap64 (1 + t130)))) + 2)) + t132)), .int .i64 t133, .int .i64 t135, .int .i64 0, .slice none 0 0, .slice none 0 0]) ?_ 4 _ rfl; (with_reducible repeat (first | refine blk_drewN ?_ _ | refine blk_drew ?_ | refine blk_alloc ?_ _)); refine blk_put (cs := #[.int .i64 (wrap64 (1 + t130)), .int .i64 (wrap64 ((wrap64 ((wrap64 (2 * (wrap64 (1 + t130)))) + 2)) + t132)), .int .i64 t133, .int .i64 0, .int .i64 0, .slice none 0 0, .slice none 0 0]) ?_ 3 _ rfl; (with_reducible repeat (first | refine blk_drewN ?_ _ | refine blk_drew ?_ | refine blk_alloc ?_ _)); refine blk_put (cs := #[.int .i64 (wrap64 (1 + t130)), .int .i64 (wrap64 ((wrap64 ((wrap64 (2 * (wrap64 (1 + t130)))) + 2)) + t132)), .int .i64 0, .int .i64 0, .int .i64 0, .slice none 0 0, .slice none 0 0]) ?_ 2 _ rfl; (with_reducible repeat (first | refine blk_drewN ?_ _ | refine blk_drew ?_ | refine blk_alloc ?_ _)); refine blk_put (cs := #[.int .i64 (wrap64 (1 + t130)), .int .i64 0, .int .i64 0, .int .i64 0, .int .i64 0, .slice none 0 0, .slice none 0 0]) ?_ 1 _ rfl; (with_reducible repeat (first | refine blk_drewN ?_ _ | refine blk_drew ?_ | refine blk_alloc ?_ _)); refine blk_put (cs := #[.int .i64 0, .int .i64 0, .int .i64 0, .int .i64 0, .int .i64 0, .slice none 0 0, .slice none 0 0]) ?_ 0 _ rfl; (with_reducible repeat (first | refine blk_drewN ?_ _ | refine blk_drew ?_ | refine blk_alloc ?_ _)); exact BK129.out) Try.underlying29 rfl (by kernel_rfl)) rfl ?_
                  exact ⟨_, _, by first | rfl | (simp [errW_none, errW_some] <;> rfl) | (simp [*, errW_none, errW_some] <;> rfl), by (with_reducible repeat (first | apply Kd.R_alloc | apply Kd.R_drewN | apply Kd.R_drew)); exact Kd.R_mono (Kd.R_far (p := ⟨gb129, 6, none⟩) (Kd.R_far (p := ⟨gb129, 5, none⟩) (Kd.R_far (p := ⟨gb129, 4, none⟩) (Kd.R_far (p := ⟨gb129, 3, none⟩) (Kd.R_far (p := ⟨gb129, 2, none⟩) (Kd.R_far (p := ⟨gb129, 1, none⟩) (Kd.R_far (p := ⟨gb129, 0, none⟩) (Kd.R_types HO_132005.out BK129.out (by decide)) (fun _ hk => hk.2) (.int .i64 (wrap64 (1 + t130)))) (fun _ hk => hk.2) (.int .i64 (wrap64 ((wrap64 ((wrap64 (2 * (wrap64 (1 + t130)))) + 2)) + t132)))) (fun _ hk => hk.2) (.int .i64 t133)) (fun _ hk => hk.2) (.int .i64 t135)) (fun _ hk => hk.2) (.int .i64 t134)) (fun _ hk => hk.2) (.slice Ao86 x132005_1.length co86)) (fun _ hk => hk.2) (.slice Ao87 x132006_3.length co87)) (fun _ hk => trivial), by (with_reducible repeat (first | apply Kd.R_alloc | apply Kd.R_drewN | apply Kd.R_drew)); exact Kd.R_mono (Kd.R_far (p := ⟨gb129, 6, none⟩) (Kd.R_far (p := ⟨gb129, 5, none⟩) (Kd.R_far (p := ⟨gb129, 4, none⟩) (Kd.R_far (p := ⟨gb129, 3, none⟩) (Kd.R_far (p := ⟨gb129, 2, none⟩) (Kd.R_far (p := ⟨gb129, 1, none⟩) (Kd.R_far (p := ⟨gb129, 0, none⟩) (Kd.R_types HO_132006.out BK129.out (by decide)) (fun _ hk => hk.2) (.int .i64 (wrap64 (1 + t130)))) (fun _ hk => hk.2) (.int .i64 (wrap64 ((wrap64 ((wrap64 (2 * (wrap64 (1 + t130)))) + 2)) + t132)))) (fun _ hk => hk.2) (.int .i64 t133)) (fun _ hk => hk.2) (.int .i64 t135)) (fun _ hk => hk.2) (.int .i64 t134)) (fun _ hk => hk.2) (.slice Ao86 x132005_1.length co86)) (fun _ hk => hk.2) (.slice Ao87 x132006_3.length co87)) (fun _ hk => trivial), by repeat (first | (with_reducible first | exact HB.out | apply below_alloc | apply pw_below_drewN | apply below_drew1 | refine below_set ?_ GE128.out | refine below_set ?_ GE129.out | refine below_set ?_ GE131.out) | exact HB.out)⟩

end Go.Proofs.Ytdhkplfkbdldfaa.P
