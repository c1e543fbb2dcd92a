/- family.Grid. -/
import Derived.Test.YtilmpkoklkgjeaaGRel
namespace Go.Proofs.Ytilmpkoklkgjeaa.P
open Go.RowKit Go.Proofs.YtilmpkoklkgjeaaW.PrintWords Go.Proofs.YtilmpkoklkgjeaaW.PrintLast Go.Proofs.YtilmpkoklkgjeaaW.PrintMore Go.Shelf
set_option linter.unusedVariables false
set_option linter.unusedSimpArgs false
theorem within_f (a b c : Int) : family_within.f a b c = some (decide (b ≤ a ∧ a ≤ c)) := by
  unfold family_within.f
  by_cases h : a ≥ b
  · rw [if_pos h]; congr 1; simp [show b ≤ a from h]
  · rw [if_neg h]; congr 1; simp; omega
def family_Grid.f (k : Nat) (a0 a1 : Int) : Option (List Int × List (List S50) × Int) :=
  if (1 ≤ a0 ∧ a0 ≤ 24) ∧ (1 ≤ a1 ∧ a1 ≤ 24) then family_sized.f k (wrap64 (a0 * a1)) 1 (areGrid a0) else some ([], [], 2)
theorem family_Grid.mono : ∀ a0 a1 k, LeO (family_Grid.f k a0 a1) (family_Grid.f (k + 1) a0 a1) := by
  intro a0 a1 k
  unfold family_Grid.f
  exact LeO.ite (family_sized.mono _ _ _ _) (LeO.refl _)
theorem shape_end {w W : World} {g : Nat} {v0 v1 b0 b1 : Value} {r1 : List Int} {r2 : List (List S50)} (h0 : Kd.R (Kd.int .i64) 3 W w.heap.size (fun _ => True) v0 r1) (h1 : Kd.S (Kd.slice 50 k50) 48 W w.heap.size (fun _ => True) v1 r2) (hb : W.heap[g]? = some (.cells #[b0, b1] 26 (0, 0))) (hB : Below w.heap.size w W) (hg : w.heap.size ≤ g) :
    Kd.R (Kd.int .i64) 3 ((W.setCell ⟨g, 0, none⟩ v0).setCell ⟨g, 1, none⟩ v1) w.heap.size (fun _ => True) v0 r1 ∧ Kd.S (Kd.slice 50 k50) 48 ((W.setCell ⟨g, 0, none⟩ v0).setCell ⟨g, 1, none⟩ v1) w.heap.size (fun _ => True) v1 r2 ∧ Below w.heap.size w ((W.setCell ⟨g, 0, none⟩ v0).setCell ⟨g, 1, none⟩ v1) :=
  ⟨Kd.R_mono (Kd.R_far (p := ⟨g, 1, none⟩) (Kd.R_far (p := ⟨g, 0, none⟩) (Kd.R_types h0 hb (by decide)) (fun _ hk => hk.2) v0) (fun _ hk => hk.2) v1) (fun _ _ => trivial),
   Kd.S_mono (Kd.S_far (p := ⟨g, 1, none⟩) (Kd.S_far (p := ⟨g, 0, none⟩) (Kd.S_types h1 hb (by decide)) (fun _ hk => hk.2) v0) (fun _ hk => hk.2) v1) (fun _ _ => trivial),
   (hB.setCell (p := ⟨g, 0, none⟩) hg v0).setCell (p := ⟨g, 1, none⟩) hg v1⟩
set_option maxHeartbeats 8000000 in
set_option maxRecDepth 100000 in
theorem grid_good (k : Nat) (a0 a1 : Int) (r1 : List Int) (r2 : List (List S50)) (r3 : Int) (w : World) (g0 : 1 ≤ a0) (g1 : a0 ≤ 24) (g2 : 1 ≤ a1) (g3 : a1 ≤ 24) (h : family_sized.f k (wrap64 (a0 * a1)) 1 (areGrid a0) = some (r1, r2, r3)) :
    Calls Try.prog 20 #[.int .i64 a0, .int .i64 a1] w fun e w' => ∃ v0_ v1_ : Value, e = .returned (.tuple #[.agg #[v0_, v1_], .int .i64 r3]) ∧ Kd.R (Kd.int .i64) 3 w' w.heap.size (fun _ => True) v0_ r1 ∧ Kd.S (Kd.slice 50 k50) 48 w' w.heap.size (fun _ => True) v1_ r2 ∧ Below w.heap.size w w' := by
  have hu := Try.underlying26
  have HH := Aside0.mk h
  have HW0 := Aside0.mk (show family_within.f a0 1 24 = some true by rw [within_f, decide_eq_true ⟨g0, g1⟩])
  have HW1 := Aside0.mk (show family_within.f a1 1 24 = some true by rw [within_f, decide_eq_true ⟨g2, g3⟩])
  have hO := blk_new (w.alloc (.cells #[.int .i64 a0] 3)) (.cells #[.slice none 0 0, .slice none 0 0] 26)
  rw [World.size_alloc] at hO
  have O := Aside0.mk hO
  have X := Aside0.mk (blk_alloc (blk_new w (.cells #[.int .i64 a0] 3)) (.cells #[.slice none 0 0, .slice none 0 0] 26))
  have B := Aside0.mk (show Below w.heap.size w ((w.alloc (.cells #[.int .i64 a0] 3)).alloc (.cells #[.slice none 0 0, .slice none 0 0] 26)) from below_alloc (below_alloc (Below.refl _ _) _) _)
  clear h hO
  go_enter Try.func20, Try.ntmps20
  go_upto_region 3 with (first | (go_at_call 40; (with_reducible refine (family_within.calls a0 1 24 true _ HW0.out).mono ?_); rintro e w' ⟨rfl, ⟨nd, rfl⟩⟩) | (go_at_call 40; (with_reducible refine (family_within.calls a1 1 24 true _ HW1.out).mono ?_); rintro e w' ⟨rfl, ⟨nd2, rfl⟩⟩))
  have hsz : w.heap.size < (((w.alloc (.cells #[.int .i64 a0] 3)).alloc (.cells #[.slice none 0 0, .slice none 0 0] 26)).drewN (nd + nd2)).heap.size := by show w.heap.size < ((w.alloc (.cells #[.int .i64 a0] 3)).alloc (.cells #[.slice none 0 0, .slice none 0 0] 26)).heap.size; simp; omega
  have hG := Aside0.mk (areGrid_gives a0 w.heap.size (((w.alloc (.cells #[.int .i64 a0] 3)).alloc (.cells #[.slice none 0 0, .slice none 0 0] 26)).drewN (nd + nd2)) hsz ((blk_cell (blk_drewN X.out (nd + nd2)) 0).trans rfl))
  go_wp2_with (go_at_call 44; refine (family_sized.calls k (wrap64 (a0 * a1)) 1 (areGrid a0) 48 #[.pointer (some ⟨w.heap.size, 0, none⟩)] r1 r2 r3 _ eg_Grid hG.out HH.out).mono ?_; rintro e w1 ⟨v0, v1, rfl, h0, h1, hb⟩; obtain ⟨A0, c0, rfl, _, _⟩ := Kd.R_reads h0; obtain ⟨A1, c1, rfl, _⟩ := Kd.S_slice h1; have hO1 := blk_below (blk_drewN O.out (nd + nd2)) hb; have hHB := below_step (pw_below_drewN B.out (nd + nd2)) hb; have HB1 := Aside0.mk hHB; have H0 := Aside0.mk (Kd.R_lower h0 (below_size (pw_below_drewN B.out (nd + nd2)))); have H1 := Aside0.mk (Kd.S_lower h1 (below_size (pw_below_drewN B.out (nd + nd2)))); have y0 : w1.cell? ⟨w.heap.size + 1, 0, none⟩ = some (.slice none 0 0) := (blk_cell hO1 0).trans rfl; have y1 : w1.cell? ⟨w.heap.size + 1, 1, none⟩ = some (.slice none 0 0) := (blk_cell hO1 1).trans rfl; have fy0 := blk_frozen hO1 0; have fy1 := blk_frozen hO1 1; have O1 := Aside0.mk hO1; clear h0 h1 hb hO1 hHB hsz)
  have hE := shape_end H0.out H1.out O1.out HB1.out (Nat.le_succ _)
  refine bodyPost_ret (results_ct rfl _ _ (w.heap.size + 1) 26 #[.slice A0 r1.length c0, .slice A1 r2.length c1] (0, 0) _ rfl (blk_put (blk_put (cs' := #[.slice A0 r1.length c0, .slice none 0 0]) O1.out 0 _ rfl) 1 _ rfl) Try.underlying26 rfl (by kernel_rfl)) rfl ?_
  exact ⟨_, _, rfl, hE⟩
set_option maxHeartbeats 8000000 in
set_option maxRecDepth 100000 in
theorem grid_bad (k : Nat) (a0 a1 : Int) (w : World) (hn : ¬ ((1 ≤ a0 ∧ a0 ≤ 24) ∧ (1 ≤ a1 ∧ a1 ≤ 24))) :
    Calls Try.prog 20 #[.int .i64 a0, .int .i64 a1] w fun e w' => e = .returned (.tuple #[.agg #[.slice none 0 0, .slice none 0 0], .int .i64 2]) ∧ Below w.heap.size w w' := by
  have hu := Try.underlying26
  have hO := blk_new (w.alloc (.cells #[.int .i64 a0] 3)) (.cells #[.slice none 0 0, .slice none 0 0] 26)
  rw [World.size_alloc] at hO
  have O := Aside0.mk hO
  have B := Aside0.mk (show Below w.heap.size w ((w.alloc (.cells #[.int .i64 a0] 3)).alloc (.cells #[.slice none 0 0, .slice none 0 0] 26)) from below_alloc (below_alloc (Below.refl _ _) _) _)
  clear hO
  by_cases g : 1 ≤ a0 ∧ a0 ≤ 24
  · have HW0 := Aside0.mk (show family_within.f a0 1 24 = some true by rw [within_f, decide_eq_true g])
    have HW1 := Aside0.mk (show family_within.f a1 1 24 = some false by rw [within_f, decide_eq_false (fun h => hn ⟨g, h⟩)])
    clear hn g
    go_enter Try.func20, Try.ntmps20
    go_wp2_with (first | (go_at_call 40; (with_reducible refine (family_within.calls a0 1 24 true _ HW0.out).mono ?_); rintro e w' ⟨rfl, ⟨nd, rfl⟩⟩) | (go_at_call 40; (with_reducible refine (family_within.calls a1 1 24 false _ HW1.out).mono ?_); rintro e w' ⟨rfl, ⟨nd2, rfl⟩⟩))
    all_goals
      refine bodyPost_ret (results_ct rfl _ _ (w.heap.size + 1) 26 #[.slice none 0 0, .slice none 0 0] (0, 0) _ rfl (by first | exact blk_drewN (blk_put (blk_put (cs' := #[.slice none 0 0, .slice none 0 0]) O.out 0 _ rfl) 1 _ rfl) _ | exact blk_put (blk_put (cs' := #[.slice none 0 0, .slice none 0 0]) (blk_drewN O.out _) 0 _ rfl) 1 _ rfl) Try.underlying26 rfl (by kernel_rfl)) rfl ?_
      exact ⟨rfl, by repeat (first | exact B.out | apply pw_below_drewN | refine Below.setCell ?_ (by show w.heap.size ≤ w.heap.size + 1; omega) _)⟩
  · have HW0 := Aside0.mk (show family_within.f a0 1 24 = some false by rw [within_f, decide_eq_false g])
    clear hn g
    go_enter Try.func20, Try.ntmps20
    go_wp2_with (go_at_call 40; (with_reducible refine (family_within.calls a0 1 24 false _ HW0.out).mono ?_); rintro e w' ⟨rfl, ⟨nd, rfl⟩⟩)
    all_goals
      refine bodyPost_ret (results_ct rfl _ _ (w.heap.size + 1) 26 #[.slice none 0 0, .slice none 0 0] (0, 0) _ rfl (by first | exact blk_drewN (blk_put (blk_put (cs' := #[.slice none 0 0, .slice none 0 0]) O.out 0 _ rfl) 1 _ rfl) _ | exact blk_put (blk_put (cs' := #[.slice none 0 0, .slice none 0 0]) (blk_drewN O.out _) 0 _ rfl) 1 _ rfl) Try.underlying26 rfl (by kernel_rfl)) rfl ?_
      exact ⟨rfl, by repeat (first | exact B.out | apply pw_below_drewN | refine Below.setCell ?_ (by show w.heap.size ≤ w.heap.size + 1; omega) _)⟩
theorem family_Grid.calls (k : Nat) (a0 a1 : Int) (r1 : List Int) (r2 : List (List S50)) (r3 : Int) (w : World) (h : family_Grid.f k a0 a1 = some (r1, r2, r3)) :
    Calls Try.prog 20 #[.int .i64 a0, .int .i64 a1] w fun e w' => ∃ v0_ v1_ : Value, e = .returned (.tuple #[.agg #[v0_, v1_], .int .i64 r3]) ∧ Kd.R (Kd.int .i64) 3 w' w.heap.size (fun _ => True) v0_ r1 ∧ Kd.S (Kd.slice 50 k50) 48 w' w.heap.size (fun _ => True) v1_ r2 ∧ Below w.heap.size w w' := by
  unfold family_Grid.f at h
  by_cases g : (1 ≤ a0 ∧ a0 ≤ 24) ∧ (1 ≤ a1 ∧ a1 ≤ 24)
  · rw [if_pos g] at h
    exact grid_good k a0 a1 r1 r2 r3 w g.1.1 g.1.2 g.2.1 g.2.2 h
  · rw [if_neg g] at h
    simp only [Option.some.injEq, Prod.mk.injEq] at h
    obtain ⟨rfl, rfl, rfl⟩ := h
    refine (grid_bad k a0 a1 w g).mono ?_
    rintro e w' ⟨rfl, hb⟩
    exact ⟨_, _, rfl, Kd.R_nil _ _ _ _ _, Kd.S_nil _ _ _ _ _, hb⟩
end Go.Proofs.Ytilmpkoklkgjeaa.P
