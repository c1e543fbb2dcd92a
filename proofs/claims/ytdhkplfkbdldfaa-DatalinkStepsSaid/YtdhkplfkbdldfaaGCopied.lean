/- datalink.copied: the link with its rows in memory of the call's own. -/
import Derived.Test.YtdhkplfkbdldfaaGClones
import Derived.Shelf.RegionOpenPlain
import Derived.RegionTactic
namespace Go.Proofs.Ytdhkplfkbdldfaa.P
open Go.RowKit Go.Proofs.YtdhkplfkbdldfaaW.PrintWords Go.Shelf
set_option linter.unusedVariables false
/-- A link stored whole. -/
def put7 (W : World) (g : Nat) (u0 u1 u2 u3 u4 u5 u6 : Value) : World :=
  ((((((W.setCell ⟨g, 0, none⟩ u0).setCell ⟨g, 1, none⟩ u1).setCell ⟨g, 2, none⟩ u2).setCell ⟨g, 3, none⟩ u3).setCell ⟨g, 4, none⟩ u4).setCell ⟨g, 5, none⟩ u5).setCell ⟨g, 6, none⟩ u6
theorem put7_blk {W : World} {g t : Nat} {b0 b1 b2 b3 b4 b5 b6 : Value} (h : W.heap[g]? = some (.cells #[b0, b1, b2, b3, b4, b5, b6] t (0, 0))) (u0 u1 u2 u3 u4 u5 u6 : Value) : (put7 W g u0 u1 u2 u3 u4 u5 u6).heap[g]? = some (.cells #[u0, u1, u2, u3, u4, u5, u6] t (0, 0)) := by
  unfold put7
  refine (blk_set (blk_set (blk_set (blk_set (blk_set (blk_set (blk_set h 0 u0) 1 u1) 2 u2) 3 u3) 4 u4) 5 u5) 6 u6).trans ?_
  simp only [List.setIfInBounds_toArray, List.set_cons_zero, List.set_cons_succ]
theorem put7_far {W : World} {g k : Nat} (hk : k ≠ g) (u0 u1 u2 u3 u4 u5 u6 : Value) : (put7 W g u0 u1 u2 u3 u4 u5 u6).heap[k]? = W.heap[k]? := by
  unfold put7
  simp only [Below.heap_setCell _ _ _ k (show k ≠ (⟨g, 0, none⟩ : Addr).block from hk), Below.heap_setCell _ _ _ k (show k ≠ (⟨g, 1, none⟩ : Addr).block from hk), Below.heap_setCell _ _ _ k (show k ≠ (⟨g, 2, none⟩ : Addr).block from hk), Below.heap_setCell _ _ _ k (show k ≠ (⟨g, 3, none⟩ : Addr).block from hk), Below.heap_setCell _ _ _ k (show k ≠ (⟨g, 4, none⟩ : Addr).block from hk), Below.heap_setCell _ _ _ k (show k ≠ (⟨g, 5, none⟩ : Addr).block from hk), Below.heap_setCell _ _ _ k (show k ≠ (⟨g, 6, none⟩ : Addr).block from hk)]
theorem put7_below {B : Nat} {w W : World} (h : Below B w W) {g : Nat} (hg : B ≤ g) (u0 u1 u2 u3 u4 u5 u6 : Value) : Below B w (put7 W g u0 u1 u2 u3 u4 u5 u6) :=
  ((((((h.setCell (p := ⟨g, 0, none⟩) hg u0).setCell (p := ⟨g, 1, none⟩) hg u1).setCell (p := ⟨g, 2, none⟩) hg u2).setCell (p := ⟨g, 3, none⟩) hg u3).setCell (p := ⟨g, 4, none⟩) hg u4).setCell (p := ⟨g, 5, none⟩) hg u5).setCell (p := ⟨g, 6, none⟩) hg u6
theorem put7_R {α : Type} {d : Kd α} {e : Nat} {W : World} {base : Nat} {ok : Nat → Prop} {v : Value} {xs : List α} (h : d.R e W base ok v xs) {g t : Nat} {cs : Array Value} (hb : W.heap[g]? = some (.cells cs t (0, 0))) (ht : ∀ q, q ∈ e :: d.E → q ≠ t) (u0 u1 u2 u3 u4 u5 u6 : Value) : d.R e (put7 W g u0 u1 u2 u3 u4 u5 u6) base ok v xs :=
  Kd.R_mono (Kd.R_step (Kd.R_types h hb ht) (fun k hk _ => put7_far hk.2 u0 u1 u2 u3 u4 u5 u6)) (fun _ hk => hk.1)
set_option maxHeartbeats 8000000 in
set_option maxRecDepth 1000000 in
theorem copied_calls (a0 a1 a2 a3 a4 : Int) (A5 : Option Addr) (c5 : Nat) (l5 : List S46) (A6 : Option Addr) (c6 : Nat) (l6 : List Int) (w : World) (hr5 : Kd.C k46 w A5 l5.length l5) (hc5 : l5.length ≤ c5) (hr6 : Kd.C (Kd.int .i64) w A6 l6.length l6) (hc6 : l6.length ≤ c6) (h5 : l5.length ≤ 4398046511104) (h6 : l6.length ≤ 4398046511104) :
    Calls Try.prog 23 #[.agg #[.int .i64 a0, .int .i64 a1, .int .i64 a2, .int .i64 a3, .int .i64 a4, .slice A5 l5.length c5, .slice A6 l6.length c6]] w fun e w' => ∃ v5 v6 : Value, e = .returned (.agg #[.int .i64 a0, .int .i64 a1, .int .i64 a2, .int .i64 a3, .int .i64 a4, v5, v6]) ∧
      Kd.R k46 46 w' w.heap.size (fun _ => True) v5 l5 ∧ Kd.R (Kd.int .i64) 3 w' w.heap.size (fun _ => True) v6 l6 ∧ Below w.heap.size w w' := by
  have hu := Try.underlying29
  have HR5 := Aside0.mk hr5
  have HR6 := Aside0.mk hr6
  clear hr5 hr6
  go_enter Try.func23, Try.ntmps23
  go_wp2_with fail
  obtain ⟨gx, hgx⟩ : ∃ gx, gx = w.heap.size := ⟨_, rfl⟩
  have mixed : Try.prog.follows Departure.mixedOrders = true := by kernel_rfl
  have hB0 : Below w.heap.size w ((w.alloc (.cells #[.int .i64 a0, .int .i64 a1, .int .i64 a2, .int .i64 a3, .int .i64 a4, .slice A5 l5.length c5, .slice A6 l6.length c6] 29)).alloc (.cells #[.int .i64 0, .int .i64 0, .int .i64 0, .int .i64 0, .int .i64 0, .slice none 0 0, .slice none 0 0] 29)) := below_alloc (below_alloc (Below.refl _ _) _) _
  have hX0 := blk_alloc (blk_new w (.cells #[.int .i64 a0, .int .i64 a1, .int .i64 a2, .int .i64 a3, .int .i64 a4, .slice A5 l5.length c5, .slice A6 l6.length c6] 29)) (.cells #[.int .i64 0, .int .i64 0, .int .i64 0, .int .i64 0, .int .i64 0, .slice none 0 0, .slice none 0 0] 29)
  have hO0 := blk_new (w.alloc (.cells #[.int .i64 a0, .int .i64 a1, .int .i64 a2, .int .i64 a3, .int .i64 a4, .slice A5 l5.length c5, .slice A6 l6.length c6] 29)) (.cells #[.int .i64 0, .int .i64 0, .int .i64 0, .int .i64 0, .int .i64 0, .slice none 0 0, .slice none 0 0] 29)
  rw [World.size_alloc] at hO0
  generalize ((w.alloc (.cells #[.int .i64 a0, .int .i64 a1, .int .i64 a2, .int .i64 a3, .int .i64 a4, .slice A5 l5.length c5, .slice A6 l6.length c6] 29)).alloc (.cells #[.int .i64 0, .int .i64 0, .int .i64 0, .int .i64 0, .int .i64 0, .slice none 0 0, .slice none 0 0] 29)) = W at hB0 hX0 hO0 ⊢
  have HB0 := Aside0.mk hB0
  have X0 := Aside0.mk hX0
  have O0 := Aside0.mk hO0
  clear hB0 hX0 hO0
  have hc5' : W.cell? ⟨w.heap.size, 5, none⟩ = some (.slice A5 l5.length c5) := (blk_cell X0.out 5).trans rfl
  have hc6' : W.cell? ⟨w.heap.size, 6, none⟩ = some (.slice A6 l6.length c6) := (blk_cell X0.out 6).trans rfl
  go_region_with_o (first
    | (go_at_call 31; refine (clone_frames A5 c5 l5 _ (Kd.C_drew (Kd.C_below HR5.out HB0.out)) hc5 h5).mono ?_; rintro e w1 ⟨v5, rfl, hv5, hb5⟩; obtain ⟨Af, cf, rfl, _, _⟩ := Kd.R_reads hv5; have X1 := Aside0.mk (blk_below (blk_drew X0.out) hb5); have hc61 : w1.cell? ⟨w.heap.size, 6, none⟩ = some (.slice A6 l6.length c6) := (blk_cell X1.out 6).trans rfl; have HB1 := Aside0.mk (below_step (below_drew1 HB0.out) hb5); have V5 := Aside0.mk hv5; have K5 := Aside0.mk hb5; clear hv5 hb5)
    | (go_at_call 32; refine (clone_ints A6 c6 l6 _ (Kd.C_below HR6.out HB1.out) hc6 h6).mono ?_; rintro e w2 ⟨v6, rfl, hv6, hb6⟩; obtain ⟨Aa, ca, rfl, _, _⟩ := Kd.R_reads hv6; have X2 := Aside0.mk (blk_below X1.out hb6); have HB2 := Aside0.mk (below_step HB1.out hb6); have V6 := Aside0.mk hv6; have K6 := Aside0.mk hb6; clear hv6 hb6; have hx5 : w2.cell? ⟨w.heap.size, 5, none⟩ = some (.slice A5 l5.length c5) := (blk_cell X2.out 5).trans rfl; have hx6 : w2.cell? ⟨w.heap.size, 6, none⟩ = some (.slice A6 l6.length c6) := (blk_cell X2.out 6).trans rfl; have hf5 := blk_frozen X2.out 5; have hf6 := blk_frozen X2.out 6))
  all_goals
    have X3 := blk_put (blk_put X2.out 5 (.slice Af l5.length cf) rfl) 6 (.slice Aa l6.length ca) rfl
    have O3 := blk_far (blk_far (blk_below (blk_below (blk_drew O0.out) K5.out) K6.out) (p := ⟨w.heap.size, 5, none⟩) (by show w.heap.size + 1 ≠ w.heap.size; omega) (.slice Af l5.length cf)) (p := ⟨w.heap.size, 6, none⟩) (by show w.heap.size + 1 ≠ w.heap.size; omega) (.slice Aa l6.length ca)
    have F3 := Kd.R_far (p := ⟨w.heap.size, 6, none⟩) (Kd.R_far (p := ⟨w.heap.size, 5, none⟩) (Kd.R_types (Kd.R_below V5.out K6.out) X2.out (by decide)) (fun _ hk => hk.2) (.slice Af l5.length cf)) (fun _ hk => hk.2) (.slice Aa l6.length ca)
    have A3 := Kd.R_far (p := ⟨w.heap.size, 6, none⟩) (Kd.R_far (p := ⟨w.heap.size, 5, none⟩) (Kd.R_types V6.out X2.out (by decide)) (fun _ hk => hk.2) (.slice Af l5.length cf)) (fun _ hk => hk.2) (.slice Aa l6.length ca)
    have B3 := below_set (j := 6) (v := .slice Aa l6.length ca) (below_set (j := 5) (v := .slice Af l5.length cf) HB2.out (Nat.le_refl _)) (Nat.le_refl w.heap.size)
    have hs0 := below_size HB0.out
    have hs1 := below_size HB1.out
    generalize ((w2.setCell ⟨w.heap.size, 5, none⟩ (.slice Af l5.length cf)).setCell ⟨w.heap.size, 6, none⟩ (.slice Aa l6.length ca)) = W3 at X3 O3 F3 A3 B3 ⊢
    have HX3 := Aside0.mk X3
    have HO3 := Aside0.mk O3
    have HF3 := Aside0.mk F3
    have HA3 := Aside0.mk A3
    have HB3 := Aside0.mk B3
    clear X3 O3 F3 A3 B3 hx5 hx6 hf5 hf6 hc61 hc5' hc6'
    have z0 : W3.cell? ⟨w.heap.size, 0, none⟩ = some (.int .i64 a0) := (blk_cell HX3.out 0).trans rfl
    have z1 : W3.cell? ⟨w.heap.size, 1, none⟩ = some (.int .i64 a1) := (blk_cell HX3.out 1).trans rfl
    have z2 : W3.cell? ⟨w.heap.size, 2, none⟩ = some (.int .i64 a2) := (blk_cell HX3.out 2).trans rfl
    have z3 : W3.cell? ⟨w.heap.size, 3, none⟩ = some (.int .i64 a3) := (blk_cell HX3.out 3).trans rfl
    have z4 : W3.cell? ⟨w.heap.size, 4, none⟩ = some (.int .i64 a4) := (blk_cell HX3.out 4).trans rfl
    have z5 : W3.cell? ⟨w.heap.size, 5, none⟩ = some (.slice Af l5.length cf) := (blk_cell HX3.out 5).trans rfl
    have z6 : W3.cell? ⟨w.heap.size, 6, none⟩ = some (.slice Aa l6.length ca) := (blk_cell HX3.out 6).trans rfl
    have y0 : W3.cell? ⟨w.heap.size + 1, 0, none⟩ = some (.int .i64 0) := (blk_cell HO3.out 0).trans rfl
    have y1 : W3.cell? ⟨w.heap.size + 1, 1, none⟩ = some (.int .i64 0) := (blk_cell HO3.out 1).trans rfl
    have y2 : W3.cell? ⟨w.heap.size + 1, 2, none⟩ = some (.int .i64 0) := (blk_cell HO3.out 2).trans rfl
    have y3 : W3.cell? ⟨w.heap.size + 1, 3, none⟩ = some (.int .i64 0) := (blk_cell HO3.out 3).trans rfl
    have y4 : W3.cell? ⟨w.heap.size + 1, 4, none⟩ = some (.int .i64 0) := (blk_cell HO3.out 4).trans rfl
    have y5 : W3.cell? ⟨w.heap.size + 1, 5, none⟩ = some (.slice none 0 0) := (blk_cell HO3.out 5).trans rfl
    have y6 : W3.cell? ⟨w.heap.size + 1, 6, none⟩ = some (.slice none 0 0) := (blk_cell HO3.out 6).trans rfl
    have x0 := blk_frozen HO3.out 0
    have x1 := blk_frozen HO3.out 1
    have x2 := blk_frozen HO3.out 2
    have x3 := blk_frozen HO3.out 3
    have x4 := blk_frozen HO3.out 4
    have x5 := blk_frozen HO3.out 5
    have x6 := blk_frozen HO3.out 6
    go_wp2
    refine bodyPost_ret (results_cell_row rfl _ (put7 W3 (w.heap.size + 1) (.int .i64 a0) (.int .i64 a1) (.int .i64 a2) (.int .i64 a3) (.int .i64 a4) (.slice Af l5.length cf) (.slice Aa l6.length ca)) (w.heap.size + 1) 29 #[.int .i64 a0, .int .i64 a1, .int .i64 a2, .int .i64 a3, .int .i64 a4, .slice Af l5.length cf, .slice Aa l6.length ca] (0, 0) _ rfl (put7_blk HO3.out _ _ _ _ _ _ _) Try.underlying29 rfl (by kernel_rfl)) rfl ?_
    exact ⟨_, _, rfl, Kd.R_lower (Kd.R_mono (put7_R HF3.out HO3.out (by decide) _ _ _ _ _ _ _) (fun _ _ => trivial)) (by first | exact hs0 | exact Nat.le_trans hs0 (Nat.le_refl _)), Kd.R_lower (Kd.R_mono (put7_R HA3.out HO3.out (by decide) _ _ _ _ _ _ _) (fun _ _ => trivial)) hs1, put7_below HB3.out (Nat.le_succ _) _ _ _ _ _ _ _⟩
end Go.Proofs.Ytdhkplfkbdldfaa.P
