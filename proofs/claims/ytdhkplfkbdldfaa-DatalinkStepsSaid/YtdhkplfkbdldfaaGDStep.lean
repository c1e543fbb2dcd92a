/- datalink.Step. -/
import Derived.Test.YtdhkplfkbdldfaaGDValid
import Derived.Test.YtdhkplfkbdldfaaGPerform
namespace Go.Proofs.Ytdhkplfkbdldfaa.P
open Go.RowKit Go.Proofs.YtdhkplfkbdldfaaW.PrintWords Go.Shelf
set_option linter.unusedVariables false
set_option linter.unusedSimpArgs false
def datalink_Step.f (a0 a1 a2 a3 a4 : Int) (l5 : List S46) (l6 : List Int) (e0 e1 : Int) : Option (Int × Int × Int × Int × Int × List S46 × List Int × Int × Bool) :=
  if ValidD ⟨a0, a1, a2, a3, a4, l5, l6⟩ then some ((stepD ⟨a0, a1, a2, a3, a4, l5, l6⟩ e0 e1).1.cap, (stepD ⟨a0, a1, a2, a3, a4, l5, l6⟩ e0 e1).1.mod, (stepD ⟨a0, a1, a2, a3, a4, l5, l6⟩ e0 e1).1.lab, (stepD ⟨a0, a1, a2, a3, a4, l5, l6⟩ e0 e1).1.item, (stepD ⟨a0, a1, a2, a3, a4, l5, l6⟩ e0 e1).1.last, (stepD ⟨a0, a1, a2, a3, a4, l5, l6⟩ e0 e1).1.fr, (stepD ⟨a0, a1, a2, a3, a4, l5, l6⟩ e0 e1).1.ak, (stepD ⟨a0, a1, a2, a3, a4, l5, l6⟩ e0 e1).2.1, (stepD ⟨a0, a1, a2, a3, a4, l5, l6⟩ e0 e1).2.2)
  else some (0, 0, 0, 0, 0, [], [], 0, false)
theorem link_put {W : World} {base g : Nat} {a0 a1 a2 a3 a4 : Int} {l5 : List S46} {l6 : List Int} {Af Aa : Option Addr} {cf ca : Nat} {cs : Array Value} {b0 b1 b2 b3 b4 b5 b6 : Value} (hb : W.heap[g]? = some (.cells #[b0, b1, b2, b3, b4, b5, b6] 29 (0, 0))) (h5 : Kd.R k46 46 W base (fun _ => True) (.slice Af l5.length cf) l5) (h6 : Kd.R (Kd.int .i64) 3 W base (fun _ => True) (.slice Aa l6.length ca) l6) (hg : base ≤ g) (hs : base ≤ W.heap.size) :
    LinkAt base g (put7 W g (.int .i64 a0) (.int .i64 a1) (.int .i64 a2) (.int .i64 a3) (.int .i64 a4) (.slice Af l5.length cf) (.slice Aa l6.length ca)) ⟨a0, a1, a2, a3, a4, l5, l6⟩ Af cf Aa ca :=
  ⟨put7_blk hb _ _ _ _ _ _ _, Kd.R_mono (put7_R h5 hb (by decide) _ _ _ _ _ _ _) (fun _ _ => trivial), Kd.R_mono (put7_R h6 hb (by decide) _ _ _ _ _ _ _) (fun _ _ => trivial), hg, by unfold put7; simpa using hs⟩
set_option maxHeartbeats 8000000 in
set_option maxRecDepth 1000000 in
theorem step_bad (a0 a1 a2 a3 a4 : Int) (A5 : Option Addr) (c5 : Nat) (l5 : List S46) (A6 : Option Addr) (c6 : Nat) (l6 : List Int) (e0 e1 : Int) (w : World) (hr5 : Kd.C k46 w A5 l5.length l5) (hc5 : l5.length ≤ c5) (hr6 : Kd.C (Kd.int .i64) w A6 l6.length l6) (hc6 : l6.length ≤ c6) (hV : ¬ ValidD ⟨a0, a1, a2, a3, a4, l5, l6⟩) :
    Calls Try.prog 18 #[.agg #[.int .i64 a0, .int .i64 a1, .int .i64 a2, .int .i64 a3, .int .i64 a4, .slice A5 l5.length c5, .slice A6 l6.length c6], .agg #[.int .i64 e0, .int .i64 e1]] w fun e w' => e = .returned (.tuple #[.agg #[.int .i64 0, .int .i64 0, .int .i64 0, .int .i64 0, .int .i64 0, .slice none 0 0, .slice none 0 0], .int .i64 0, .bool false]) ∧ Below w.heap.size w w' := by
  have hu := Try.underlying29
  have hval : datalink_Valid.f a0 a1 a2 a3 a4 l5 l6 = some false := by unfold datalink_Valid.f; rw [decide_eq_false hV]
  have HVA := Aside0.mk hval
  have HR5 := Aside0.mk hr5
  have HR6 := Aside0.mk hr6
  have hB0 : Below w.heap.size w (((w.alloc (.cells #[.int .i64 a0, .int .i64 a1, .int .i64 a2, .int .i64 a3, .int .i64 a4, .slice A5 l5.length c5, .slice A6 l6.length c6] 29)).alloc (.cells #[.int .i64 e0, .int .i64 e1] 40)).alloc (.cells #[.int .i64 0, .int .i64 0, .int .i64 0, .int .i64 0, .int .i64 0, .slice none 0 0, .slice none 0 0] 29)) := below_alloc (below_alloc (below_alloc (Below.refl _ _) _) _) _
  have hO0 := blk_new ((w.alloc (.cells #[.int .i64 a0, .int .i64 a1, .int .i64 a2, .int .i64 a3, .int .i64 a4, .slice A5 l5.length c5, .slice A6 l6.length c6] 29)).alloc (.cells #[.int .i64 e0, .int .i64 e1] 40)) (.cells #[.int .i64 0, .int .i64 0, .int .i64 0, .int .i64 0, .int .i64 0, .slice none 0 0, .slice none 0 0] 29)
  rw [World.size_alloc, World.size_alloc] at hO0
  have B0 := Aside0.mk hB0
  have O0 := Aside0.mk hO0
  clear hr5 hr6 hval hV hB0 hO0
  go_enter Try.func18, Try.ntmps18
  go_wp2_with (fail)
  generalize (((w.alloc (.cells #[.int .i64 a0, .int .i64 a1, .int .i64 a2, .int .i64 a3, .int .i64 a4, .slice A5 l5.length c5, .slice A6 l6.length c6] 29)).alloc (.cells #[.int .i64 e0, .int .i64 e1] 40)).alloc (.cells #[.int .i64 0, .int .i64 0, .int .i64 0, .int .i64 0, .int .i64 0, .slice none 0 0, .slice none 0 0] 29)) = W0 at B0 O0 ⊢
  refine (datalink_Valid.calls a0 a1 a2 a3 a4 A5 c5 l5 A6 c6 l6 false _ (Kd.C_below HR5.out B0.out) hc5 (Kd.C_below HR6.out B0.out) hc6 HVA.out).mono ?_
  rintro e w1 ⟨rfl, hb⟩
  have O1 := Aside0.mk (blk_below O0.out hb)
  have HB1 := Aside0.mk (below_step B0.out hb)
  clear hb
  have y0 : w1.cell? ⟨w.heap.size + 1 + 1, 0, none⟩ = some (.int .i64 0) := (blk_cell O1.out 0).trans rfl
  have y1 : w1.cell? ⟨w.heap.size + 1 + 1, 1, none⟩ = some (.int .i64 0) := (blk_cell O1.out 1).trans rfl
  have y2 : w1.cell? ⟨w.heap.size + 1 + 1, 2, none⟩ = some (.int .i64 0) := (blk_cell O1.out 2).trans rfl
  have y3 : w1.cell? ⟨w.heap.size + 1 + 1, 3, none⟩ = some (.int .i64 0) := (blk_cell O1.out 3).trans rfl
  have y4 : w1.cell? ⟨w.heap.size + 1 + 1, 4, none⟩ = some (.int .i64 0) := (blk_cell O1.out 4).trans rfl
  have y5 : w1.cell? ⟨w.heap.size + 1 + 1, 5, none⟩ = some (.slice none 0 0) := (blk_cell O1.out 5).trans rfl
  have y6 : w1.cell? ⟨w.heap.size + 1 + 1, 6, none⟩ = some (.slice none 0 0) := (blk_cell O1.out 6).trans rfl
  have x0 := blk_frozen O1.out 0
  have x1 := blk_frozen O1.out 1
  have x2 := blk_frozen O1.out 2
  have x3 := blk_frozen O1.out 3
  have x4 := blk_frozen O1.out 4
  have x5 := blk_frozen O1.out 5
  have x6 := blk_frozen O1.out 6
  go_wp2_with (fail)
  refine bodyPost_ret (results_ctt rfl _ (put7 w1 (w.heap.size + 1 + 1) (.int .i64 0) (.int .i64 0) (.int .i64 0) (.int .i64 0) (.int .i64 0) (.slice none 0 0) (.slice none 0 0)) (w.heap.size + 1 + 1) 29 #[.int .i64 0, .int .i64 0, .int .i64 0, .int .i64 0, .int .i64 0, .slice none 0 0, .slice none 0 0] (0, 0) _ rfl (put7_blk O1.out _ _ _ _ _ _ _) Try.underlying29 rfl (by kernel_rfl)) rfl ?_
  exact ⟨rfl, put7_below HB1.out (by omega) _ _ _ _ _ _ _⟩
set_option maxHeartbeats 8000000 in
set_option maxRecDepth 1000000 in
theorem step_good (a0 a1 a2 a3 a4 : Int) (A5 : Option Addr) (c5 : Nat) (l5 : List S46) (A6 : Option Addr) (c6 : Nat) (l6 : List Int) (e0 e1 : Int) (w : World) (hr5 : Kd.C k46 w A5 l5.length l5) (hc5 : l5.length ≤ c5) (hr6 : Kd.C (Kd.int .i64) w A6 l6.length l6) (hc6 : l6.length ≤ c6) (V : ValidD ⟨a0, a1, a2, a3, a4, l5, l6⟩) :
    Calls Try.prog 18 #[.agg #[.int .i64 a0, .int .i64 a1, .int .i64 a2, .int .i64 a3, .int .i64 a4, .slice A5 l5.length c5, .slice A6 l6.length c6], .agg #[.int .i64 e0, .int .i64 e1]] w fun e w' => ∃ v5 v6 : Value, e = .returned (.tuple #[.agg #[.int .i64 (stepD ⟨a0, a1, a2, a3, a4, l5, l6⟩ e0 e1).1.cap, .int .i64 (stepD ⟨a0, a1, a2, a3, a4, l5, l6⟩ e0 e1).1.mod, .int .i64 (stepD ⟨a0, a1, a2, a3, a4, l5, l6⟩ e0 e1).1.lab, .int .i64 (stepD ⟨a0, a1, a2, a3, a4, l5, l6⟩ e0 e1).1.item, .int .i64 (stepD ⟨a0, a1, a2, a3, a4, l5, l6⟩ e0 e1).1.last, v5, v6], .int .i64 (stepD ⟨a0, a1, a2, a3, a4, l5, l6⟩ e0 e1).2.1, .bool (stepD ⟨a0, a1, a2, a3, a4, l5, l6⟩ e0 e1).2.2]) ∧
      Kd.R k46 46 w' w.heap.size (fun _ => True) v5 (stepD ⟨a0, a1, a2, a3, a4, l5, l6⟩ e0 e1).1.fr ∧ Kd.R (Kd.int .i64) 3 w' w.heap.size (fun _ => True) v6 (stepD ⟨a0, a1, a2, a3, a4, l5, l6⟩ e0 e1).1.ak ∧ Below w.heap.size w w' := by
  have hu := Try.underlying29
  have hu2 := Try.underlying40
  have hval : datalink_Valid.f a0 a1 a2 a3 a4 l5 l6 = some true := by unfold datalink_Valid.f; rw [decide_eq_true V]
  have HVA := Aside0.mk hval
  have HVV := Aside0.mk V
  have HR5 := Aside0.mk hr5
  have HR6 := Aside0.mk hr6
  have n5 : l5.length ≤ 8 := by obtain ⟨v1, v2, _, _, _, _, _, _, _, _, v11, _⟩ := V; dsimp only at v2 v11; omega
  have n6 : l6.length ≤ 8 := by obtain ⟨v1, v2, _, _, _, _, _, _, _, _, _, v12, _⟩ := V; dsimp only at v2 v12; omega
  obtain ⟨s, hs⟩ : ∃ s, s = stepD ⟨a0, a1, a2, a3, a4, l5, l6⟩ e0 e1 := ⟨_, rfl⟩
  have HSS := Aside0.mk hs
  rw [← hs]
  have B0 := Aside0.mk (show Below w.heap.size w (((w.alloc (.cells #[.int .i64 a0, .int .i64 a1, .int .i64 a2, .int .i64 a3, .int .i64 a4, .slice A5 l5.length c5, .slice A6 l6.length c6] 29)).alloc (.cells #[.int .i64 e0, .int .i64 e1] 40)).alloc (.cells #[.int .i64 0, .int .i64 0, .int .i64 0, .int .i64 0, .int .i64 0, .slice none 0 0, .slice none 0 0] 29)) from below_alloc (below_alloc (below_alloc (Below.refl _ _) _) _) _)
  have X0 := Aside0.mk (blk_alloc (blk_alloc (blk_new w (.cells #[.int .i64 a0, .int .i64 a1, .int .i64 a2, .int .i64 a3, .int .i64 a4, .slice A5 l5.length c5, .slice A6 l6.length c6] 29)) (.cells #[.int .i64 e0, .int .i64 e1] 40)) (.cells #[.int .i64 0, .int .i64 0, .int .i64 0, .int .i64 0, .int .i64 0, .slice none 0 0, .slice none 0 0] 29))
  have hE0 := blk_alloc (blk_new (w.alloc (.cells #[.int .i64 a0, .int .i64 a1, .int .i64 a2, .int .i64 a3, .int .i64 a4, .slice A5 l5.length c5, .slice A6 l6.length c6] 29)) (.cells #[.int .i64 e0, .int .i64 e1] 40)) (.cells #[.int .i64 0, .int .i64 0, .int .i64 0, .int .i64 0, .int .i64 0, .slice none 0 0, .slice none 0 0] 29)
  rw [World.size_alloc] at hE0
  have E0 := Aside0.mk hE0
  have hO0 := blk_new ((w.alloc (.cells #[.int .i64 a0, .int .i64 a1, .int .i64 a2, .int .i64 a3, .int .i64 a4, .slice A5 l5.length c5, .slice A6 l6.length c6] 29)).alloc (.cells #[.int .i64 e0, .int .i64 e1] 40)) (.cells #[.int .i64 0, .int .i64 0, .int .i64 0, .int .i64 0, .int .i64 0, .slice none 0 0, .slice none 0 0] 29)
  rw [World.size_alloc, World.size_alloc] at hO0
  have O0 := Aside0.mk hO0
  clear hr5 hr6 hval V hO0 hE0 hs
  go_enter Try.func18, Try.ntmps18
  go_wp2_with (fail)
  generalize (((w.alloc (.cells #[.int .i64 a0, .int .i64 a1, .int .i64 a2, .int .i64 a3, .int .i64 a4, .slice A5 l5.length c5, .slice A6 l6.length c6] 29)).alloc (.cells #[.int .i64 e0, .int .i64 e1] 40)).alloc (.cells #[.int .i64 0, .int .i64 0, .int .i64 0, .int .i64 0, .int .i64 0, .slice none 0 0, .slice none 0 0] 29)) = W0 at B0 X0 E0 O0 ⊢
  refine (datalink_Valid.calls a0 a1 a2 a3 a4 A5 c5 l5 A6 c6 l6 true _ (Kd.C_below HR5.out B0.out) hc5 (Kd.C_below HR6.out B0.out) hc6 HVA.out).mono ?_
  rintro e w1 ⟨rfl, hb⟩
  have X1 := Aside0.mk (blk_below X0.out hb)
  have E1 := Aside0.mk (blk_below E0.out hb)
  have O1 := Aside0.mk (blk_below O0.out hb)
  have B1 := Aside0.mk (below_step B0.out hb)
  clear hb X0 E0 O0 B0
  have x0 : w1.cell? ⟨w.heap.size, 0, none⟩ = some (.int .i64 a0) := (blk_cell X1.out 0).trans rfl
  have x1 : w1.cell? ⟨w.heap.size, 1, none⟩ = some (.int .i64 a1) := (blk_cell X1.out 1).trans rfl
  have x2 : w1.cell? ⟨w.heap.size, 2, none⟩ = some (.int .i64 a2) := (blk_cell X1.out 2).trans rfl
  have x3 : w1.cell? ⟨w.heap.size, 3, none⟩ = some (.int .i64 a3) := (blk_cell X1.out 3).trans rfl
  have x4 : w1.cell? ⟨w.heap.size, 4, none⟩ = some (.int .i64 a4) := (blk_cell X1.out 4).trans rfl
  have x5 : w1.cell? ⟨w.heap.size, 5, none⟩ = some (.slice A5 l5.length c5) := (blk_cell X1.out 5).trans rfl
  have x6 : w1.cell? ⟨w.heap.size, 6, none⟩ = some (.slice A6 l6.length c6) := (blk_cell X1.out 6).trans rfl
  go_wp2_with (fail)
  refine (copied_calls a0 a1 a2 a3 a4 A5 c5 l5 A6 c6 l6 _ (Kd.C_below HR5.out B1.out) hc5 (Kd.C_below HR6.out B1.out) hc6 (by omega) (by omega)).mono ?_
  rintro e w2 ⟨v5, v6, rfl, h5, h6, hb⟩
  obtain ⟨Af, cf, rfl, _, _⟩ := Kd.R_reads h5
  obtain ⟨Aa, ca, rfl, _, _⟩ := Kd.R_reads h6
  have hs1 : w.heap.size ≤ w1.heap.size := B1.out.size
  have R5 := Aside0.mk (Kd.R_lower h5 hs1)
  have R6 := Aside0.mk (Kd.R_lower h6 hs1)
  have X2 := Aside0.mk (blk_below X1.out hb)
  have E2 := Aside0.mk (blk_below E1.out hb)
  have O2 := Aside0.mk (blk_below O1.out hb)
  have B2 := Aside0.mk (below_step B1.out hb)
  clear hb X1 E1 O1 B1 h5 h6 x0 x1 x2 x3 x4 x5 x6
  have x0 : w2.cell? ⟨w.heap.size, 0, none⟩ = some (.int .i64 a0) := (blk_cell X2.out 0).trans rfl
  have fx0 := blk_frozen X2.out 0
  have x1 : w2.cell? ⟨w.heap.size, 1, none⟩ = some (.int .i64 a1) := (blk_cell X2.out 1).trans rfl
  have fx1 := blk_frozen X2.out 1
  have x2 : w2.cell? ⟨w.heap.size, 2, none⟩ = some (.int .i64 a2) := (blk_cell X2.out 2).trans rfl
  have fx2 := blk_frozen X2.out 2
  have x3 : w2.cell? ⟨w.heap.size, 3, none⟩ = some (.int .i64 a3) := (blk_cell X2.out 3).trans rfl
  have fx3 := blk_frozen X2.out 3
  have x4 : w2.cell? ⟨w.heap.size, 4, none⟩ = some (.int .i64 a4) := (blk_cell X2.out 4).trans rfl
  have fx4 := blk_frozen X2.out 4
  have x5 : w2.cell? ⟨w.heap.size, 5, none⟩ = some (.slice A5 l5.length c5) := (blk_cell X2.out 5).trans rfl
  have fx5 := blk_frozen X2.out 5
  have x6 : w2.cell? ⟨w.heap.size, 6, none⟩ = some (.slice A6 l6.length c6) := (blk_cell X2.out 6).trans rfl
  have fx6 := blk_frozen X2.out 6
  have HL := Aside0.mk (link_put (a0 := a0) (a1 := a1) (a2 := a2) (a3 := a3) (a4 := a4) (cs := #[]) X2.out R5.out R6.out (Nat.le_refl _) B2.out.size)
  have E3 := Aside0.mk ((put7_far (W := w2) (g := w.heap.size) (k := w.heap.size + 1) (by omega) (.int .i64 a0) (.int .i64 a1) (.int .i64 a2) (.int .i64 a3) (.int .i64 a4) (.slice Af l5.length cf) (.slice Aa l6.length ca)).trans E2.out)
  have O3 := Aside0.mk ((put7_far (W := w2) (g := w.heap.size) (k := w.heap.size + 1 + 1) (by omega) (.int .i64 a0) (.int .i64 a1) (.int .i64 a2) (.int .i64 a3) (.int .i64 a4) (.slice Af l5.length cf) (.slice Aa l6.length ca)).trans O2.out)
  have B3 := Aside0.mk (put7_below B2.out (Nat.le_refl w.heap.size) (.int .i64 a0) (.int .i64 a1) (.int .i64 a2) (.int .i64 a3) (.int .i64 a4) (.slice Af l5.length cf) (.slice Aa l6.length ca))
  have ev0 : w2.cell? ⟨w.heap.size + 1, 0, none⟩ = some (.int .i64 e0) := (blk_cell E2.out 0).trans rfl
  have ev1 : w2.cell? ⟨w.heap.size + 1, 1, none⟩ = some (.int .i64 e1) := (blk_cell E2.out 1).trans rfl
  go_wp2_with (fail)
  unfold put7 at HL E3 O3 B3
  generalize (((((((w2.setCell ⟨w.heap.size, 0, none⟩ (.int .i64 a0)).setCell ⟨w.heap.size, 1, none⟩ (.int .i64 a1)).setCell ⟨w.heap.size, 2, none⟩ (.int .i64 a2)).setCell ⟨w.heap.size, 3, none⟩ (.int .i64 a3)).setCell ⟨w.heap.size, 4, none⟩ (.int .i64 a4)).setCell ⟨w.heap.size, 5, none⟩ (.slice Af l5.length cf)).setCell ⟨w.heap.size, 6, none⟩ (.slice Aa l6.length ca)) = W3 at HL E3 O3 B3 ⊢
  refine (perform_calls HVV.out e0 e1 HL.out).mono ?_
  rintro e w4 ⟨rfl, hleft⟩
  rw [← HSS.out] at hleft ⊢
  obtain ⟨Af', cf', Aa', ca', hl4, hb4, hk4, _⟩ := hleft
  have nT : ¬ Turned w.heap.size Af Aa (w.heap.size + 1 + 1) := by
    rintro (h | h | h)
    · omega
    · rw [own_len Af 0 0 l5.length cf] at h; exact Kd.R_ne HL.out.fr O3.out (by decide) h
    · rw [own_len Aa 0 0 l6.length ca] at h; exact Kd.R_ne HL.out.ak O3.out (by decide) h
  have O4 := Aside0.mk (blk_kept O3.out hk4 nT)
  have HL4 := Aside0.mk hl4
  have B4 := Aside0.mk (B3.out.trans hb4)
  clear hl4 hb4 hk4 nT HL E3 O3 B3 X2 E2 O2 B2 R5 R6 x0 x1 x2 x3 x4 x5 x6 fx0 fx1 fx2 fx3 fx4 fx5 fx6 ev0 ev1
  have x0 : w4.cell? ⟨w.heap.size, 0, none⟩ = some (.int .i64 s.1.cap) := (blk_cell HL4.out.blk 0).trans rfl
  have x1 : w4.cell? ⟨w.heap.size, 1, none⟩ = some (.int .i64 s.1.mod) := (blk_cell HL4.out.blk 1).trans rfl
  have x2 : w4.cell? ⟨w.heap.size, 2, none⟩ = some (.int .i64 s.1.lab) := (blk_cell HL4.out.blk 2).trans rfl
  have x3 : w4.cell? ⟨w.heap.size, 3, none⟩ = some (.int .i64 s.1.item) := (blk_cell HL4.out.blk 3).trans rfl
  have x4 : w4.cell? ⟨w.heap.size, 4, none⟩ = some (.int .i64 s.1.last) := (blk_cell HL4.out.blk 4).trans rfl
  have x5 : w4.cell? ⟨w.heap.size, 5, none⟩ = some (.slice Af' s.1.fr.length cf') := (blk_cell HL4.out.blk 5).trans rfl
  have x6 : w4.cell? ⟨w.heap.size, 6, none⟩ = some (.slice Aa' s.1.ak.length ca') := (blk_cell HL4.out.blk 6).trans rfl
  have y0 : w4.cell? ⟨w.heap.size + 1 + 1, 0, none⟩ = some (.int .i64 0) := (blk_cell O4.out 0).trans rfl
  have fy0 := blk_frozen O4.out 0
  have y1 : w4.cell? ⟨w.heap.size + 1 + 1, 1, none⟩ = some (.int .i64 0) := (blk_cell O4.out 1).trans rfl
  have fy1 := blk_frozen O4.out 1
  have y2 : w4.cell? ⟨w.heap.size + 1 + 1, 2, none⟩ = some (.int .i64 0) := (blk_cell O4.out 2).trans rfl
  have fy2 := blk_frozen O4.out 2
  have y3 : w4.cell? ⟨w.heap.size + 1 + 1, 3, none⟩ = some (.int .i64 0) := (blk_cell O4.out 3).trans rfl
  have fy3 := blk_frozen O4.out 3
  have y4 : w4.cell? ⟨w.heap.size + 1 + 1, 4, none⟩ = some (.int .i64 0) := (blk_cell O4.out 4).trans rfl
  have fy4 := blk_frozen O4.out 4
  have y5 : w4.cell? ⟨w.heap.size + 1 + 1, 5, none⟩ = some (.slice none 0 0) := (blk_cell O4.out 5).trans rfl
  have fy5 := blk_frozen O4.out 5
  have y6 : w4.cell? ⟨w.heap.size + 1 + 1, 6, none⟩ = some (.slice none 0 0) := (blk_cell O4.out 6).trans rfl
  have fy6 := blk_frozen O4.out 6
  go_wp2_with (fail)
  refine bodyPost_ret (results_ctt rfl _ (put7 w4 (w.heap.size + 1 + 1) (.int .i64 s.1.cap) (.int .i64 s.1.mod) (.int .i64 s.1.lab) (.int .i64 s.1.item) (.int .i64 s.1.last) (.slice Af' s.1.fr.length cf') (.slice Aa' s.1.ak.length ca')) (w.heap.size + 1 + 1) 29 #[.int .i64 s.1.cap, .int .i64 s.1.mod, .int .i64 s.1.lab, .int .i64 s.1.item, .int .i64 s.1.last, .slice Af' s.1.fr.length cf', .slice Aa' s.1.ak.length ca'] (0, 0) _ rfl (put7_blk O4.out _ _ _ _ _ _ _) Try.underlying29 rfl (by kernel_rfl)) rfl ?_
  exact ⟨_, _, rfl, Kd.R_mono (put7_R HL4.out.fr O4.out (by decide) _ _ _ _ _ _ _) (fun _ _ => trivial), Kd.R_mono (put7_R HL4.out.ak O4.out (by decide) _ _ _ _ _ _ _) (fun _ _ => trivial), put7_below B4.out (by omega) _ _ _ _ _ _ _⟩
theorem datalink_Step.calls (a0 a1 a2 a3 a4 : Int) (A5 : Option Addr) (c5 : Nat) (l5 : List S46) (A6 : Option Addr) (c6 : Nat) (l6 : List Int) (e0 e1 r1 r2 r3 r4 r5 : Int) (r6 : List S46) (r7 : List Int) (r8 : Int) (r9 : Bool) (w : World) (hr5 : Kd.C k46 w A5 l5.length l5) (hc5 : l5.length ≤ c5) (hr6 : Kd.C (Kd.int .i64) w A6 l6.length l6) (hc6 : l6.length ≤ c6) (h : datalink_Step.f a0 a1 a2 a3 a4 l5 l6 e0 e1 = some (r1, r2, r3, r4, r5, r6, r7, r8, r9)) :
    Calls Try.prog 18 #[.agg #[.int .i64 a0, .int .i64 a1, .int .i64 a2, .int .i64 a3, .int .i64 a4, .slice A5 l5.length c5, .slice A6 l6.length c6], .agg #[.int .i64 e0, .int .i64 e1]] w fun e w' => ∃ v5 v6 : Value, e = .returned (.tuple #[.agg #[.int .i64 r1, .int .i64 r2, .int .i64 r3, .int .i64 r4, .int .i64 r5, v5, v6], .int .i64 r8, .bool r9]) ∧
      Kd.R k46 46 w' w.heap.size (fun _ => True) v5 r6 ∧ Kd.R (Kd.int .i64) 3 w' w.heap.size (fun _ => True) v6 r7 ∧ Below w.heap.size w w' := by
  unfold datalink_Step.f at h
  by_cases V : ValidD ⟨a0, a1, a2, a3, a4, l5, l6⟩
  · rw [if_pos V] at h
    have h := Option.some.inj h
    simp only [Prod.mk.injEq] at h
    obtain ⟨rfl, rfl, rfl, rfl, rfl, rfl, rfl, rfl, rfl⟩ := h
    exact step_good a0 a1 a2 a3 a4 A5 c5 l5 A6 c6 l6 e0 e1 w hr5 hc5 hr6 hc6 V
  · rw [if_neg V] at h
    have h := Option.some.inj h
    simp only [Prod.mk.injEq] at h
    obtain ⟨rfl, rfl, rfl, rfl, rfl, rfl, rfl, rfl, rfl⟩ := h
    refine (step_bad a0 a1 a2 a3 a4 A5 c5 l5 A6 c6 l6 e0 e1 w hr5 hc5 hr6 hc6 V).mono ?_
    rintro e w' ⟨rfl, hb⟩
    exact ⟨_, _, rfl, Kd.R_nil _ _ _ _ _, Kd.R_nil _ _ _ _ _, hb⟩
end Go.Proofs.Ytdhkplfkbdldfaa.P
