/- datalink.Run. -/
import Derived.Test.YtdhkplfkbdldfaaGDStep
import Derived.Deep.LoopGhost
namespace Go.Proofs.Ytdhkplfkbdldfaa.P
open Go.RowKit Go.Proofs.YtdhkplfkbdldfaaW.PrintWords Go.Shelf
set_option linter.unusedVariables false
set_option linter.unusedSimpArgs false
def stepR (p : DL × List Int) (e : S40) : DL × List Int := ((stepD p.1 e.f0 e.f1).1, if (stepD p.1 e.f0 e.f1).2.2 then p.2 ++ [(stepD p.1 e.f0 e.f1).2.1] else p.2)
/-- All events, one behind the other: the link, and what was delivered. -/
def runD (x : DL) (l : List S40) : DL × List Int := l.foldl stepR (x, [])
theorem runD_take (x : DL) (l : List S40) (k : Nat) (h : k < l.length) : runD x (l.take (k + 1)) = stepR (runD x (l.take k)) l[k] := by
  unfold runD
  rw [List.take_succ_eq_append_getElem h, List.foldl_append]
  rfl
theorem runD_inv (x : DL) (hv : ValidD x) (l : List S40) : ∀ k, k ≤ l.length → ValidD (runD x (l.take k)).1 ∧ (runD x (l.take k)).2.length ≤ k := by
  intro k
  induction k with
  | zero => intro _; exact ⟨by simpa [runD] using hv, by simp [runD]⟩
  | succ k ih =>
    intro hk
    obtain ⟨h1, h2⟩ := ih (by omega)
    rw [runD_take x l k (by omega)]
    refine ⟨stepD_valid h1 _ _, ?_⟩
    unfold stepR
    dsimp only
    split
    · simp; omega
    · omega
theorem LinkAt.grown {base g : Nat} {W w5 : World} {x : DL} {Af Aa : Option Addr} {cf ca : Nat} {row : Option Nat} (h : LinkAt base g W x Af cf Aa ca) (hg : W.grownBy w5 row) (hne : ∀ k, row = some k → ¬ Turned g Af Aa k) : LinkAt base g w5 x Af cf Aa ca :=
  ⟨blk_grown h.blk hg (fun he => hne g he.symm (turned_g g Af Aa)), Kd.R_grown2 h.fr rfl hg (fun k hk he => hne k hk (turned_fr g Af Aa _ _ k he.symm)), Kd.R_grown2 h.ak rfl hg (fun k hk he => hne k hk (turned_ak g Af Aa _ _ k he.symm)), h.lo, Nat.le_trans h.sz hg.size⟩
def datalink_Run.f (a0 a1 a2 a3 a4 : Int) (l5 : List S46) (l6 : List Int) (l1 : List S40) : Option (Int × Int × Int × Int × Int × List S46 × List Int × List Int) :=
  if ValidD ⟨a0, a1, a2, a3, a4, l5, l6⟩ ∧ l1.length ≤ 65536 then some ((runD ⟨a0, a1, a2, a3, a4, l5, l6⟩ l1).1.cap, (runD ⟨a0, a1, a2, a3, a4, l5, l6⟩ l1).1.mod, (runD ⟨a0, a1, a2, a3, a4, l5, l6⟩ l1).1.lab, (runD ⟨a0, a1, a2, a3, a4, l5, l6⟩ l1).1.item, (runD ⟨a0, a1, a2, a3, a4, l5, l6⟩ l1).1.last, (runD ⟨a0, a1, a2, a3, a4, l5, l6⟩ l1).1.fr, (runD ⟨a0, a1, a2, a3, a4, l5, l6⟩ l1).1.ak, (runD ⟨a0, a1, a2, a3, a4, l5, l6⟩ l1).2)
  else some (0, 0, 0, 0, 0, [], [], [])
set_option maxHeartbeats 8000000 in
set_option maxRecDepth 1000000 in
theorem run_bad1 (a0 a1 a2 a3 a4 : Int) (A5 : Option Addr) (c5 : Nat) (l5 : List S46) (A6 : Option Addr) (c6 : Nat) (l6 : List Int) (A1 : Option Addr) (c1 : Nat) (l1 : List S40) (w : World) (hr5 : Kd.C k46 w A5 l5.length l5) (hc5 : l5.length ≤ c5) (hr6 : Kd.C (Kd.int .i64) w A6 l6.length l6) (hc6 : l6.length ≤ c6) (hr1 : Kd.C k40 w A1 l1.length l1) (hc1 : l1.length ≤ c1) (hV : ¬ ValidD ⟨a0, a1, a2, a3, a4, l5, l6⟩) :
    Calls Try.prog 11 #[.agg #[.int .i64 a0, .int .i64 a1, .int .i64 a2, .int .i64 a3, .int .i64 a4, .slice A5 l5.length c5, .slice A6 l6.length c6], .slice A1 l1.length c1] w fun e w' => e = .returned (.tuple #[.agg #[.int .i64 0, .int .i64 0, .int .i64 0, .int .i64 0, .int .i64 0, .slice none 0 0, .slice none 0 0], .slice none 0 0]) ∧ Below w.heap.size w w' := by
  have HVA := Aside0.mk (show datalink_Valid.f a0 a1 a2 a3 a4 l5 l6 = some false by unfold datalink_Valid.f; rw [decide_eq_false hV])
  have hu := Try.underlying29
  have HR5 := Aside0.mk hr5
  have HR6 := Aside0.mk hr6
  have HR1 := Aside0.mk hr1
  have B0 := Aside0.mk (show Below w.heap.size w ((w.alloc (.cells #[.int .i64 a0, .int .i64 a1, .int .i64 a2, .int .i64 a3, .int .i64 a4, .slice A5 l5.length c5, .slice A6 l6.length c6] 29)).alloc (.cells #[.int .i64 0, .int .i64 0, .int .i64 0, .int .i64 0, .int .i64 0, .slice none 0 0, .slice none 0 0] 29)) from below_alloc (below_alloc (Below.refl _ _) _) _)
  have X0 := Aside0.mk (blk_alloc (blk_new w (.cells #[.int .i64 a0, .int .i64 a1, .int .i64 a2, .int .i64 a3, .int .i64 a4, .slice A5 l5.length c5, .slice A6 l6.length c6] 29)) (.cells #[.int .i64 0, .int .i64 0, .int .i64 0, .int .i64 0, .int .i64 0, .slice none 0 0, .slice none 0 0] 29))
  have hO0 := blk_new (w.alloc (.cells #[.int .i64 a0, .int .i64 a1, .int .i64 a2, .int .i64 a3, .int .i64 a4, .slice A5 l5.length c5, .slice A6 l6.length c6] 29)) (.cells #[.int .i64 0, .int .i64 0, .int .i64 0, .int .i64 0, .int .i64 0, .slice none 0 0, .slice none 0 0] 29)
  rw [World.size_alloc] at hO0
  have O0 := Aside0.mk hO0
  clear hr5 hr6 hr1 hO0
  clear hV
  go_enter Try.func11, Try.ntmps11
  go_wp2_with (fail)
  generalize ((w.alloc (.cells #[.int .i64 a0, .int .i64 a1, .int .i64 a2, .int .i64 a3, .int .i64 a4, .slice A5 l5.length c5, .slice A6 l6.length c6] 29)).alloc (.cells #[.int .i64 0, .int .i64 0, .int .i64 0, .int .i64 0, .int .i64 0, .slice none 0 0, .slice none 0 0] 29)) = W0 at B0 X0 O0 ⊢
  refine (datalink_Valid.calls a0 a1 a2 a3 a4 A5 c5 l5 A6 c6 l6 false _ (Kd.C_below HR5.out B0.out) hc5 (Kd.C_below HR6.out B0.out) hc6 HVA.out).mono ?_
  rintro e w1 ⟨rfl, hb⟩
  have X1 := Aside0.mk (blk_below X0.out hb)
  have O1 := Aside0.mk (blk_below O0.out hb)
  have B1 := Aside0.mk (below_step B0.out hb)
  clear hb X0 O0 B0
  have y0 : w1.cell? ⟨w.heap.size + 1, 0, none⟩ = some (.int .i64 0) := (blk_cell O1.out 0).trans rfl
  have fy0 := blk_frozen O1.out 0
  have y1 : w1.cell? ⟨w.heap.size + 1, 1, none⟩ = some (.int .i64 0) := (blk_cell O1.out 1).trans rfl
  have fy1 := blk_frozen O1.out 1
  have y2 : w1.cell? ⟨w.heap.size + 1, 2, none⟩ = some (.int .i64 0) := (blk_cell O1.out 2).trans rfl
  have fy2 := blk_frozen O1.out 2
  have y3 : w1.cell? ⟨w.heap.size + 1, 3, none⟩ = some (.int .i64 0) := (blk_cell O1.out 3).trans rfl
  have fy3 := blk_frozen O1.out 3
  have y4 : w1.cell? ⟨w.heap.size + 1, 4, none⟩ = some (.int .i64 0) := (blk_cell O1.out 4).trans rfl
  have fy4 := blk_frozen O1.out 4
  have y5 : w1.cell? ⟨w.heap.size + 1, 5, none⟩ = some (.slice none 0 0) := (blk_cell O1.out 5).trans rfl
  have fy5 := blk_frozen O1.out 5
  have y6 : w1.cell? ⟨w.heap.size + 1, 6, none⟩ = some (.slice none 0 0) := (blk_cell O1.out 6).trans rfl
  have fy6 := blk_frozen O1.out 6
  go_wp2_with (fail)
  refine bodyPost_ret (results_ct rfl _ (put7 w1 (w.heap.size + 1) (.int .i64 0) (.int .i64 0) (.int .i64 0) (.int .i64 0) (.int .i64 0) (.slice none 0 0) (.slice none 0 0)) (w.heap.size + 1) 29 #[.int .i64 0, .int .i64 0, .int .i64 0, .int .i64 0, .int .i64 0, .slice none 0 0, .slice none 0 0] (0, 0) _ rfl (put7_blk O1.out _ _ _ _ _ _ _) Try.underlying29 rfl (by kernel_rfl)) rfl ?_
  exact ⟨rfl, put7_below B1.out (by omega) _ _ _ _ _ _ _⟩
set_option maxHeartbeats 8000000 in
set_option maxRecDepth 1000000 in
theorem run_bad2 (a0 a1 a2 a3 a4 : Int) (A5 : Option Addr) (c5 : Nat) (l5 : List S46) (A6 : Option Addr) (c6 : Nat) (l6 : List Int) (A1 : Option Addr) (c1 : Nat) (l1 : List S40) (w : World) (hr5 : Kd.C k46 w A5 l5.length l5) (hc5 : l5.length ≤ c5) (hr6 : Kd.C (Kd.int .i64) w A6 l6.length l6) (hc6 : l6.length ≤ c6) (hr1 : Kd.C k40 w A1 l1.length l1) (hc1 : l1.length ≤ c1) (hV : ValidD ⟨a0, a1, a2, a3, a4, l5, l6⟩) (hL : ¬ l1.length ≤ 65536) :
    Calls Try.prog 11 #[.agg #[.int .i64 a0, .int .i64 a1, .int .i64 a2, .int .i64 a3, .int .i64 a4, .slice A5 l5.length c5, .slice A6 l6.length c6], .slice A1 l1.length c1] w fun e w' => e = .returned (.tuple #[.agg #[.int .i64 0, .int .i64 0, .int .i64 0, .int .i64 0, .int .i64 0, .slice none 0 0, .slice none 0 0], .slice none 0 0]) ∧ Below w.heap.size w w' := by
  have HVA := Aside0.mk (show datalink_Valid.f a0 a1 a2 a3 a4 l5 l6 = some true by unfold datalink_Valid.f; rw [decide_eq_true hV])
  have dL : decide (65536 < (l1.length : Int)) = true := decide_eq_true (by omega)
  have hu := Try.underlying29
  have HR5 := Aside0.mk hr5
  have HR6 := Aside0.mk hr6
  have HR1 := Aside0.mk hr1
  have B0 := Aside0.mk (show Below w.heap.size w ((w.alloc (.cells #[.int .i64 a0, .int .i64 a1, .int .i64 a2, .int .i64 a3, .int .i64 a4, .slice A5 l5.length c5, .slice A6 l6.length c6] 29)).alloc (.cells #[.int .i64 0, .int .i64 0, .int .i64 0, .int .i64 0, .int .i64 0, .slice none 0 0, .slice none 0 0] 29)) from below_alloc (below_alloc (Below.refl _ _) _) _)
  have X0 := Aside0.mk (blk_alloc (blk_new w (.cells #[.int .i64 a0, .int .i64 a1, .int .i64 a2, .int .i64 a3, .int .i64 a4, .slice A5 l5.length c5, .slice A6 l6.length c6] 29)) (.cells #[.int .i64 0, .int .i64 0, .int .i64 0, .int .i64 0, .int .i64 0, .slice none 0 0, .slice none 0 0] 29))
  have hO0 := blk_new (w.alloc (.cells #[.int .i64 a0, .int .i64 a1, .int .i64 a2, .int .i64 a3, .int .i64 a4, .slice A5 l5.length c5, .slice A6 l6.length c6] 29)) (.cells #[.int .i64 0, .int .i64 0, .int .i64 0, .int .i64 0, .int .i64 0, .slice none 0 0, .slice none 0 0] 29)
  rw [World.size_alloc] at hO0
  have O0 := Aside0.mk hO0
  clear hr5 hr6 hr1 hO0
  clear hV
  go_enter Try.func11, Try.ntmps11
  go_wp2_with (fail)
  generalize ((w.alloc (.cells #[.int .i64 a0, .int .i64 a1, .int .i64 a2, .int .i64 a3, .int .i64 a4, .slice A5 l5.length c5, .slice A6 l6.length c6] 29)).alloc (.cells #[.int .i64 0, .int .i64 0, .int .i64 0, .int .i64 0, .int .i64 0, .slice none 0 0, .slice none 0 0] 29)) = W0 at B0 X0 O0 ⊢
  refine (datalink_Valid.calls a0 a1 a2 a3 a4 A5 c5 l5 A6 c6 l6 true _ (Kd.C_below HR5.out B0.out) hc5 (Kd.C_below HR6.out B0.out) hc6 HVA.out).mono ?_
  rintro e w1 ⟨rfl, hb⟩
  have X1 := Aside0.mk (blk_below X0.out hb)
  have O1 := Aside0.mk (blk_below O0.out hb)
  have B1 := Aside0.mk (below_step B0.out hb)
  clear hb X0 O0 B0
  have y0 : w1.cell? ⟨w.heap.size + 1, 0, none⟩ = some (.int .i64 0) := (blk_cell O1.out 0).trans rfl
  have fy0 := blk_frozen O1.out 0
  have y1 : w1.cell? ⟨w.heap.size + 1, 1, none⟩ = some (.int .i64 0) := (blk_cell O1.out 1).trans rfl
  have fy1 := blk_frozen O1.out 1
  have y2 : w1.cell? ⟨w.heap.size + 1, 2, none⟩ = some (.int .i64 0) := (blk_cell O1.out 2).trans rfl
  have fy2 := blk_frozen O1.out 2
  have y3 : w1.cell? ⟨w.heap.size + 1, 3, none⟩ = some (.int .i64 0) := (blk_cell O1.out 3).trans rfl
  have fy3 := blk_frozen O1.out 3
  have y4 : w1.cell? ⟨w.heap.size + 1, 4, none⟩ = some (.int .i64 0) := (blk_cell O1.out 4).trans rfl
  have fy4 := blk_frozen O1.out 4
  have y5 : w1.cell? ⟨w.heap.size + 1, 5, none⟩ = some (.slice none 0 0) := (blk_cell O1.out 5).trans rfl
  have fy5 := blk_frozen O1.out 5
  have y6 : w1.cell? ⟨w.heap.size + 1, 6, none⟩ = some (.slice none 0 0) := (blk_cell O1.out 6).trans rfl
  have fy6 := blk_frozen O1.out 6
  go_wp2_with (fail)
  refine bodyPost_ret (results_ct rfl _ (put7 w1 (w.heap.size + 1) (.int .i64 0) (.int .i64 0) (.int .i64 0) (.int .i64 0) (.int .i64 0) (.slice none 0 0) (.slice none 0 0)) (w.heap.size + 1) 29 #[.int .i64 0, .int .i64 0, .int .i64 0, .int .i64 0, .int .i64 0, .slice none 0 0, .slice none 0 0] (0, 0) _ rfl (put7_blk O1.out _ _ _ _ _ _ _) Try.underlying29 rfl (by kernel_rfl)) rfl ?_
  exact ⟨rfl, put7_below B1.out (by omega) _ _ _ _ _ _ _⟩
set_option maxHeartbeats 8000000 in
set_option maxRecDepth 1000000 in
theorem run_good (a0 a1 a2 a3 a4 : Int) (A5 : Option Addr) (c5 : Nat) (l5 : List S46) (A6 : Option Addr) (c6 : Nat) (l6 : List Int) (A1 : Option Addr) (c1 : Nat) (l1 : List S40) (w : World) (hr5 : Kd.C k46 w A5 l5.length l5) (hc5 : l5.length ≤ c5) (hr6 : Kd.C (Kd.int .i64) w A6 l6.length l6) (hc6 : l6.length ≤ c6) (hr1 : Kd.C k40 w A1 l1.length l1) (hc1 : l1.length ≤ c1) (V : ValidD ⟨a0, a1, a2, a3, a4, l5, l6⟩) (hL : l1.length ≤ 65536) :
    Calls Try.prog 11 #[.agg #[.int .i64 a0, .int .i64 a1, .int .i64 a2, .int .i64 a3, .int .i64 a4, .slice A5 l5.length c5, .slice A6 l6.length c6], .slice A1 l1.length c1] w fun e w' => ∃ v5 v6 v7 : Value, e = .returned (.tuple #[.agg #[.int .i64 (runD ⟨a0, a1, a2, a3, a4, l5, l6⟩ l1).1.cap, .int .i64 (runD ⟨a0, a1, a2, a3, a4, l5, l6⟩ l1).1.mod, .int .i64 (runD ⟨a0, a1, a2, a3, a4, l5, l6⟩ l1).1.lab, .int .i64 (runD ⟨a0, a1, a2, a3, a4, l5, l6⟩ l1).1.item, .int .i64 (runD ⟨a0, a1, a2, a3, a4, l5, l6⟩ l1).1.last, v5, v6], v7]) ∧
      Kd.R k46 46 w' w.heap.size (fun _ => True) v5 (runD ⟨a0, a1, a2, a3, a4, l5, l6⟩ l1).1.fr ∧ Kd.R (Kd.int .i64) 3 w' w.heap.size (fun k => some k ≠ v7.ownBlock) v6 (runD ⟨a0, a1, a2, a3, a4, l5, l6⟩ l1).1.ak ∧ Kd.R (Kd.int .i64) 3 w' w.heap.size (fun k => some k ≠ v6.ownBlock) v7 (runD ⟨a0, a1, a2, a3, a4, l5, l6⟩ l1).2 ∧ Below w.heap.size w w' := by
  have HVA := Aside0.mk (show datalink_Valid.f a0 a1 a2 a3 a4 l5 l6 = some true by unfold datalink_Valid.f; rw [decide_eq_true V])
  have dL : decide (65536 < (l1.length : Int)) = false := decide_eq_false (by omega)
  have n5 : l5.length ≤ 8 := by obtain ⟨v1, v2, _, _, _, _, _, _, _, _, v11, _⟩ := V; dsimp only at v2 v11; omega
  have n6 : l6.length ≤ 8 := by obtain ⟨v1, v2, _, _, _, _, _, _, _, _, _, v12, _⟩ := V; dsimp only at v2 v12; omega
  have HI := Aside0.mk (runD_inv ⟨a0, a1, a2, a3, a4, l5, l6⟩ V l1)
  have hu := Try.underlying29
  have HR5 := Aside0.mk hr5
  have HR6 := Aside0.mk hr6
  have HR1 := Aside0.mk hr1
  have B0 := Aside0.mk (show Below w.heap.size w ((w.alloc (.cells #[.int .i64 a0, .int .i64 a1, .int .i64 a2, .int .i64 a3, .int .i64 a4, .slice A5 l5.length c5, .slice A6 l6.length c6] 29)).alloc (.cells #[.int .i64 0, .int .i64 0, .int .i64 0, .int .i64 0, .int .i64 0, .slice none 0 0, .slice none 0 0] 29)) from below_alloc (below_alloc (Below.refl _ _) _) _)
  have X0 := Aside0.mk (blk_alloc (blk_new w (.cells #[.int .i64 a0, .int .i64 a1, .int .i64 a2, .int .i64 a3, .int .i64 a4, .slice A5 l5.length c5, .slice A6 l6.length c6] 29)) (.cells #[.int .i64 0, .int .i64 0, .int .i64 0, .int .i64 0, .int .i64 0, .slice none 0 0, .slice none 0 0] 29))
  have hO0 := blk_new (w.alloc (.cells #[.int .i64 a0, .int .i64 a1, .int .i64 a2, .int .i64 a3, .int .i64 a4, .slice A5 l5.length c5, .slice A6 l6.length c6] 29)) (.cells #[.int .i64 0, .int .i64 0, .int .i64 0, .int .i64 0, .int .i64 0, .slice none 0 0, .slice none 0 0] 29)
  rw [World.size_alloc] at hO0
  have O0 := Aside0.mk hO0
  clear hr5 hr6 hr1 hO0
  clear V
  go_enter Try.func11, Try.ntmps11
  go_wp2_with (fail)
  generalize ((w.alloc (.cells #[.int .i64 a0, .int .i64 a1, .int .i64 a2, .int .i64 a3, .int .i64 a4, .slice A5 l5.length c5, .slice A6 l6.length c6] 29)).alloc (.cells #[.int .i64 0, .int .i64 0, .int .i64 0, .int .i64 0, .int .i64 0, .slice none 0 0, .slice none 0 0] 29)) = W0 at B0 X0 O0 ⊢
  refine (datalink_Valid.calls a0 a1 a2 a3 a4 A5 c5 l5 A6 c6 l6 true _ (Kd.C_below HR5.out B0.out) hc5 (Kd.C_below HR6.out B0.out) hc6 HVA.out).mono ?_
  rintro e w1 ⟨rfl, hb⟩
  have X1 := Aside0.mk (blk_below X0.out hb)
  have O1 := Aside0.mk (blk_below O0.out hb)
  have B1 := Aside0.mk (below_step B0.out hb)
  clear hb X0 O0 B0
  have x0 : w1.cell? ⟨w.heap.size, 0, none⟩ = some (.int .i64 a0) := (blk_cell X1.out 0).trans rfl
  have x1 : w1.cell? ⟨w.heap.size, 1, none⟩ = some (.int .i64 a1) := (blk_cell X1.out 1).trans rfl
  have x2 : w1.cell? ⟨w.heap.size, 2, none⟩ = some (.int .i64 a2) := (blk_cell X1.out 2).trans rfl
  have x3 : w1.cell? ⟨w.heap.size, 3, none⟩ = some (.int .i64 a3) := (blk_cell X1.out 3).trans rfl
  have x4 : w1.cell? ⟨w.heap.size, 4, none⟩ = some (.int .i64 a4) := (blk_cell X1.out 4).trans rfl
  have x5 : w1.cell? ⟨w.heap.size, 5, none⟩ = some (.slice A5 l5.length c5) := (blk_cell X1.out 5).trans rfl
  have x6 : w1.cell? ⟨w.heap.size, 6, none⟩ = some (.slice A6 l6.length c6) := (blk_cell X1.out 6).trans rfl
  go_wp2_with (fail)
  refine (copied_calls a0 a1 a2 a3 a4 A5 c5 l5 A6 c6 l6 _ (Kd.C_below HR5.out B1.out) hc5 (Kd.C_below HR6.out B1.out) hc6 (by omega) (by omega)).mono ?_
  rintro e w2 ⟨v5, v6, rfl, h5, h6, hb⟩
  obtain ⟨Af, cf, rfl, _, _⟩ := Kd.R_reads h5
  obtain ⟨Aa, ca, rfl, _, _⟩ := Kd.R_reads h6
  have hs1 : w.heap.size ≤ w1.heap.size := B1.out.size
  have R5 := Aside0.mk (Kd.R_lower h5 hs1)
  have R6 := Aside0.mk (Kd.R_lower h6 hs1)
  have X2 := Aside0.mk (blk_below X1.out hb)
  have O2 := Aside0.mk (blk_below O1.out hb)
  have B2 := Aside0.mk (below_step B1.out hb)
  clear hb X1 O1 B1 h5 h6 x0 x1 x2 x3 x4 x5 x6
  have x0 : w2.cell? ⟨w.heap.size, 0, none⟩ = some (.int .i64 a0) := (blk_cell X2.out 0).trans rfl
  have fx0 := blk_frozen X2.out 0
  have x1 : w2.cell? ⟨w.heap.size, 1, none⟩ = some (.int .i64 a1) := (blk_cell X2.out 1).trans rfl
  have fx1 := blk_frozen X2.out 1
  have x2 : w2.cell? ⟨w.heap.size, 2, none⟩ = some (.int .i64 a2) := (blk_cell X2.out 2).trans rfl
  have fx2 := blk_frozen X2.out 2
  have x3 : w2.cell? ⟨w.heap.size, 3, none⟩ = some (.int .i64 a3) := (blk_cell X2.out 3).trans rfl
  have fx3 := blk_frozen X2.out 3
  have x4 : w2.cell? ⟨w.heap.size, 4, none⟩ = some (.int .i64 a4) := (blk_cell X2.out 4).trans rfl
  have fx4 := blk_frozen X2.out 4
  have x5 : w2.cell? ⟨w.heap.size, 5, none⟩ = some (.slice A5 l5.length c5) := (blk_cell X2.out 5).trans rfl
  have fx5 := blk_frozen X2.out 5
  have x6 : w2.cell? ⟨w.heap.size, 6, none⟩ = some (.slice A6 l6.length c6) := (blk_cell X2.out 6).trans rfl
  have fx6 := blk_frozen X2.out 6
  have HL := Aside0.mk (link_put (a0 := a0) (a1 := a1) (a2 := a2) (a3 := a3) (a4 := a4) (cs := #[]) X2.out R5.out R6.out (Nat.le_refl _) B2.out.size)
  have O3 := Aside0.mk ((put7_far (W := w2) (g := w.heap.size) (k := w.heap.size + 1) (by omega) (.int .i64 a0) (.int .i64 a1) (.int .i64 a2) (.int .i64 a3) (.int .i64 a4) (.slice Af l5.length cf) (.slice Aa l6.length ca)).trans O2.out)
  have B3 := Aside0.mk (put7_below B2.out (Nat.le_refl w.heap.size) (.int .i64 a0) (.int .i64 a1) (.int .i64 a2) (.int .i64 a3) (.int .i64 a4) (.slice Af l5.length cf) (.slice Aa l6.length ca))
  go_wp2_with (fail)
  unfold put7 at HL O3 B3
  generalize (((((((w2.setCell ⟨w.heap.size, 0, none⟩ (.int .i64 a0)).setCell ⟨w.heap.size, 1, none⟩ (.int .i64 a1)).setCell ⟨w.heap.size, 2, none⟩ (.int .i64 a2)).setCell ⟨w.heap.size, 3, none⟩ (.int .i64 a3)).setCell ⟨w.heap.size, 4, none⟩ (.int .i64 a4)).setCell ⟨w.heap.size, 5, none⟩ (.slice Af l5.length cf)).setCell ⟨w.heap.size, 6, none⟩ (.slice Aa l6.length ca)) = W3 at HL O3 B3 ⊢
  clear X2 O2 B2 R5 R6 x0 x1 x2 x3 x4 x5 x6 fx0 fx1 fx2 fx3 fx4 fx5 fx6
  obtain ⟨x, hx⟩ : ∃ x : DL, x = ⟨a0, a1, a2, a3, a4, l5, l6⟩ := ⟨_, rfl⟩
  rw [← hx] at HI HL
  have HX := Aside0.mk hx
  clear hx
  go_loopg [6, 24] l1.length (fun gg s6 s24 wr => ∃ (kk : Nat) (Af : Option Addr) (cf : Nat) (Aa : Option Addr) (ca : Nat), kk ≤ l1.length ∧ l1.length - kk ≤ gg ∧ s24 = .int .i64 kk ∧ Aside0 (LinkAt w.heap.size w.heap.size wr (runD x (l1.take kk)).1 Af cf Aa ca) ∧ Aside0 (Kd.R (Kd.int .i64) 3 wr w.heap.size (fun _ => True) s6 (runD x (l1.take kk)).2) ∧ Aside0 (∀ k, s6.ownBlock = some k → ¬ Turned w.heap.size Af Aa k) ∧ Aside0 (Below w.heap.size w wr) ∧ Aside0 (wr.heap[w.heap.size + 1]? = some (.cells #[.int .i64 0, .int .i64 0, .int .i64 0, .int .i64 0, .int .i64 0, .slice none 0 0, .slice none 0 0] 29 (0, 0))))
  case atStart => exact ⟨0, Af, cf, Aa, ca, Nat.zero_le _, by omega, rfl, HL, ⟨Kd.R_nil _ _ _ _ _⟩, ⟨fun k hk => by cases hk⟩, B3, O3⟩
  case round =>
    obtain ⟨kk, Bf, bf, Ba, ba, hkk, hg, rfl, HLk, HA, HP, HB, HO⟩ := hrel
    obtain ⟨p, hp⟩ : ∃ p, p = runD x (l1.take kk) := ⟨_, rfl⟩
    have HVk := Aside0.mk (HI.out kk hkk).1
    have hlen := (HI.out kk hkk).2
    rw [← hp] at HLk HA HVk hlen
    have HPK := Aside0.mk hp
    clear hp
    by_cases hlt : kk < l1.length
    · have hltz : (kk : Int) < (l1.length : Int) := by omega
      obtain ⟨ad, rfl, hf0, hf1⟩ := at_T40 (Kd.C_below HR1.out HB.out) (kk : Int) (by omega) (by omega)
      have hgd : rd_T40 l1 (kk : Int) = l1[kk] := by simp [rd_T40, hlt]
      rw [hgd] at hf0 hf1
      rw [Int.toNat_natCast] at hf0 hf1
      have HNX := Aside0.mk (runD_take x l1 kk hlt)
      rw [← HPK.out] at HNX
      generalize hy : l1[kk] = ev at hf0 hf1 HNX
      have B := Aside0.mk hy
      clear hy hgd
      have nT : ¬ Turned w.heap.size Bf Ba (w.heap.size + 1) := by
        rintro (h | h | h)
        · omega
        · rw [own_len Bf 0 0 p.1.fr.length bf] at h; exact Kd.R_ne HLk.out.fr HO.out (by decide) h
        · rw [own_len Ba 0 0 p.1.ak.length ba] at h; exact Kd.R_ne HLk.out.ak HO.out (by decide) h
      have NT := Aside0.mk nT
      clear nT
      have hal := below_alloc (Below.refl wr.heap.size wr) (.cells #[.int .i64 ev.f0, .int .i64 ev.f1] 40)
      have HAL := Aside0.mk hal
      clear hal
      go_wp2_with (fail)
      refine (perform_calls HVk.out ev.f0 ev.f1 (HLk.out.kept HAL.out)).mono ?_
      rintro e w4 ⟨rfl, Cf, df, Ca, da, hl4, hb4, hk4, hown⟩
      have hA1 : Kd.R (Kd.int .i64) 3 (wr.alloc (.cells #[.int .i64 ev.f0, .int .i64 ev.f1] 40)) w.heap.size (fun k => ¬ Turned w.heap.size Bf Ba k) u6 p.2 := ⟨HP.out, (Kd.R_below HA.out HAL.out).2⟩
      have hA4 := Kd.R_kept hA1 hk4 (fun k hk => hk)
      have HA4 := Aside0.mk (Kd.R_mono hA4 (fun _ _ => trivial))
      have HP4 : Aside0 (∀ k, u6.ownBlock = some k → ¬ Turned w.heap.size Cf Ca k) := ⟨by
        intro k hk
        rintro (h | h | h)
        · exact HP.out k hk (.inl h)
        · rw [own_len Cf 0 0 _ df] at h; exact row_apart hl4.fr HA4.out k h.symm hk
        · rcases hown with he | ⟨k', hk', hge⟩
          · rw [he] at h; exact HP.out k hk (.inr (.inr h))
          · rw [hk'] at h
            have h := Option.some.inj h
            have h1 := Kd.R_lt HA.out k hk
            have h2 := HAL.out.size
            omega⟩
      have HB4 := Aside0.mk ((below_alloc HB.out (.cells #[.int .i64 ev.f0, .int .i64 ev.f1] 40)).trans hb4)
      have HO4 := Aside0.mk (blk_kept (blk_alloc HO.out _) hk4 NT.out)
      have HL4 := Aside0.mk hl4
      obtain ⟨s, hs⟩ : ∃ s, s = stepD p.1 ev.f0 ev.f1 := ⟨_, rfl⟩
      have HSS := Aside0.mk hs
      rw [← hs] at HL4 ⊢
      clear hl4 hb4 hk4 hown hA1 hA4 hs HLk HA HP HB HO HAL hf0 hf1
      cases hd : s.2.2 with
      | false =>
        go_wp2_with (fail)
        go_roundg (l1.length - (kk + 1))
        case measure => omega
        case rel =>
          have e1 : runD x (l1.take (kk + 1)) = (s.1, p.2) := by rw [HNX.out]; unfold stepR; rw [← HSS.out, hd]; rfl
          refine ⟨kk + 1, Cf, df, Ca, da, by omega, by omega, by go_num, ?_, ?_, HP4, HB4, HO4⟩
          · rw [e1]; exact HL4
          · rw [e1]; exact HA4
      | true =>
        go_wp2_with ((with_reducible refine gate_builtin (b := .append) (xs := #[.tmp 34, .tmp 36]) rfl ?_); at_builtin; refine Kd.R_append (Kd.int .i64) (w0 := w) w.heap.size rfl (.tmp 34) (.tmp 36) 22 3 (.int .i64 0) 8 rfl Try.underlying22 info3 rfl (by decide) (by omega) u6 p.2 s.2.1 [.int .i64 s.2.1] (fun _ => True) (fun _ => False) rfl rfl (by exact rfl) (fun _ hk => hk.elim) (fun _ _ => trivial) HA4.out HB4.out HB4.out.size (by omega) ?_; intro v7 w5 ho hb hg hat; have HA5 := Aside0.mk ho; have HB5 := Aside0.mk hb; have HG5 := Aside0.mk hg; have HT5 := Aside0.mk hat; clear ho hb hg hat)
        have HL5 := Aside0.mk (HL4.out.grown HG5.out HP4.out)
        have HO5 := Aside0.mk (blk_grown HO4.out HG5.out (Kd.R_ne HA4.out HO4.out (by decide)))
        have HP5 : Aside0 (∀ k, v7.ownBlock = some k → ¬ Turned w.heap.size Cf Ca k) := ⟨by
          intro k hk
          rcases HT5.out with he | ⟨b, hb, hge⟩
          · exact HP4.out k (he ▸ hk)
          · rw [hb] at hk
            obtain rfl := Option.some.inj hk
            rintro (h | h | h)
            · have := blk_lt HL4.out.blk; omega
            · rw [own_len Cf 0 0 s.1.fr.length df] at h; have := Kd.R_lt HL4.out.fr _ h.symm; omega
            · rw [own_len Ca 0 0 s.1.ak.length da] at h; have := Kd.R_lt HL4.out.ak _ h.symm; omega⟩
        go_roundg (l1.length - (kk + 1))
        case measure => omega
        case rel =>
          have e1 : runD x (l1.take (kk + 1)) = (s.1, p.2 ++ [s.2.1]) := by rw [HNX.out]; unfold stepR; rw [← HSS.out, hd]; rfl
          refine ⟨kk + 1, Cf, df, Ca, da, by omega, by omega, by go_num, ?_, ?_, HP5, HB5, HO5⟩
          · rw [e1]; exact HL5
          · rw [e1]; exact HA5
    · have hltz : ¬ (kk : Int) < (l1.length : Int) := by omega
      have hkl : kk = l1.length := by omega
      subst hkl
      have HE1 : Aside0 (p = runD x l1) := ⟨by rw [HPK.out, List.take_length]⟩
      obtain ⟨A7, c7, rfl, _, _⟩ := Kd.R_reads HA.out
      have x0 : wr.cell? ⟨w.heap.size, 0, none⟩ = some (.int .i64 p.1.cap) := (blk_cell HLk.out.blk 0).trans rfl
      have x1 : wr.cell? ⟨w.heap.size, 1, none⟩ = some (.int .i64 p.1.mod) := (blk_cell HLk.out.blk 1).trans rfl
      have x2 : wr.cell? ⟨w.heap.size, 2, none⟩ = some (.int .i64 p.1.lab) := (blk_cell HLk.out.blk 2).trans rfl
      have x3 : wr.cell? ⟨w.heap.size, 3, none⟩ = some (.int .i64 p.1.item) := (blk_cell HLk.out.blk 3).trans rfl
      have x4 : wr.cell? ⟨w.heap.size, 4, none⟩ = some (.int .i64 p.1.last) := (blk_cell HLk.out.blk 4).trans rfl
      have x5 : wr.cell? ⟨w.heap.size, 5, none⟩ = some (.slice Bf p.1.fr.length bf) := (blk_cell HLk.out.blk 5).trans rfl
      have x6 : wr.cell? ⟨w.heap.size, 6, none⟩ = some (.slice Ba p.1.ak.length ba) := (blk_cell HLk.out.blk 6).trans rfl
      have y0 : wr.cell? ⟨w.heap.size + 1, 0, none⟩ = some (.int .i64 0) := (blk_cell HO.out 0).trans rfl
      have fy0 := blk_frozen HO.out 0
      have y1 : wr.cell? ⟨w.heap.size + 1, 1, none⟩ = some (.int .i64 0) := (blk_cell HO.out 1).trans rfl
      have fy1 := blk_frozen HO.out 1
      have y2 : wr.cell? ⟨w.heap.size + 1, 2, none⟩ = some (.int .i64 0) := (blk_cell HO.out 2).trans rfl
      have fy2 := blk_frozen HO.out 2
      have y3 : wr.cell? ⟨w.heap.size + 1, 3, none⟩ = some (.int .i64 0) := (blk_cell HO.out 3).trans rfl
      have fy3 := blk_frozen HO.out 3
      have y4 : wr.cell? ⟨w.heap.size + 1, 4, none⟩ = some (.int .i64 0) := (blk_cell HO.out 4).trans rfl
      have fy4 := blk_frozen HO.out 4
      have y5 : wr.cell? ⟨w.heap.size + 1, 5, none⟩ = some (.slice none 0 0) := (blk_cell HO.out 5).trans rfl
      have fy5 := blk_frozen HO.out 5
      have y6 : wr.cell? ⟨w.heap.size + 1, 6, none⟩ = some (.slice none 0 0) := (blk_cell HO.out 6).trans rfl
      have fy6 := blk_frozen HO.out 6
      go_wp2_with (fail)
      refine bodyPost_ret (results_ct rfl _ (put7 wr (w.heap.size + 1) (.int .i64 p.1.cap) (.int .i64 p.1.mod) (.int .i64 p.1.lab) (.int .i64 p.1.item) (.int .i64 p.1.last) (.slice Bf p.1.fr.length bf) (.slice Ba p.1.ak.length ba)) (w.heap.size + 1) 29 #[.int .i64 p.1.cap, .int .i64 p.1.mod, .int .i64 p.1.lab, .int .i64 p.1.item, .int .i64 p.1.last, .slice Bf p.1.fr.length bf, .slice Ba p.1.ak.length ba] (0, 0) _ rfl (put7_blk HO.out _ _ _ _ _ _ _) Try.underlying29 rfl (by kernel_rfl)) rfl ?_
      rw [← HX.out, ← HE1.out]
      exact ⟨_, _, _, rfl, Kd.R_mono (put7_R HLk.out.fr HO.out (by decide) _ _ _ _ _ _ _) (fun _ _ => trivial), ⟨fun k hk he => HP.out k he.symm (turned_ak _ Bf Ba _ _ k hk), (put7_R HLk.out.ak HO.out (by decide) _ _ _ _ _ _ _).2⟩, ⟨fun k hk he => HP.out k hk (turned_ak _ Bf Ba _ _ k he.symm), (put7_R HA.out HO.out (by decide) _ _ _ _ _ _ _).2⟩, put7_below HB.out (by omega) _ _ _ _ _ _ _⟩
theorem datalink_Run.calls (a0 a1 a2 a3 a4 : Int) (A5 : Option Addr) (c5 : Nat) (l5 : List S46) (A6 : Option Addr) (c6 : Nat) (l6 : List Int) (A1 : Option Addr) (c1 : Nat) (l1 : List S40) (r1 r2 r3 r4 r5 : Int) (r6 : List S46) (r7 r8 : List Int) (w : World) (hr5 : Kd.C k46 w A5 l5.length l5) (hc5 : l5.length ≤ c5) (hr6 : Kd.C (Kd.int .i64) w A6 l6.length l6) (hc6 : l6.length ≤ c6) (hr1 : Kd.C k40 w A1 l1.length l1) (hc1 : l1.length ≤ c1) (h : datalink_Run.f a0 a1 a2 a3 a4 l5 l6 l1 = some (r1, r2, r3, r4, r5, r6, r7, r8)) :
    Calls Try.prog 11 #[.agg #[.int .i64 a0, .int .i64 a1, .int .i64 a2, .int .i64 a3, .int .i64 a4, .slice A5 l5.length c5, .slice A6 l6.length c6], .slice A1 l1.length c1] w fun e w' => ∃ v5 v6 v7 : Value, e = .returned (.tuple #[.agg #[.int .i64 r1, .int .i64 r2, .int .i64 r3, .int .i64 r4, .int .i64 r5, v5, v6], v7]) ∧
      Kd.R k46 46 w' w.heap.size (fun _ => True) v5 r6 ∧ Kd.R (Kd.int .i64) 3 w' w.heap.size (fun k => some k ≠ v7.ownBlock) v6 r7 ∧ Kd.R (Kd.int .i64) 3 w' w.heap.size (fun k => some k ≠ v6.ownBlock) v7 r8 ∧ Below w.heap.size w w' := by
  unfold datalink_Run.f at h
  by_cases V : ValidD ⟨a0, a1, a2, a3, a4, l5, l6⟩
  · by_cases hL : l1.length ≤ 65536
    · rw [if_pos ⟨V, hL⟩] at h
      have h := Option.some.inj h
      simp only [Prod.mk.injEq] at h
      obtain ⟨rfl, rfl, rfl, rfl, rfl, rfl, rfl, rfl⟩ := h
      exact run_good a0 a1 a2 a3 a4 A5 c5 l5 A6 c6 l6 A1 c1 l1 w hr5 hc5 hr6 hc6 hr1 hc1 V hL
    · rw [if_neg (fun hh => hL hh.2)] at h
      have h := Option.some.inj h
      simp only [Prod.mk.injEq] at h
      obtain ⟨rfl, rfl, rfl, rfl, rfl, rfl, rfl, rfl⟩ := h
      refine (run_bad2 a0 a1 a2 a3 a4 A5 c5 l5 A6 c6 l6 A1 c1 l1 w hr5 hc5 hr6 hc6 hr1 hc1 V hL).mono ?_
      rintro e w' ⟨rfl, hb⟩
      exact ⟨_, _, _, rfl, Kd.R_nil _ _ _ _ _, Kd.R_nil _ _ _ _ _, Kd.R_nil _ _ _ _ _, hb⟩
  · rw [if_neg (fun hh => V hh.1)] at h
    have h := Option.some.inj h
    simp only [Prod.mk.injEq] at h
    obtain ⟨rfl, rfl, rfl, rfl, rfl, rfl, rfl, rfl⟩ := h
    refine (run_bad1 a0 a1 a2 a3 a4 A5 c5 l5 A6 c6 l6 A1 c1 l1 w hr5 hc5 hr6 hc6 hr1 hc1 V).mono ?_
    rintro e w' ⟨rfl, hb⟩
    exact ⟨_, _, _, rfl, Kd.R_nil _ _ _ _ _, Kd.R_nil _ _ _ _ _, Kd.R_nil _ _ _ _ _, hb⟩
end Go.Proofs.Ytdhkplfkbdldfaa.P
