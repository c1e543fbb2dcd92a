/- selfstabref42.Step. -/
import Derived.Test.YtdhkplfkbdldfaaGDStep
import Derived.Test.YtdhkplfkbdldfaaP6
import Derived.Deep.RegionLaw
import Derived.StillTailTactics
namespace Go.Proofs.Ytdhkplfkbdldfaa.P
open Go.RowKit Go.Proofs.YtdhkplfkbdldfaaW.PrintWords Go.Proofs.YtdhkplfkbdldfaaW.PrintLast Go.Proofs.YtdhkplfkbdldfaaW.PrintMore Go.Shelf
attribute [local go_sem] max2_int min2_int max_two min_two
set_option linter.unusedVariables false
set_option linter.unusedSimpArgs false
def selfstabref42_Step.f (k : Nat) (a0 a1 a2 a3 a4 : Int) (l5 : List S46) (l6 : List Int) (e0 e1 : Int) : Option (Int × Int × Int × Int × Int × List S46 × List Int × Int × Bool) :=
  (selfstabref42_Valid.f k a0 a1 a2 a3 a4 l5 l6).bind fun t => if t = true then (if ValidD ⟨a0, a1, a2, a3, a4, l5, l6⟩ then datalink_Step.f a0 a1 a2 a3 a4 l5 l6 e0 e1 else none) else some (0, 0, 0, 0, 0, [], [], 0, false)
theorem selfstabref42_Step.mono : ∀ a0 a1 a2 a3 a4 a5 a6 a7 a8 k, LeO (selfstabref42_Step.f k a0 a1 a2 a3 a4 a5 a6 a7 a8) (selfstabref42_Step.f (k + 1) a0 a1 a2 a3 a4 a5 a6 a7 a8) := by
  intro a0 a1 a2 a3 a4 a5 a6 a7 a8 k
  unfold selfstabref42_Step.f
  exact LeO.bind (selfstabref42_Valid.mono _ _ _ _ _ _ _ _) (fun _ => LeO.refl _)
/-- The link in its box, the event in the next one, the answer's box behind them. -/
structure RefAt (G : Nat) (w W : World) (x : DL) (Vf Va : Value) (e0 e1 : Int) : Prop where
  blk : W.heap[G]? = some (.cells #[.int .i64 x.cap, .int .i64 x.mod, .int .i64 x.lab, .int .i64 x.item, .int .i64 x.last, Vf, Va] 29 (0, 0))
  fr : Kd.Q k46 46 W G (fun _ => True) Vf x.fr
  ak : Kd.Q (Kd.int .i64) 3 W G (fun _ => True) Va x.ak
  ev : W.heap[G + 1]? = some (.cells #[.int .i64 e0, .int .i64 e1] 40 (0, 0))
  out : W.heap[G + 1 + 1]? = some (.cells #[.int .i64 0, .int .i64 0, .int .i64 0, .int .i64 0, .int .i64 0, .slice none 0 0, .slice none 0 0] 29 (0, 0))
  below : Below G w W
  sz : G ≤ W.heap.size
theorem RefAt.step {G : Nat} {w W W' : World} {x : DL} {Vf Va : Value} {e0 e1 : Int} (h : RefAt G w W x Vf Va e0 e1) (hb : Below W.heap.size W W') : RefAt G w W' x Vf Va e0 e1 :=
  ⟨blk_below h.blk hb, Kd.Q_below h.fr hb, Kd.Q_below h.ak hb, blk_below h.ev hb, blk_below h.out hb, h.below.trans (hb.mono h.sz), Nat.le_trans h.sz hb.size⟩
theorem RefAt.put {G : Nat} {w W : World} {x y : DL} {Vf Va Vf' Va' : Value} {e0 e1 : Int} (h : RefAt G w W x Vf Va e0 e1) (i : Nat) (u : Value)
    (hcs : (#[.int .i64 x.cap, .int .i64 x.mod, .int .i64 x.lab, .int .i64 x.item, .int .i64 x.last, Vf, Va] : Array Value).setIfInBounds i u = #[.int .i64 y.cap, .int .i64 y.mod, .int .i64 y.lab, .int .i64 y.item, .int .i64 y.last, Vf', Va'])
    (hf : Kd.Q k46 46 W G (fun _ => True) Vf' y.fr) (ha : Kd.Q (Kd.int .i64) 3 W G (fun _ => True) Va' y.ak) : RefAt G w (W.setCell ⟨G, i, none⟩ u) y Vf' Va' e0 e1 :=
  ⟨blk_put h.blk i u hcs, Kd.Q_set hf h.blk (by decide) i u, Kd.Q_set ha h.blk (by decide) i u, blk_far h.ev (by show G + 1 ≠ G; omega) u, blk_far h.out (by show G + 1 + 1 ≠ G; omega) u, h.below.setCell (p := ⟨G, i, none⟩) (Nat.le_refl _) u, by simpa using h.sz⟩
theorem R_empty {α : Type} (d : Kd α) (e : Nat) {W : World} {base g : Nat} (h : W.heap[g]? = some (.cells #[] e (0, 0))) (hb : base ≤ g) : Kd.R d e W base (fun _ => True) (.slice (some ⟨g, 0, none⟩) 0 0) [] :=
  ⟨fun _ _ => trivial, [], ⟨by simp, .inr ⟨g, 0, #[], rfl, hb, h, Nat.le_refl _, Nat.zero_le _, by simp, by simp⟩⟩, Reps.none _ _⟩
theorem put7_Q {α : Type} {d : Kd α} {e base g t : Nat} {ok : Nat → Prop} {v : Value} {xs : List α} {W : World} {cs : Array Value} (h : Kd.Q d e W base ok v xs) (hb : W.heap[g]? = some (.cells cs t (0, 0))) (ht : ∀ q, q ∈ e :: d.E → q ≠ t) (b0 b1 b2 b3 b4 b5 b6 : Value) : Kd.Q d e (put7 W g b0 b1 b2 b3 b4 b5 b6) base ok v xs := by
  unfold put7
  have h1 := Kd.Q_set h hb ht 0 b0
  have k1 := blk_set hb 0 b0
  have h2 := Kd.Q_set h1 k1 ht 1 b1
  have k2 := blk_set k1 1 b1
  have h3 := Kd.Q_set h2 k2 ht 2 b2
  have k3 := blk_set k2 2 b2
  have h4 := Kd.Q_set h3 k3 ht 3 b3
  have k4 := blk_set k3 3 b3
  have h5 := Kd.Q_set h4 k4 ht 4 b4
  have k5 := blk_set k4 4 b4
  have h6 := Kd.Q_set h5 k5 ht 5 b5
  have k6 := blk_set k5 5 b5
  exact Kd.Q_set h6 k6 ht 6 b6
theorem RefAt.fin {G : Nat} {w W : World} {x : DL} {Vf Va : Value} {e0 e1 d : Int} {b : Bool} (h : RefAt G w W x Vf Va e0 e1) {p : DL × Int × Bool} (hp : p = (x, d, b)) (b0 b1 b2 b3 b4 b5 b6 : Value) :
    ∃ v5 v6 : Value, Ending.returned (.tuple #[.agg #[.int .i64 x.cap, .int .i64 x.mod, .int .i64 x.lab, .int .i64 x.item, .int .i64 x.last, Vf, Va], .int .i64 d, .bool b]) = .returned (.tuple #[.agg #[.int .i64 p.1.cap, .int .i64 p.1.mod, .int .i64 p.1.lab, .int .i64 p.1.item, .int .i64 p.1.last, v5, v6], .int .i64 p.2.1, .bool p.2.2]) ∧
      Kd.Q k46 46 (put7 W (G + 1 + 1) b0 b1 b2 b3 b4 b5 b6) G (fun _ => True) v5 p.1.fr ∧ Kd.Q (Kd.int .i64) 3 (put7 W (G + 1 + 1) b0 b1 b2 b3 b4 b5 b6) G (fun _ => True) v6 p.1.ak ∧ Below G w (put7 W (G + 1 + 1) b0 b1 b2 b3 b4 b5 b6) := by
  subst hp
  exact ⟨_, _, rfl, put7_Q h.fr h.out (by decide) _ _ _ _ _ _ _, put7_Q h.ak h.out (by decide) _ _ _ _ _ _ _, put7_below h.below (by omega) _ _ _ _ _ _ _⟩
/-- The row of field 5 has grown: the link still lies in its box; behind the store it holds the longer row. -/
theorem RefAt.appF {G : Nat} {w W w1 : World} {x : DL} {Vf Va V1 : Value} {e0 e1 : Int} {xs' : List S46} (h : RefAt G w W x Vf Va e0 e1) (hq : Kd.Q k46 46 w1 G (fun _ => True) V1 xs') (hb : Below G w w1) (hg : W.grownBy w1 Vf.ownBlock) :
    w1.heap[G]? = some (.cells #[.int .i64 x.cap, .int .i64 x.mod, .int .i64 x.lab, .int .i64 x.item, .int .i64 x.last, Vf, Va] 29 (0, 0)) ∧ w1.heap[G + 1 + 1]? = some (.cells #[.int .i64 0, .int .i64 0, .int .i64 0, .int .i64 0, .int .i64 0, .slice none 0 0, .slice none 0 0] 29 (0, 0)) ∧ RefAt G w (w1.setCell ⟨G, 5, none⟩ V1) { x with fr := xs' } V1 Va e0 e1 := by
  have hr := h.fr
  have h1 := blk_grown (h.blk) hg (Kd.Q_ne hr (h.blk) (by decide))
  have h2 := blk_grown (h.ev) hg (Kd.Q_ne hr (h.ev) (by decide))
  have h3 := blk_grown (h.out) hg (Kd.Q_ne hr (h.out) (by decide))
  have h4 := Kd.Q_over' h.ak (Kd.Q_typed hr) (by decide) hg
  exact ⟨h1, h3, blk_put h1 5 V1 rfl, Kd.Q_set hq h1 (by decide) 5 V1, Kd.Q_set h4 h1 (by decide) 5 V1, blk_far h2 (by show G + 1 ≠ G; omega) _, blk_far h3 (by show G + 1 + 1 ≠ G; omega) _, hb.setCell (p := ⟨G, 5, none⟩) (Nat.le_refl _) _, by have := hb.size; have := blk_lt h1; simpa using Nat.le_of_lt this⟩
/-- The row of field 6 has grown: the link still lies in its box; behind the store it holds the longer row. -/
theorem RefAt.appA {G : Nat} {w W w1 : World} {x : DL} {Vf Va V1 : Value} {e0 e1 : Int} {xs' : List Int} (h : RefAt G w W x Vf Va e0 e1) (hq : Kd.Q (Kd.int .i64) 3 w1 G (fun _ => True) V1 xs') (hb : Below G w w1) (hg : W.grownBy w1 Va.ownBlock) :
    w1.heap[G]? = some (.cells #[.int .i64 x.cap, .int .i64 x.mod, .int .i64 x.lab, .int .i64 x.item, .int .i64 x.last, Vf, Va] 29 (0, 0)) ∧ w1.heap[G + 1 + 1]? = some (.cells #[.int .i64 0, .int .i64 0, .int .i64 0, .int .i64 0, .int .i64 0, .slice none 0 0, .slice none 0 0] 29 (0, 0)) ∧ RefAt G w (w1.setCell ⟨G, 6, none⟩ V1) { x with ak := xs' } Vf V1 e0 e1 := by
  have hr := h.ak
  have h1 := blk_grown (h.blk) hg (Kd.Q_ne hr (h.blk) (by decide))
  have h2 := blk_grown (h.ev) hg (Kd.Q_ne hr (h.ev) (by decide))
  have h3 := blk_grown (h.out) hg (Kd.Q_ne hr (h.out) (by decide))
  have h4 := Kd.Q_over' h.fr (Kd.Q_typed hr) (by decide) hg
  exact ⟨h1, h3, blk_put h1 6 V1 rfl, Kd.Q_set h4 h1 (by decide) 6 V1, Kd.Q_set hq h1 (by decide) 6 V1, blk_far h2 (by show G + 1 ≠ G; omega) _, blk_far h3 (by show G + 1 + 1 ≠ G; omega) _, hb.setCell (p := ⟨G, 6, none⟩) (Nat.le_refl _) _, by have := hb.size; have := blk_lt h1; simpa using Nat.le_of_lt this⟩
theorem RefAt.deq {G : Nat} {w W : World} {x : DL} {Vf Va V1 : Value} {e0 e1 : Int} {r : List S46} (h : RefAt G w W x Vf Va e0 e1) (hq : Kd.Q k46 46 W G (fun _ => True) V1 r) (tmp : Obj) (u : Int) :
    RefAt G w (((W.setCell ⟨G, 5, none⟩ V1).setCell ⟨G, 4, none⟩ (.int .i64 u)).alloc tmp) { x with fr := r, last := u } V1 Va e0 e1 := by
  have h2 := h.put (y := { x with fr := r }) (Vf' := V1) (Va' := Va) 5 V1 rfl hq h.ak
  have h3 := h2.put (y := { x with fr := r, last := u }) (Vf' := V1) (Va' := Va) 4 (.int .i64 u) rfl h2.fr h2.ak
  exact h3.step (below_alloc (Below.refl _ _) tmp)
theorem RefAt.deqA {G : Nat} {w W : World} {x : DL} {Vf Va V1 : Value} {e0 e1 : Int} {r : List Int} (h : RefAt G w W x Vf Va e0 e1) (hq : Kd.Q (Kd.int .i64) 3 W G (fun _ => True) V1 r) :
    RefAt G w (W.setCell ⟨G, 6, none⟩ V1) { x with ak := r } Vf V1 e0 e1 := h.put (y := { x with ak := r }) 6 V1 rfl h.fr hq
theorem RefAt.grT {G : Nat} {w W w1 : World} {x : DL} {Vf Va v : Value} {e0 e1 : Int} {T : Nat} (h : RefAt G w W x Vf Va e0 e1) (hty : ∀ k, v.ownBlock = some k → ∃ cells, W.heap[k]? = some (.cells cells T (0, 0))) (h1 : T ≠ 29) (h2 : T ≠ 40)
    (hf : Kd.Q k46 46 w1 G (fun _ => True) Vf x.fr) (ha : Kd.Q (Kd.int .i64) 3 w1 G (fun _ => True) Va x.ak) (hb : Below G w w1) (hg : W.grownBy w1 v.ownBlock) : RefAt G w w1 x Vf Va e0 e1 := by
  have far : ∀ {g t : Nat} {cs : Array Value}, W.heap[g]? = some (.cells cs t (0, 0)) → T ≠ t → some g ≠ v.ownBlock := by
    intro g t cs hh ht he
    obtain ⟨cells, hc⟩ := hty g he.symm
    rw [hh] at hc; cases hc; exact ht rfl
  exact ⟨blk_grown h.blk hg (far h.blk h1), hf, ha, blk_grown h.ev hg (far h.ev h2), blk_grown h.out hg (far h.out h1), hb, Nat.le_trans h.sz hg.size⟩
theorem RefAt.putF {G : Nat} {w W : World} {x : DL} {Vf Va V1 : Value} {e0 e1 : Int} {r : List S46} (h : RefAt G w W x Vf Va e0 e1) (hq : Kd.Q k46 46 W G (fun _ => True) V1 r) :
    RefAt G w (W.setCell ⟨G, 5, none⟩ V1) { x with fr := r } V1 Va e0 e1 := h.put (y := { x with fr := r }) 5 V1 rfl hq h.ak
theorem cut_erase {α : Type} (l : List α) (i : Nat) : [] ++ l.take i ++ l.drop (i + 1) = l.eraseIdx i := by rw [List.nil_append, List.eraseIdx_eq_take_drop_succ]
theorem RefAt.mk2 {G : Nat} {w W : World} {x : DL} {b5 b6 Vf Va : Value} {e0 e1 : Int} (hb : W.heap[G]? = some (.cells #[.int .i64 x.cap, .int .i64 x.mod, .int .i64 x.lab, .int .i64 x.item, .int .i64 x.last, b5, b6] 29 (0, 0))) (hf : Kd.Q k46 46 W G (fun _ => True) Vf x.fr) (ha : Kd.Q (Kd.int .i64) 3 W G (fun _ => True) Va x.ak)
    (he : W.heap[G + 1]? = some (.cells #[.int .i64 e0, .int .i64 e1] 40 (0, 0))) (ho : W.heap[G + 1 + 1]? = some (.cells #[.int .i64 0, .int .i64 0, .int .i64 0, .int .i64 0, .int .i64 0, .slice none 0 0, .slice none 0 0] 29 (0, 0))) (hw : Below G w W) (hs : G ≤ W.heap.size) : RefAt G w ((W.setCell ⟨G, 5, none⟩ Vf).setCell ⟨G, 6, none⟩ Va) x Vf Va e0 e1 := by
  have h1 := blk_put (cs' := #[.int .i64 x.cap, .int .i64 x.mod, .int .i64 x.lab, .int .i64 x.item, .int .i64 x.last, Vf, b6]) hb 5 Vf rfl
  exact ⟨blk_put h1 6 Va rfl, Kd.Q_set (Kd.Q_set hf hb (by decide) 5 Vf) h1 (by decide) 6 Va, Kd.Q_set (Kd.Q_set ha hb (by decide) 5 Vf) h1 (by decide) 6 Va, blk_far (blk_far he (by show G + 1 ≠ G; omega) _) (by show G + 1 ≠ G; omega) _, blk_far (blk_far ho (by show G + 1 + 1 ≠ G; omega) _) (by show G + 1 + 1 ≠ G; omega) _, (hw.setCell (p := ⟨G, 5, none⟩) (Nat.le_refl _) _).setCell (p := ⟨G, 6, none⟩) (Nat.le_refl _) _, by simpa using hs⟩
theorem heap_two (w : World) (o o' : Obj) : ((w.alloc o).alloc o').heap[w.heap.size + 1]? = some o' := by
  have := blk_new (w.alloc o) o'
  rwa [World.size_alloc] at this
set_option maxHeartbeats 60000000 in
set_option maxRecDepth 1000000 in
theorem rstep_bad (k : Nat) (a0 a1 a2 a3 a4 : Int) (A5 : Option Addr) (c5 : Nat) (l5 : List S46) (A6 : Option Addr) (c6 : Nat) (l6 : List Int) (e0 e1 : Int) (w : World) (hr5 : Kd.C k46 w A5 l5.length l5) (hc5 : l5.length ≤ c5) (hr6 : Kd.C (Kd.int .i64) w A6 l6.length l6) (hc6 : l6.length ≤ c6) (hv : selfstabref42_Valid.f k a0 a1 a2 a3 a4 l5 l6 = some false) :
    Calls Try.prog 19 #[.agg #[.int .i64 a0, .int .i64 a1, .int .i64 a2, .int .i64 a3, .int .i64 a4, .slice A5 l5.length c5, .slice A6 l6.length c6], .agg #[.int .i64 e0, .int .i64 e1]] w fun e w' => e = .returned (.tuple #[.agg #[.int .i64 0, .int .i64 0, .int .i64 0, .int .i64 0, .int .i64 0, .slice none 0 0, .slice none 0 0], .int .i64 0, .bool false]) ∧ Below w.heap.size w w' := by
  have hu := Try.underlying29
  have HVA := Aside0.mk hv
  have HR5 := Aside0.mk hr5
  have HR6 := Aside0.mk hr6
  have B0 := Aside0.mk (show Below w.heap.size w (((w.alloc (.cells #[.int .i64 a0, .int .i64 a1, .int .i64 a2, .int .i64 a3, .int .i64 a4, .slice A5 l5.length c5, .slice A6 l6.length c6] 29)).alloc (.cells #[.int .i64 e0, .int .i64 e1] 40)).alloc (.cells #[.int .i64 0, .int .i64 0, .int .i64 0, .int .i64 0, .int .i64 0, .slice none 0 0, .slice none 0 0] 29)) from below_alloc (below_alloc (below_alloc (Below.refl _ _) _) _) _)
  have hO0 := blk_new ((w.alloc (.cells #[.int .i64 a0, .int .i64 a1, .int .i64 a2, .int .i64 a3, .int .i64 a4, .slice A5 l5.length c5, .slice A6 l6.length c6] 29)).alloc (.cells #[.int .i64 e0, .int .i64 e1] 40)) (.cells #[.int .i64 0, .int .i64 0, .int .i64 0, .int .i64 0, .int .i64 0, .slice none 0 0, .slice none 0 0] 29)
  rw [World.size_alloc, World.size_alloc] at hO0
  have O0 := Aside0.mk hO0
  clear hr5 hr6 hv hO0
  go_enter Try.func19, Try.ntmps19
  go_wp2_with (fail)
  generalize (((w.alloc (.cells #[.int .i64 a0, .int .i64 a1, .int .i64 a2, .int .i64 a3, .int .i64 a4, .slice A5 l5.length c5, .slice A6 l6.length c6] 29)).alloc (.cells #[.int .i64 e0, .int .i64 e1] 40)).alloc (.cells #[.int .i64 0, .int .i64 0, .int .i64 0, .int .i64 0, .int .i64 0, .slice none 0 0, .slice none 0 0] 29)) = W0 at B0 O0 ⊢
  refine (selfstabref42_Valid.calls k a0 a1 a2 a3 a4 A5 c5 l5 A6 c6 l6 false _ (Kd.C_below HR5.out B0.out) hc5 (Kd.C_below HR6.out B0.out) hc6 HVA.out).mono ?_
  rintro e w1 ⟨rfl, hb⟩
  have O1 := Aside0.mk (blk_below O0.out hb)
  have B1 := Aside0.mk (below_step B0.out hb)
  clear hb
  have y0 : w1.cell? ⟨w.heap.size + 1 + 1, 0, none⟩ = some (.int .i64 0) := (blk_cell O1.out 0).trans rfl
  have fy0 := blk_frozen O1.out 0
  have y1 : w1.cell? ⟨w.heap.size + 1 + 1, 1, none⟩ = some (.int .i64 0) := (blk_cell O1.out 1).trans rfl
  have fy1 := blk_frozen O1.out 1
  have y2 : w1.cell? ⟨w.heap.size + 1 + 1, 2, none⟩ = some (.int .i64 0) := (blk_cell O1.out 2).trans rfl
  have fy2 := blk_frozen O1.out 2
  have y3 : w1.cell? ⟨w.heap.size + 1 + 1, 3, none⟩ = some (.int .i64 0) := (blk_cell O1.out 3).trans rfl
  have fy3 := blk_frozen O1.out 3
  have y4 : w1.cell? ⟨w.heap.size + 1 + 1, 4, none⟩ = some (.int .i64 0) := (blk_cell O1.out 4).trans rfl
  have fy4 := blk_frozen O1.out 4
  have y5 : w1.cell? ⟨w.heap.size + 1 + 1, 5, none⟩ = some (.slice none 0 0) := (blk_cell O1.out 5).trans rfl
  have fy5 := blk_frozen O1.out 5
  have y6 : w1.cell? ⟨w.heap.size + 1 + 1, 6, none⟩ = some (.slice none 0 0) := (blk_cell O1.out 6).trans rfl
  have fy6 := blk_frozen O1.out 6
  go_wp2_with (fail)
  refine bodyPost_ret (results_ctt rfl _ (put7 w1 (w.heap.size + 1 + 1) (.int .i64 0) (.int .i64 0) (.int .i64 0) (.int .i64 0) (.int .i64 0) (.slice none 0 0) (.slice none 0 0)) (w.heap.size + 1 + 1) 29 #[.int .i64 0, .int .i64 0, .int .i64 0, .int .i64 0, .int .i64 0, .slice none 0 0, .slice none 0 0] (0, 0) _ rfl (put7_blk O1.out _ _ _ _ _ _ _) Try.underlying29 rfl (by kernel_rfl)) rfl ?_
  exact ⟨rfl, put7_below B1.out (by omega) _ _ _ _ _ _ _⟩
def rs_T17 : Bool × List (List Nat × List Nat) := (true, [([], []), ([0], [0]), ([1], [1]), ([], []), ([3], [3]), ([2, 4], [2, 4]), ([], []), ([6], [6]), ([7], [7]), ([8], [8]), ([0, 1, 2, 3, 4, 5, 6, 7], []), ([10, 5, 0, 1, 2, 3, 4, 5, 6, 7], [5, 10]), ([0, 1, 2, 3, 4, 5, 6, 7, 8, 9, 10, 11], []), ([12, 9, 11, 0, 1, 2, 3, 4, 5, 6, 7, 8, 9, 10, 11], [9, 12])])
def rs_B17 : List Nat := [0, 1, 3, 0, 8, 31, 0, 64, 192, 448, 255, 1279, 4095, 8191]
theorem rs_tab17 : rtab .any (opsOf Try.f19 17) = rs_T17 := by kernel_rfl
theorem rs_bits17 : waitsOk rs_T17.2 rs_B17 = true := by kernel_rfl
def rs_T20 : Bool × List (List Nat × List Nat) := (true, [([], []), ([], []), ([1], [1]), ([], []), ([3], [3]), ([2, 4], [2, 4]), ([0, 5], [0, 5]), ([], []), ([7], [7]), ([], []), ([9], [9]), ([10], [10]), ([8, 11], [8, 11]), ([6, 12, 6], [6, 12]), ([0, 1, 2, 3, 4, 5, 6, 7, 8, 9, 10, 11, 12, 13], []), ([14, 13, 13, 0, 1, 2, 3, 4, 5, 6, 7, 8, 9, 10, 11, 12, 13], [13, 14])])
def rs_B20 : List Nat := [0, 0, 2, 0, 8, 30, 63, 0, 128, 0, 512, 1536, 3968, 8191, 16383, 32767]
theorem rs_tab20 : rtab .any (opsOf Try.f19 20) = rs_T20 := by kernel_rfl
theorem rs_bits20 : waitsOk rs_T20.2 rs_B20 = true := by kernel_rfl
def rs_T22 : Bool × List (List Nat × List Nat) := (true, [([], []), ([], []), ([1], [1]), ([], []), ([3], [3]), ([2, 4], [2, 4]), ([0, 5], [0, 5]), ([], []), ([7], [7]), ([], []), ([9], [9]), ([10], [10]), ([8, 11], [8, 11]), ([6, 12, 6], [6, 12]), ([0, 1, 2, 3, 4, 5, 6, 7, 8, 9, 10, 11, 12, 13], []), ([14, 13, 13, 0, 1, 2, 3, 4, 5, 6, 7, 8, 9, 10, 11, 12, 13], [13, 14])])
def rs_B22 : List Nat := [0, 0, 2, 0, 8, 30, 63, 0, 128, 0, 512, 1536, 3968, 8191, 16383, 32767]
theorem rs_tab22 : rtab .any (opsOf Try.f19 22) = rs_T22 := by kernel_rfl
theorem rs_bits22 : waitsOk rs_T22.2 rs_B22 = true := by kernel_rfl
theorem at_ints {w : World} {A : Option Addr} {n : Nat} {xs : List Int} (h : Kd.C (Kd.int .i64) w A n xs) (i : Int) (h0 : 0 ≤ i) (h1 : i < n) : ∃ ad, A = some ad ∧ w.cell? (ad.add i.toNat) = some (.int .i64 (rd xs i)) := by
  obtain ⟨ad, c, e, hc, hk, hcell⟩ := ReadsRow.get_ h 0 i h0 h1
  have hk : c = [.int .i64 (xs.getD i.toNat 0)] := hk
  subst hk
  refine ⟨ad, e, ?_⟩
  have := hcell 0 _ rfl
  rwa [show i.toNat * (Kd.int .i64).sz + 0 = i.toNat from by show i.toNat * 1 + 0 = i.toNat; omega] at this
set_option maxHeartbeats 60000000 in
set_option maxRecDepth 1000000 in
theorem rstep_good (k : Nat) (a0 a1 a2 a3 a4 : Int) (A5 : Option Addr) (c5 : Nat) (l5 : List S46) (A6 : Option Addr) (c6 : Nat) (l6 : List Int) (e0 e1 : Int) (w : World) (hr5 : Kd.C k46 w A5 l5.length l5) (hc5 : l5.length ≤ c5) (hr6 : Kd.C (Kd.int .i64) w A6 l6.length l6) (hc6 : l6.length ≤ c6) (V : ValidD ⟨a0, a1, a2, a3, a4, l5, l6⟩) (hv : selfstabref42_Valid.f k a0 a1 a2 a3 a4 l5 l6 = some true) :
    Calls Try.prog 19 #[.agg #[.int .i64 a0, .int .i64 a1, .int .i64 a2, .int .i64 a3, .int .i64 a4, .slice A5 l5.length c5, .slice A6 l6.length c6], .agg #[.int .i64 e0, .int .i64 e1]] w fun e w' => ∃ v5 v6 : Value, e = .returned (.tuple #[.agg #[.int .i64 (stepD ⟨a0, a1, a2, a3, a4, l5, l6⟩ e0 e1).1.cap, .int .i64 (stepD ⟨a0, a1, a2, a3, a4, l5, l6⟩ e0 e1).1.mod, .int .i64 (stepD ⟨a0, a1, a2, a3, a4, l5, l6⟩ e0 e1).1.lab, .int .i64 (stepD ⟨a0, a1, a2, a3, a4, l5, l6⟩ e0 e1).1.item, .int .i64 (stepD ⟨a0, a1, a2, a3, a4, l5, l6⟩ e0 e1).1.last, v5, v6], .int .i64 (stepD ⟨a0, a1, a2, a3, a4, l5, l6⟩ e0 e1).2.1, .bool (stepD ⟨a0, a1, a2, a3, a4, l5, l6⟩ e0 e1).2.2]) ∧
      Kd.Q k46 46 w' w.heap.size (fun _ => True) v5 (stepD ⟨a0, a1, a2, a3, a4, l5, l6⟩ e0 e1).1.fr ∧ Kd.Q (Kd.int .i64) 3 w' w.heap.size (fun _ => True) v6 (stepD ⟨a0, a1, a2, a3, a4, l5, l6⟩ e0 e1).1.ak ∧ Below w.heap.size w w' := by
  have hu := Try.underlying29
  have hu2 := Try.underlying40
  have mixed : Try.prog.follows Departure.mixedOrders = true := by kernel_rfl
  have HVA := Aside0.mk hv
  have HR5 := Aside0.mk hr5
  have HR6 := Aside0.mk hr6
  have n5 : l5.length ≤ 8 := by obtain ⟨v1, v2, _, _, _, _, _, _, _, _, v11, _⟩ := V; dsimp only at v2 v11; omega
  have n6 : l6.length ≤ 8 := by obtain ⟨v1, v2, _, _, _, _, _, _, _, _, _, v12, _⟩ := V; dsimp only at v2 v12; omega
  have HVV := Aside0.mk V
  have B0 := Aside0.mk (show Below w.heap.size w (((w.alloc (.cells #[.int .i64 a0, .int .i64 a1, .int .i64 a2, .int .i64 a3, .int .i64 a4, .slice A5 l5.length c5, .slice A6 l6.length c6] 29)).alloc (.cells #[.int .i64 e0, .int .i64 e1] 40)).alloc (.cells #[.int .i64 0, .int .i64 0, .int .i64 0, .int .i64 0, .int .i64 0, .slice none 0 0, .slice none 0 0] 29)) from below_alloc (below_alloc (below_alloc (Below.refl _ _) _) _) _)
  have X0 := Aside0.mk (blk_alloc (blk_alloc (blk_new w (.cells #[.int .i64 a0, .int .i64 a1, .int .i64 a2, .int .i64 a3, .int .i64 a4, .slice A5 l5.length c5, .slice A6 l6.length c6] 29)) (.cells #[.int .i64 e0, .int .i64 e1] 40)) (.cells #[.int .i64 0, .int .i64 0, .int .i64 0, .int .i64 0, .int .i64 0, .slice none 0 0, .slice none 0 0] 29))
  have hE0 := blk_alloc (blk_new (w.alloc (.cells #[.int .i64 a0, .int .i64 a1, .int .i64 a2, .int .i64 a3, .int .i64 a4, .slice A5 l5.length c5, .slice A6 l6.length c6] 29)) (.cells #[.int .i64 e0, .int .i64 e1] 40)) (.cells #[.int .i64 0, .int .i64 0, .int .i64 0, .int .i64 0, .int .i64 0, .slice none 0 0, .slice none 0 0] 29)
  rw [World.size_alloc] at hE0
  have E0 := Aside0.mk hE0
  have hO0 := blk_new ((w.alloc (.cells #[.int .i64 a0, .int .i64 a1, .int .i64 a2, .int .i64 a3, .int .i64 a4, .slice A5 l5.length c5, .slice A6 l6.length c6] 29)).alloc (.cells #[.int .i64 e0, .int .i64 e1] 40)) (.cells #[.int .i64 0, .int .i64 0, .int .i64 0, .int .i64 0, .int .i64 0, .slice none 0 0, .slice none 0 0] 29)
  rw [World.size_alloc, World.size_alloc] at hO0
  have O0 := Aside0.mk hO0
  clear hr5 hr6 hv hO0 hE0 V
  go_enter Try.func19, Try.ntmps19
  go_wp2_with (fail)
  generalize (((w.alloc (.cells #[.int .i64 a0, .int .i64 a1, .int .i64 a2, .int .i64 a3, .int .i64 a4, .slice A5 l5.length c5, .slice A6 l6.length c6] 29)).alloc (.cells #[.int .i64 e0, .int .i64 e1] 40)).alloc (.cells #[.int .i64 0, .int .i64 0, .int .i64 0, .int .i64 0, .int .i64 0, .slice none 0 0, .slice none 0 0] 29)) = W0 at B0 X0 E0 O0 ⊢
  refine (selfstabref42_Valid.calls k a0 a1 a2 a3 a4 A5 c5 l5 A6 c6 l6 true _ (Kd.C_below HR5.out B0.out) hc5 (Kd.C_below HR6.out B0.out) hc6 HVA.out).mono ?_
  rintro e w1 ⟨rfl, hb⟩
  have X1 := Aside0.mk (blk_below X0.out hb)
  have E1 := Aside0.mk (blk_below E0.out hb)
  have O1 := Aside0.mk (blk_below O0.out hb)
  have B1 := Aside0.mk (below_step B0.out hb)
  clear hb X0 E0 O0 B0 HVA
  have x0 : w1.cell? ⟨w.heap.size, 0, none⟩ = some (.int .i64 a0) := (blk_cell X1.out 0).trans rfl
  have fx0 := blk_frozen X1.out 0
  have x1 : w1.cell? ⟨w.heap.size, 1, none⟩ = some (.int .i64 a1) := (blk_cell X1.out 1).trans rfl
  have fx1 := blk_frozen X1.out 1
  have x2 : w1.cell? ⟨w.heap.size, 2, none⟩ = some (.int .i64 a2) := (blk_cell X1.out 2).trans rfl
  have fx2 := blk_frozen X1.out 2
  have x3 : w1.cell? ⟨w.heap.size, 3, none⟩ = some (.int .i64 a3) := (blk_cell X1.out 3).trans rfl
  have fx3 := blk_frozen X1.out 3
  have x4 : w1.cell? ⟨w.heap.size, 4, none⟩ = some (.int .i64 a4) := (blk_cell X1.out 4).trans rfl
  have fx4 := blk_frozen X1.out 4
  have x5 : w1.cell? ⟨w.heap.size, 5, none⟩ = some (.slice A5 l5.length c5) := (blk_cell X1.out 5).trans rfl
  have fx5 := blk_frozen X1.out 5
  have x6 : w1.cell? ⟨w.heap.size, 6, none⟩ = some (.slice A6 l6.length c6) := (blk_cell X1.out 6).trans rfl
  have fx6 := blk_frozen X1.out 6
  go_upto_region 3 with (fail)
  have hs0 : w.heap.size < w1.heap.size := blk_lt X1.out
  have hs1 : w.heap.size + 1 < w1.heap.size := blk_lt E1.out
  have hs2 : w.heap.size + 1 + 1 < w1.heap.size := blk_lt O1.out
  have hI3 := info3
  clear hI3
  go_cut [20] from 13 to 22 (fun v20 wc => ∃ (Af : Option Addr) (cf : Nat) (Aa : Option Addr) (ca : Nat), Aside0 (RefAt w.heap.size w wc ⟨a0, a1, a2, a3, a4, l5, l6⟩ (.slice Af l5.length cf) (.slice Aa l6.length ca) e0 e1))
  case first =>
    go_region_law_o (first
      | (refine Kd.R_append_rows_step k46 (w0 := w) w.heap.size (by simp [Region.wanted]) (.tmp 13) (.tmp 15) 27 46 (.agg #[(.int .i64 0), (.int .i64 0)]) 16 rfl Try.underlying27 info46 rfl (by decide) (by omega) (.slice (some ⟨_, 0, none⟩) 0 0) [] l5 A5 l5.length c5 (fun _ => True) (fun _ => False) (by exact rfl) (by exact rfl) (R_empty k46 46 (by first | exact blk_drew (blk_new w1 _) | exact blk_drew (blk_alloc (blk_new w1 _) _) | exact blk_drew (heap_two w1 _ _)) (by first | omega | (simp; omega))) (Kd.C_below HR5.out (by first | exact below_drew1 (below_alloc B1.out _) | exact below_drew1 (below_alloc (below_alloc B1.out _) _))) (fun _ _ h => h) (fun _ hk => hk.elim) (fun _ _ => trivial) (by first | exact below_drew1 (below_alloc B1.out _) | exact below_drew1 (below_alloc (below_alloc B1.out _) _)) (by first | omega | (simp; omega)) (by first | omega | (simp; omega)) ?_; intro v2 w2 ho hb hg hat; rw [List.nil_append] at ho; obtain ⟨Af, cf, rfl, _, _⟩ := Kd.R_reads ho
         have hX2 := blk_grown (by first | exact blk_drew (blk_alloc X1.out _) | exact blk_drew (blk_alloc (blk_alloc X1.out _) _)) hg (by simp [Value.ownBlock]; omega)
         have hE2 := blk_grown (by first | exact blk_drew (blk_alloc E1.out _) | exact blk_drew (blk_alloc (blk_alloc E1.out _) _)) hg (by simp [Value.ownBlock]; omega)
         have hO2 := blk_grown (by first | exact blk_drew (blk_alloc O1.out _) | exact blk_drew (blk_alloc (blk_alloc O1.out _) _)) hg (by simp [Value.ownBlock]; omega)
         have X2 := Aside0.mk hX2
         have E2 := Aside0.mk hE2
         have O2 := Aside0.mk hO2
         have B2 := Aside0.mk hb
         have F2 := Aside0.mk (Kd.Q_of_R ho)
         first
         | (have N2 := Aside0.mk (blk_grown (g := w1.heap.size + 1) (o := .cells #[] 3 (0, 0)) (blk_drew (heap_two w1 _ _)) hg (by simp [Value.ownBlock])); have N2l := Aside0.mk (show w.heap.size ≤ w1.heap.size + 1 by omega))
         | (have N2 := Aside0.mk (blk_grown (g := w1.heap.size) (o := .cells #[] 3 (0, 0)) (blk_drew (blk_alloc (blk_new w1 _) _)) hg (by simp [Value.ownBlock])); have N2l := Aside0.mk (show w.heap.size ≤ w1.heap.size by omega))
         | skip
         have c25 := (blk_cell hX2 5).trans rfl
         have c26 := (blk_cell hX2 6).trans rfl
         have f25 := blk_frozen hX2 5
         have f26 := blk_frozen hX2 6
         have hs20 := blk_lt hX2
         have hs21 := blk_lt hE2
         have hs22 := blk_lt hO2
         clear hX2 hE2 hO2 ho hb hg hat)
      | (first
         | (have HE3 := Aside0.mk (R_empty (Kd.int .i64) 3 (base := w.heap.size) N2.out N2l.out); have HB3 := B2; have HX3 := X2; have HE3b := E2; have HO3b := O2; have HF3 := F2)
         | (have HE3 := Aside0.mk (R_empty (Kd.int .i64) 3 (base := w.heap.size) (blk_new w2 (.cells #[] 3)) (Nat.le_of_lt hs20)); have HB3 := Aside0.mk (below_alloc B2.out (.cells #[] 3)); have HX3 := Aside0.mk (blk_alloc X2.out (.cells #[] 3)); have HE3b := Aside0.mk (blk_alloc E2.out (.cells #[] 3)); have HO3b := Aside0.mk (blk_alloc O2.out (.cells #[] 3)); have HF3 := Aside0.mk (Kd.Q_alloc F2.out (.cells #[] 3)))
         refine Kd.R_append_rows_step (Kd.int .i64) (w0 := w) w.heap.size (by simp [Region.wanted]) (.tmp 17) (.tmp 19) 22 3 (.int .i64 0) 8 rfl Try.underlying22 info3 rfl (by decide) (by omega) _ [] l6 A6 l6.length c6 (fun _ => True) (fun _ => False) (by exact rfl) (by exact rfl) HE3.out (Kd.C_below HR6.out HB3.out) (fun _ _ h => h) (fun _ hk => hk.elim) (fun _ _ => trivial) HB3.out HB3.out.size (by first | omega | (simp; omega)) ?_; intro v3 w3 ho hb hg hat; rw [List.nil_append] at ho; obtain ⟨Aa, ca, rfl, _, _⟩ := Kd.R_reads ho
         have hX3 := blk_grown HX3.out hg (Kd.R_ne HE3.out HX3.out (by decide))
         have HL := Aside0.mk (RefAt.mk2 (x := ⟨a0, a1, a2, a3, a4, l5, l6⟩) hX3 (Kd.Q_over' HF3.out (Kd.R_typed HE3.out) (by decide) hg) (Kd.Q_of_R ho) (blk_grown HE3b.out hg (Kd.R_ne HE3.out HE3b.out (by decide))) (blk_grown HO3b.out hg (Kd.R_ne HE3.out HO3b.out (by decide))) hb hb.size)
         have c35 := (blk_cell hX3 5).trans rfl
         have c36 := (blk_cell hX3 6).trans rfl
         have f35 := blk_frozen hX3 5
         have f36 := blk_frozen hX3 6
         clear hX3 ho hb hg hat HE3 HB3 HX3 HE3b HO3b HF3))
    all_goals
      go_wp2_with (fail)
      go_meet
      exact ⟨_, _, _, _, HL⟩
  case rest =>
    obtain ⟨Af, cf, Aa, ca, HL⟩ := hcut
    obtain ⟨x, hx⟩ : ∃ x : DL, x = ⟨a0, a1, a2, a3, a4, l5, l6⟩ := ⟨_, rfl⟩
    rw [← hx] at HL HVV
    have HX := Aside0.mk hx
    have hl5 : x.fr.length ≤ 8 := by rw [hx]; exact n5
    have hl6 : x.ak.length ≤ 8 := by rw [hx]; exact n6
    have HL : Aside0 (RefAt w.heap.size w wc x (.slice Af x.fr.length cf) (.slice Aa x.ak.length ca) e0 e1) := ⟨by have := HL.out; rw [hx] at this ⊢; exact this⟩
    clear hx n5 n6
    obtain ⟨p, hp⟩ : ∃ p, p = stepD x e0 e1 := ⟨_, rfl⟩
    have HP := Aside0.mk hp
    clear hp
    have x0 : wc.cell? ⟨w.heap.size, 0, none⟩ = some ((.int .i64 x.cap)) := (blk_cell HL.out.blk 0).trans rfl
    have fx0 := blk_frozen HL.out.blk 0
    have x1 : wc.cell? ⟨w.heap.size, 1, none⟩ = some ((.int .i64 x.mod)) := (blk_cell HL.out.blk 1).trans rfl
    have fx1 := blk_frozen HL.out.blk 1
    have x2 : wc.cell? ⟨w.heap.size, 2, none⟩ = some ((.int .i64 x.lab)) := (blk_cell HL.out.blk 2).trans rfl
    have fx2 := blk_frozen HL.out.blk 2
    have x3 : wc.cell? ⟨w.heap.size, 3, none⟩ = some ((.int .i64 x.item)) := (blk_cell HL.out.blk 3).trans rfl
    have fx3 := blk_frozen HL.out.blk 3
    have x4 : wc.cell? ⟨w.heap.size, 4, none⟩ = some ((.int .i64 x.last)) := (blk_cell HL.out.blk 4).trans rfl
    have fx4 := blk_frozen HL.out.blk 4
    have x5 : wc.cell? ⟨w.heap.size, 5, none⟩ = some (.slice Af x.fr.length cf) := (blk_cell HL.out.blk 5).trans rfl
    have fx5 := blk_frozen HL.out.blk 5
    have x6 : wc.cell? ⟨w.heap.size, 6, none⟩ = some (.slice Aa x.ak.length ca) := (blk_cell HL.out.blk 6).trans rfl
    have fx6 := blk_frozen HL.out.blk 6
    have ev0 : wc.cell? ⟨w.heap.size + 1, 0, none⟩ = some (.int .i64 e0) := (blk_cell HL.out.ev 0).trans rfl
    have ev1 : wc.cell? ⟨w.heap.size + 1, 1, none⟩ = some (.int .i64 e1) := (blk_cell HL.out.ev 1).trans rfl
    have y0 : wc.cell? ⟨w.heap.size + 1 + 1, 0, none⟩ = some (.int .i64 0) := (blk_cell HL.out.out 0).trans rfl
    have fy0 := blk_frozen HL.out.out 0
    have y1 : wc.cell? ⟨w.heap.size + 1 + 1, 1, none⟩ = some (.int .i64 0) := (blk_cell HL.out.out 1).trans rfl
    have fy1 := blk_frozen HL.out.out 1
    have y2 : wc.cell? ⟨w.heap.size + 1 + 1, 2, none⟩ = some (.int .i64 0) := (blk_cell HL.out.out 2).trans rfl
    have fy2 := blk_frozen HL.out.out 2
    have y3 : wc.cell? ⟨w.heap.size + 1 + 1, 3, none⟩ = some (.int .i64 0) := (blk_cell HL.out.out 3).trans rfl
    have fy3 := blk_frozen HL.out.out 3
    have y4 : wc.cell? ⟨w.heap.size + 1 + 1, 4, none⟩ = some (.int .i64 0) := (blk_cell HL.out.out 4).trans rfl
    have fy4 := blk_frozen HL.out.out 4
    have y5 : wc.cell? ⟨w.heap.size + 1 + 1, 5, none⟩ = some (.slice none 0 0) := (blk_cell HL.out.out 5).trans rfl
    have fy5 := blk_frozen HL.out.out 5
    have y6 : wc.cell? ⟨w.heap.size + 1 + 1, 6, none⟩ = some (.slice none 0 0) := (blk_cell HL.out.out 6).trans rfl
    have fy6 := blk_frozen HL.out.out 6
    by_cases k1 : e0 = 1
    · subst k1
      by_cases room : (x.fr.length : Int) < x.cap
      · have droom : decide ((x.fr.length : Int) < x.cap) = true := decide_eq_true room
        go_wp2_with ((with_reducible refine gate_builtin (b := .append) (xs := #[.tmp 36, .tmp 42]) rfl ?_); refine Kd.Q_append k46 (w0 := w) w.heap.size rfl (.tmp 36) (.tmp 42) 27 46 (.agg #[(.int .i64 0), (.int .i64 0)]) 16 rfl Try.underlying27 info46 rfl (by decide) (by omega) (.slice Af x.fr.length cf) x.fr (⟨x.lab, x.item⟩ : S46) [.int .i64 x.lab, .int .i64 x.item] (fun _ => True) (fun _ => False) rfl rfl (k46_mkM _ _ _ (⟨x.lab, x.item⟩ : S46)) (fun _ hk => hk.elim) (fun _ _ => trivial) HL.out.fr HL.out.below HL.out.sz (by omega) ?_; intro v1 w5 ho hb hg hat; obtain ⟨A1, c1, rfl, _⟩ := Kd.Q_slice ho; have hh := HL.out.appF ho hb hg; rw [List.length_append, List.length_singleton]; have hb5 := hh.1; have hO5 := hh.2.1; have HL5 := Aside0.mk hh.2.2; rw [List.length_append, List.length_singleton] at HL5; clear ho hb hg hat hh; clear x0 fx0 y0 fy0 x1 fx1 y1 fy1 x2 fx2 y2 fy2 x3 fx3 y3 fy3 x4 fx4 y4 fy4 x5 fx5 y5 fy5 x6 fx6 y6 fy6 ev0 ev1; have z0 : w5.cell? ⟨w.heap.size, 0, none⟩ = some ((.int .i64 x.cap)) := (blk_cell hb5 0).trans rfl; have fz0 := blk_frozen hb5 0; have z1 : w5.cell? ⟨w.heap.size, 1, none⟩ = some ((.int .i64 x.mod)) := (blk_cell hb5 1).trans rfl; have fz1 := blk_frozen hb5 1; have z2 : w5.cell? ⟨w.heap.size, 2, none⟩ = some ((.int .i64 x.lab)) := (blk_cell hb5 2).trans rfl; have fz2 := blk_frozen hb5 2; have z3 : w5.cell? ⟨w.heap.size, 3, none⟩ = some ((.int .i64 x.item)) := (blk_cell hb5 3).trans rfl; have fz3 := blk_frozen hb5 3; have z4 : w5.cell? ⟨w.heap.size, 4, none⟩ = some ((.int .i64 x.last)) := (blk_cell hb5 4).trans rfl; have fz4 := blk_frozen hb5 4; have z5 : w5.cell? ⟨w.heap.size, 5, none⟩ = some (.slice Af x.fr.length cf) := (blk_cell hb5 5).trans rfl; have fz5 := blk_frozen hb5 5; have z6 : w5.cell? ⟨w.heap.size, 6, none⟩ = some (.slice Aa x.ak.length ca) := (blk_cell hb5 6).trans rfl; have fz6 := blk_frozen hb5 6; have y0 : w5.cell? ⟨w.heap.size + 1 + 1, 0, none⟩ = some (.int .i64 0) := (blk_cell hO5 0).trans rfl; have fy0 := blk_frozen hO5 0; have y1 : w5.cell? ⟨w.heap.size + 1 + 1, 1, none⟩ = some (.int .i64 0) := (blk_cell hO5 1).trans rfl; have fy1 := blk_frozen hO5 1; have y2 : w5.cell? ⟨w.heap.size + 1 + 1, 2, none⟩ = some (.int .i64 0) := (blk_cell hO5 2).trans rfl; have fy2 := blk_frozen hO5 2; have y3 : w5.cell? ⟨w.heap.size + 1 + 1, 3, none⟩ = some (.int .i64 0) := (blk_cell hO5 3).trans rfl; have fy3 := blk_frozen hO5 3; have y4 : w5.cell? ⟨w.heap.size + 1 + 1, 4, none⟩ = some (.int .i64 0) := (blk_cell hO5 4).trans rfl; have fy4 := blk_frozen hO5 4; have y5 : w5.cell? ⟨w.heap.size + 1 + 1, 5, none⟩ = some (.slice none 0 0) := (blk_cell hO5 5).trans rfl; have fy5 := blk_frozen hO5 5; have y6 : w5.cell? ⟨w.heap.size + 1 + 1, 6, none⟩ = some (.slice none 0 0) := (blk_cell hO5 6).trans rfl; have fy6 := blk_frozen hO5 6; clear hb5 hO5)
        have HS := Aside0.mk (show p = ({ x with fr := x.fr ++ [⟨x.lab, x.item⟩] }, 0, false) by rw [HP.out]; unfold stepD; rw [if_pos rfl, if_pos room])

        refine bodyPost_ret (results_ctt rfl _ (put7 (w5.setCell ⟨w.heap.size, 5, none⟩ (.slice A1 (x.fr.length + 1) c1)) (w.heap.size + 1 + 1) (.int .i64 x.cap) (.int .i64 x.mod) (.int .i64 x.lab) (.int .i64 x.item) (.int .i64 x.last) (.slice A1 (x.fr.length + 1) c1) (.slice Aa x.ak.length ca)) (w.heap.size + 1 + 1) 29 #[.int .i64 x.cap, .int .i64 x.mod, .int .i64 x.lab, .int .i64 x.item, .int .i64 x.last, .slice A1 (x.fr.length + 1) c1, .slice Aa x.ak.length ca] (0, 0) _ rfl (put7_blk HL5.out.out _ _ _ _ _ _ _) Try.underlying29 rfl (by kernel_rfl)) rfl ?_
        exact RefAt.fin HL5.out (by rw [← HX.out, ← HP.out]; exact HS.out) _ _ _ _ _ _ _
      · have droom : decide ((x.fr.length : Int) < x.cap) = false := decide_eq_false room
        have HS := Aside0.mk (show p = (x, 0, false) by rw [HP.out]; unfold stepD; rw [if_pos rfl, if_neg room])
        go_wp2_with (fail)
        refine bodyPost_ret (results_ctt rfl _ (put7 wc (w.heap.size + 1 + 1) (.int .i64 x.cap) (.int .i64 x.mod) (.int .i64 x.lab) (.int .i64 x.item) (.int .i64 x.last) (.slice Af x.fr.length cf) (.slice Aa x.ak.length ca)) (w.heap.size + 1 + 1) 29 #[.int .i64 x.cap, .int .i64 x.mod, .int .i64 x.lab, .int .i64 x.item, .int .i64 x.last, .slice Af x.fr.length cf, .slice Aa x.ak.length ca] (0, 0) _ rfl (put7_blk HL.out.out _ _ _ _ _ _ _) Try.underlying29 rfl (by kernel_rfl)) rfl ?_
        exact RefAt.fin HL.out (by rw [← HX.out, ← HP.out]; exact HS.out) _ _ _ _ _ _ _
    by_cases k2 : e0 = 2
    · subst k2
      rcases hfr : x.fr with _ | ⟨f, r⟩
      · have d1 : decide (0 < (x.fr.length : Int)) = false := decide_eq_false (by rw [hfr]; simp)
        have d2 : decide (0 < x.fr.length) = false := decide_eq_false (by rw [hfr]; simp)
        have HS := Aside0.mk (show p = (x, 0, false) by rw [HP.out]; unfold stepD; rw [if_neg (by omega), if_pos rfl, hfr])
        clear hfr
        go_wp2_with (fail)
        refine bodyPost_ret (results_ctt rfl _ (put7 wc (w.heap.size + 1 + 1) (.int .i64 x.cap) (.int .i64 x.mod) (.int .i64 x.lab) (.int .i64 x.item) (.int .i64 x.last) (.slice Af x.fr.length cf) (.slice Aa x.ak.length ca)) (w.heap.size + 1 + 1) 29 #[.int .i64 x.cap, .int .i64 x.mod, .int .i64 x.lab, .int .i64 x.item, .int .i64 x.last, .slice Af x.fr.length cf, .slice Aa x.ak.length ca] (0, 0) _ rfl (put7_blk HL.out.out _ _ _ _ _ _ _) Try.underlying29 rfl (by kernel_rfl)) rfl ?_
        exact RefAt.fin HL.out (by rw [← HX.out, ← HP.out]; exact HS.out) _ _ _ _ _ _ _
      · have hn : 0 < x.fr.length := by rw [hfr]; simp
        have d1 : decide (0 < (x.fr.length : Int)) = true := decide_eq_true (by omega)
        have d2 : decide (0 < x.fr.length) = true := decide_eq_true hn
        have q1 : (1 : Int) ≤ (x.fr.length : Int) := by omega
        have hw64 : IntKind.i64.wrap 1 = 1 := rfl
        obtain ⟨ad, rfl, hx0, hx1⟩ := at_T46 (Kd.Q_reads' HL.out.fr).2.2 0 (by omega) (by omega)
        have hg0 : rd_T46 x.fr 0 = f := by rw [hfr]; rfl
        rw [hg0] at hx0 hx1
        rw [show ((0 : Int)).toNat = 0 from rfl, show 0 * 2 = 0 from rfl, Addr.add_zero'] at hx0 hx1
        obtain ⟨i0, hi0, _, hsz0, _⟩ := info_parts info46
        have hcut := cut_from (P := Try.prog) 27 46 .i64 Try.underlying27 hi0 2 hsz0 (some ad) x.fr.length cf 1 (by omega) q1
        have hq := Kd.Q_drop (k := (1 : Int).toNat) HL.out.fr (by omega)
        obtain ⟨A1, hA1⟩ : ∃ A1, A1 = (if cf = (1 : Int).toNat then (some ad) else ((some ad) : Option Addr).map (·.add ((1 : Int).toNat * 2))) := ⟨_, rfl⟩
        obtain ⟨c1, hc1⟩ : ∃ c1, c1 = cf - (1 : Int).toNat := ⟨_, rfl⟩
        have hr1 : x.fr.drop 1 = r := by rw [hfr]; rfl
        have hlr : x.fr.length - (1 : Int).toNat = r.length := by rw [hfr]; simp
        rw [show (1 : Int).toNat = 1 from rfl, hr1] at hq
        rw [show (1 : Int).toNat = 1 from rfl] at hA1 hc1 hlr
        rw [show (1 : Int).toNat = 1 from rfl, hlr, ← hA1, ← hc1] at hcut
        have HQ := Aside0.mk (show Kd.Q k46 46 wc w.heap.size (fun _ => True) (.slice A1 r.length c1) r by rw [hA1, hc1, ← hlr]; exact hq)
        have HFR := Aside0.mk hfr
        have hsz : w.heap.size < wc.heap.size := blk_lt HL.out.blk
        have hne1 : w.heap.size ≠ wc.heap.size := by omega
        have hlr2 : r.length ≤ 8 := by rw [hfr] at hl5; simp at hl5; omega
        clear hfr hq hA1 hc1 hr1 hlr hi0 hsz0 hg0 hw64
        have HL2 := Aside0.mk (HL.out.deq HQ.out (.cells #[.int .i64 f.f0, .int .i64 f.f1] 46) f.f0)
        obtain ⟨z, hz⟩ : ∃ z : DL, z = { x with fr := r, last := f.f0 } := ⟨_, rfl⟩
        rw [← hz] at HL2
        have HZ := Aside0.mk hz
        have hz1 : z.ak.length ≤ 8 := by rw [hz]; exact hl6
        have hzl : z.ak.length = x.ak.length := by rw [hz]
        have HZL := Aside0.mk hzl
        clear hz hzl
        have HBF := Aside0.mk (show (((wc.setCell ⟨w.heap.size, 5, none⟩ (.slice A1 r.length c1)).setCell ⟨w.heap.size, 4, none⟩ (.int .i64 f.f0)).alloc (.cells #[.int .i64 f.f0, .int .i64 f.f1] 46)).heap[wc.heap.size]? = some (.cells #[.int .i64 f.f0, .int .i64 f.f1] 46 (0, 0)) by
          have := blk_new ((wc.setCell ⟨w.heap.size, 5, none⟩ (.slice A1 r.length c1)).setCell ⟨w.heap.size, 4, none⟩ (.int .i64 f.f0)) (.cells #[.int .i64 f.f0, .int .i64 f.f1] 46)
          simpa using this)
        by_cases room : (x.ak.length : Int) < x.cap
        · have droom : decide ((x.ak.length : Int) < x.cap) = true := decide_eq_true room
          by_cases fresh : f.f0 = x.last
          · have dfr : (f.f0 != x.last) = false := by simp [fresh]
            have HFE := Aside0.mk fresh
            clear fresh
            go_wp2_with ((with_reducible refine gate_builtin (b := .append) (xs := #[.tmp 78, .tmp 81]) rfl ?_); refine Kd.Q_append (Kd.int .i64) (w0 := w) w.heap.size rfl (.tmp 78) (.tmp 81) 22 3 (.int .i64 0) 8 rfl Try.underlying22 info3 rfl (by decide) (by omega) (.slice Aa x.ak.length ca) z.ak f.f0 [.int .i64 f.f0] (fun _ => True) (fun _ => False) rfl (by first | rfl | (go_simp; done) | (go_simp; rfl)) rfl (fun _ hk => hk.elim) (fun _ _ => trivial) HL2.out.ak HL2.out.below HL2.out.sz (by omega) ?_; intro v1 w5 ho hb hg hat; obtain ⟨A2, c2, rfl, _⟩ := Kd.Q_slice ho; have hh := HL2.out.appA ho hb hg; rw [List.length_append, List.length_singleton]; have hb5 := hh.1; have hO5 := hh.2.1; have HL5 := Aside0.mk hh.2.2; rw [List.length_append, List.length_singleton] at HL5; have hBF := blk_grown HBF.out hg (Kd.Q_ne HL2.out.ak HBF.out (by decide)); clear ho hb hg hat hh; clear x0 fx0 y0 fy0 x1 fx1 y1 fy1 x2 fx2 y2 fy2 x3 fx3 y3 fy3 x4 fx4 y4 fy4 x5 fx5 y5 fy5 x6 fx6 y6 fy6 ev0 ev1; have z0 : w5.cell? ⟨w.heap.size, 0, none⟩ = some (.int .i64 z.cap) := (blk_cell hb5 0).trans rfl; have fz0 := blk_frozen hb5 0; have z1 : w5.cell? ⟨w.heap.size, 1, none⟩ = some (.int .i64 z.mod) := (blk_cell hb5 1).trans rfl; have fz1 := blk_frozen hb5 1; have z2 : w5.cell? ⟨w.heap.size, 2, none⟩ = some (.int .i64 z.lab) := (blk_cell hb5 2).trans rfl; have fz2 := blk_frozen hb5 2; have z3 : w5.cell? ⟨w.heap.size, 3, none⟩ = some (.int .i64 z.item) := (blk_cell hb5 3).trans rfl; have fz3 := blk_frozen hb5 3; have z4 : w5.cell? ⟨w.heap.size, 4, none⟩ = some (.int .i64 z.last) := (blk_cell hb5 4).trans rfl; have fz4 := blk_frozen hb5 4; have z5 : w5.cell? ⟨w.heap.size, 5, none⟩ = some (.slice A1 r.length c1) := (blk_cell hb5 5).trans rfl; have fz5 := blk_frozen hb5 5; have z6 : w5.cell? ⟨w.heap.size, 6, none⟩ = some (.slice Aa x.ak.length ca) := (blk_cell hb5 6).trans rfl; have fz6 := blk_frozen hb5 6; have y0 : w5.cell? ⟨w.heap.size + 1 + 1, 0, none⟩ = some (.int .i64 0) := (blk_cell hO5 0).trans rfl; have fy0 := blk_frozen hO5 0; have y1 : w5.cell? ⟨w.heap.size + 1 + 1, 1, none⟩ = some (.int .i64 0) := (blk_cell hO5 1).trans rfl; have fy1 := blk_frozen hO5 1; have y2 : w5.cell? ⟨w.heap.size + 1 + 1, 2, none⟩ = some (.int .i64 0) := (blk_cell hO5 2).trans rfl; have fy2 := blk_frozen hO5 2; have y3 : w5.cell? ⟨w.heap.size + 1 + 1, 3, none⟩ = some (.int .i64 0) := (blk_cell hO5 3).trans rfl; have fy3 := blk_frozen hO5 3; have y4 : w5.cell? ⟨w.heap.size + 1 + 1, 4, none⟩ = some (.int .i64 0) := (blk_cell hO5 4).trans rfl; have fy4 := blk_frozen hO5 4; have y5 : w5.cell? ⟨w.heap.size + 1 + 1, 5, none⟩ = some (.slice none 0 0) := (blk_cell hO5 5).trans rfl; have fy5 := blk_frozen hO5 5; have y6 : w5.cell? ⟨w.heap.size + 1 + 1, 6, none⟩ = some (.slice none 0 0) := (blk_cell hO5 6).trans rfl; have fy6 := blk_frozen hO5 6; have q0 : w5.cell? ⟨wc.heap.size, 0, none⟩ = some (.int .i64 f.f0) := (blk_cell hBF 0).trans rfl; have q1 : w5.cell? ⟨wc.heap.size, 1, none⟩ = some (.int .i64 f.f1) := (blk_cell hBF 1).trans rfl; have HBF5 := Aside0.mk (blk_far (p := ⟨w.heap.size, 6, none⟩) hBF (by show wc.heap.size ≠ w.heap.size; omega) (.slice A2 (z.ak.length + 1) c2)); clear hb5 hO5 hBF)
            have HS := Aside0.mk (show p = ({ z with ak := z.ak ++ [f.f0] }, 0, false) by rw [HP.out]; unfold stepD; rw [if_neg (by omega), if_pos rfl, HFR.out]; dsimp only; rw [if_pos room, if_pos HFE.out, HZ.out]; simp [HFE.out])
            refine bodyPost_ret (results_ctt rfl _ (put7 (w5.setCell ⟨w.heap.size, 6, none⟩ (.slice A2 (z.ak.length + 1) c2)) (w.heap.size + 1 + 1) (.int .i64 z.cap) (.int .i64 z.mod) (.int .i64 z.lab) (.int .i64 z.item) (.int .i64 z.last) (.slice A1 r.length c1) (.slice A2 (z.ak.length + 1) c2)) (w.heap.size + 1 + 1) 29 #[.int .i64 z.cap, .int .i64 z.mod, .int .i64 z.lab, .int .i64 z.item, .int .i64 z.last, .slice A1 r.length c1, .slice A2 (z.ak.length + 1) c2] (0, 0) _ rfl (put7_blk HL5.out.out _ _ _ _ _ _ _) Try.underlying29 rfl (by kernel_rfl)) rfl ?_
            exact RefAt.fin HL5.out (by rw [← HX.out, ← HP.out]; exact HS.out) _ _ _ _ _ _ _
          · have dfr : (f.f0 != x.last) = true := bne_iff_ne.mpr fresh
            have HFE := Aside0.mk fresh
            clear fresh
            go_wp2_with ((with_reducible refine gate_builtin (b := .append) (xs := #[.tmp 78, .tmp 81]) rfl ?_); refine Kd.Q_append (Kd.int .i64) (w0 := w) w.heap.size rfl (.tmp 78) (.tmp 81) 22 3 (.int .i64 0) 8 rfl Try.underlying22 info3 rfl (by decide) (by omega) (.slice Aa x.ak.length ca) z.ak f.f0 [.int .i64 f.f0] (fun _ => True) (fun _ => False) rfl (by first | rfl | (go_simp; done) | (go_simp; rfl)) rfl (fun _ hk => hk.elim) (fun _ _ => trivial) HL2.out.ak HL2.out.below HL2.out.sz (by omega) ?_; intro v1 w5 ho hb hg hat; obtain ⟨A2, c2, rfl, _⟩ := Kd.Q_slice ho; have hh := HL2.out.appA ho hb hg; rw [List.length_append, List.length_singleton]; have hb5 := hh.1; have hO5 := hh.2.1; have HL5 := Aside0.mk hh.2.2; rw [List.length_append, List.length_singleton] at HL5; have hBF := blk_grown HBF.out hg (Kd.Q_ne HL2.out.ak HBF.out (by decide)); clear ho hb hg hat hh; clear x0 fx0 y0 fy0 x1 fx1 y1 fy1 x2 fx2 y2 fy2 x3 fx3 y3 fy3 x4 fx4 y4 fy4 x5 fx5 y5 fy5 x6 fx6 y6 fy6 ev0 ev1; have z0 : w5.cell? ⟨w.heap.size, 0, none⟩ = some (.int .i64 z.cap) := (blk_cell hb5 0).trans rfl; have fz0 := blk_frozen hb5 0; have z1 : w5.cell? ⟨w.heap.size, 1, none⟩ = some (.int .i64 z.mod) := (blk_cell hb5 1).trans rfl; have fz1 := blk_frozen hb5 1; have z2 : w5.cell? ⟨w.heap.size, 2, none⟩ = some (.int .i64 z.lab) := (blk_cell hb5 2).trans rfl; have fz2 := blk_frozen hb5 2; have z3 : w5.cell? ⟨w.heap.size, 3, none⟩ = some (.int .i64 z.item) := (blk_cell hb5 3).trans rfl; have fz3 := blk_frozen hb5 3; have z4 : w5.cell? ⟨w.heap.size, 4, none⟩ = some (.int .i64 z.last) := (blk_cell hb5 4).trans rfl; have fz4 := blk_frozen hb5 4; have z5 : w5.cell? ⟨w.heap.size, 5, none⟩ = some (.slice A1 r.length c1) := (blk_cell hb5 5).trans rfl; have fz5 := blk_frozen hb5 5; have z6 : w5.cell? ⟨w.heap.size, 6, none⟩ = some (.slice Aa x.ak.length ca) := (blk_cell hb5 6).trans rfl; have fz6 := blk_frozen hb5 6; have y0 : w5.cell? ⟨w.heap.size + 1 + 1, 0, none⟩ = some (.int .i64 0) := (blk_cell hO5 0).trans rfl; have fy0 := blk_frozen hO5 0; have y1 : w5.cell? ⟨w.heap.size + 1 + 1, 1, none⟩ = some (.int .i64 0) := (blk_cell hO5 1).trans rfl; have fy1 := blk_frozen hO5 1; have y2 : w5.cell? ⟨w.heap.size + 1 + 1, 2, none⟩ = some (.int .i64 0) := (blk_cell hO5 2).trans rfl; have fy2 := blk_frozen hO5 2; have y3 : w5.cell? ⟨w.heap.size + 1 + 1, 3, none⟩ = some (.int .i64 0) := (blk_cell hO5 3).trans rfl; have fy3 := blk_frozen hO5 3; have y4 : w5.cell? ⟨w.heap.size + 1 + 1, 4, none⟩ = some (.int .i64 0) := (blk_cell hO5 4).trans rfl; have fy4 := blk_frozen hO5 4; have y5 : w5.cell? ⟨w.heap.size + 1 + 1, 5, none⟩ = some (.slice none 0 0) := (blk_cell hO5 5).trans rfl; have fy5 := blk_frozen hO5 5; have y6 : w5.cell? ⟨w.heap.size + 1 + 1, 6, none⟩ = some (.slice none 0 0) := (blk_cell hO5 6).trans rfl; have fy6 := blk_frozen hO5 6; have q0 : w5.cell? ⟨wc.heap.size, 0, none⟩ = some (.int .i64 f.f0) := (blk_cell hBF 0).trans rfl; have q1 : w5.cell? ⟨wc.heap.size, 1, none⟩ = some (.int .i64 f.f1) := (blk_cell hBF 1).trans rfl; have HBF5 := Aside0.mk (blk_far (p := ⟨w.heap.size, 6, none⟩) hBF (by show wc.heap.size ≠ w.heap.size; omega) (.slice A2 (z.ak.length + 1) c2)); clear hb5 hO5 hBF)
            have HS := Aside0.mk (show p = ({ z with ak := z.ak ++ [f.f0] }, f.f1, true) by rw [HP.out]; unfold stepD; rw [if_neg (by omega), if_pos rfl, HFR.out]; dsimp only; rw [if_pos room, if_neg HFE.out, HZ.out]; simp [HFE.out])
            generalize (w5.setCell ⟨w.heap.size, 6, none⟩ (.slice A2 (z.ak.length + 1) c2)) = W6 at HL5 HBF5 ⊢
            clear z0 fz0 y0 fy0 z1 fz1 y1 fy1 z2 fz2 y2 fy2 z3 fz3 y3 fy3 z4 fz4 y4 fy4 z5 fz5 y5 fy5 z6 fz6 y6 fy6 q0 q1
            have x0 : W6.cell? ⟨w.heap.size, 0, none⟩ = some (.int .i64 z.cap) := (blk_cell HL5.out.blk 0).trans rfl
            have fx0 := blk_frozen HL5.out.blk 0
            have x1 : W6.cell? ⟨w.heap.size, 1, none⟩ = some (.int .i64 z.mod) := (blk_cell HL5.out.blk 1).trans rfl
            have fx1 := blk_frozen HL5.out.blk 1
            have x2 : W6.cell? ⟨w.heap.size, 2, none⟩ = some (.int .i64 z.lab) := (blk_cell HL5.out.blk 2).trans rfl
            have fx2 := blk_frozen HL5.out.blk 2
            have x3 : W6.cell? ⟨w.heap.size, 3, none⟩ = some (.int .i64 z.item) := (blk_cell HL5.out.blk 3).trans rfl
            have fx3 := blk_frozen HL5.out.blk 3
            have x4 : W6.cell? ⟨w.heap.size, 4, none⟩ = some (.int .i64 z.last) := (blk_cell HL5.out.blk 4).trans rfl
            have fx4 := blk_frozen HL5.out.blk 4
            have x5 : W6.cell? ⟨w.heap.size, 5, none⟩ = some (.slice A1 r.length c1) := (blk_cell HL5.out.blk 5).trans rfl
            have fx5 := blk_frozen HL5.out.blk 5
            have x6 : W6.cell? ⟨w.heap.size, 6, none⟩ = some (.slice A2 (z.ak.length + 1) c2) := (blk_cell HL5.out.blk 6).trans rfl
            have fx6 := blk_frozen HL5.out.blk 6
            have y0 : W6.cell? ⟨w.heap.size + 1 + 1, 0, none⟩ = some (.int .i64 0) := (blk_cell HL5.out.out 0).trans rfl
            have fy0 := blk_frozen HL5.out.out 0
            have y1 : W6.cell? ⟨w.heap.size + 1 + 1, 1, none⟩ = some (.int .i64 0) := (blk_cell HL5.out.out 1).trans rfl
            have fy1 := blk_frozen HL5.out.out 1
            have y2 : W6.cell? ⟨w.heap.size + 1 + 1, 2, none⟩ = some (.int .i64 0) := (blk_cell HL5.out.out 2).trans rfl
            have fy2 := blk_frozen HL5.out.out 2
            have y3 : W6.cell? ⟨w.heap.size + 1 + 1, 3, none⟩ = some (.int .i64 0) := (blk_cell HL5.out.out 3).trans rfl
            have fy3 := blk_frozen HL5.out.out 3
            have y4 : W6.cell? ⟨w.heap.size + 1 + 1, 4, none⟩ = some (.int .i64 0) := (blk_cell HL5.out.out 4).trans rfl
            have fy4 := blk_frozen HL5.out.out 4
            have y5 : W6.cell? ⟨w.heap.size + 1 + 1, 5, none⟩ = some (.slice none 0 0) := (blk_cell HL5.out.out 5).trans rfl
            have fy5 := blk_frozen HL5.out.out 5
            have y6 : W6.cell? ⟨w.heap.size + 1 + 1, 6, none⟩ = some (.slice none 0 0) := (blk_cell HL5.out.out 6).trans rfl
            have fy6 := blk_frozen HL5.out.out 6
            have q0 : W6.cell? ⟨wc.heap.size, 0, none⟩ = some (.int .i64 f.f0) := (blk_cell HBF5.out 0).trans rfl
            have q1 : W6.cell? ⟨wc.heap.size, 1, none⟩ = some (.int .i64 f.f1) := (blk_cell HBF5.out 1).trans rfl
            go_upto_region 14 with (fail)
            have HD := Aside0.mk (HL5.out.step (below_drew (Below.refl _ _)))
            have HBD := Aside0.mk (blk_drew HBF5.out)
            refine start_ (n := 6) (S := fun w' => w'.cell? ⟨w.heap.size, 0, none⟩ = some (.int .i64 z.cap) ∧ w'.cell? ⟨w.heap.size, 1, none⟩ = some (.int .i64 z.mod) ∧ w'.cell? ⟨w.heap.size, 2, none⟩ = some (.int .i64 z.lab) ∧ w'.cell? ⟨w.heap.size, 3, none⟩ = some (.int .i64 z.item) ∧ w'.cell? ⟨w.heap.size, 4, none⟩ = some (.int .i64 z.last) ∧ w'.cell? ⟨w.heap.size, 5, none⟩ = some (.slice A1 r.length c1) ∧ w'.cell? ⟨w.heap.size, 6, none⟩ = some (.slice A2 (z.ak.length + 1) c2) ∧ w'.cell? ⟨wc.heap.size, 0, none⟩ = some (.int .i64 f.f0) ∧ w'.cell? ⟨wc.heap.size, 1, none⟩ = some (.int .i64 f.f1)) (ds := []) #[false, false, false, false, false, false] (by kernel_rfl) rfl rfl ⟨(blk_cell HL5.out.blk 0).trans rfl, (blk_cell HL5.out.blk 1).trans rfl, (blk_cell HL5.out.blk 2).trans rfl, (blk_cell HL5.out.blk 3).trans rfl, (blk_cell HL5.out.blk 4).trans rfl, (blk_cell HL5.out.blk 5).trans rfl, (blk_cell HL5.out.blk 6).trans rfl, (blk_cell HBF5.out 0).trans rfl, (blk_cell HBF5.out 1).trans rfl⟩ (fun hHeld => ?_)
            generalize W6.drew = W7 at HD HBD hHeld ⊢
            refine pure_ (i := 1) (N := some 86) (v := ?_) (a' := ?_) #[false, true, false, false, false, false] rfl rfl (by kernel_rfl) (fun _ _ _ h => h) (Or.inl ⟨by rfl, ?_⟩) ?_ ?_
            rotate_left
            · intro w'
              go_simp
              with_reducible rfl
            rotate_left
            · simp only [Act.put, List.setIfInBounds_toArray, List.set_cons_zero, List.set_cons_succ, i64_w, i32_w]
              rfl
            refine take_ (i := 0) (N := some 85) (v := ?_) (a' := ?_) #[true, true, false, false, false, false] rfl rfl (by kernel_rfl) (fun _ _ _ h => h) (Or.inl ⟨by rfl, ?_⟩) hHeld ?_ ?_
            rotate_left
            · rintro w' ⟨s0, s1, s2, s3, s4, s5, s6, s7, s8⟩
              go_simp
              with_reducible rfl
            rotate_left
            · simp only [Act.put, List.setIfInBounds_toArray, List.set_cons_zero, List.set_cons_succ, i64_w, i32_w]
              rfl
            refine take_ (i := 2) (N := some 87) (v := ?_) (a' := ?_) #[true, true, true, false, false, false] rfl rfl (by kernel_rfl) (fun _ _ _ h => h) (Or.inl ⟨by rfl, ?_⟩) hHeld ?_ ?_
            rotate_left
            · rintro w' ⟨s0, s1, s2, s3, s4, s5, s6, s7, s8⟩
              go_simp
              with_reducible rfl
            rotate_left
            · simp only [Act.put, List.setIfInBounds_toArray, List.set_cons_zero, List.set_cons_succ, i64_w, i32_w]
              rfl
            clear x0 fx0 y0 fy0 x1 fx1 y1 fy1 x2 fx2 y2 fy2 x3 fx3 y3 fy3 x4 fx4 y4 fy4 x5 fx5 y5 fy5 x6 fx6 y6 fy6 q0 q1
            have y0 : W7.cell? ⟨w.heap.size + 1 + 1, 0, none⟩ = some (.int .i64 0) := (blk_cell HD.out.out 0).trans rfl
            have fy0 := blk_frozen HD.out.out 0
            have y1 : W7.cell? ⟨w.heap.size + 1 + 1, 1, none⟩ = some (.int .i64 0) := (blk_cell HD.out.out 1).trans rfl
            have fy1 := blk_frozen HD.out.out 1
            have y2 : W7.cell? ⟨w.heap.size + 1 + 1, 2, none⟩ = some (.int .i64 0) := (blk_cell HD.out.out 2).trans rfl
            have fy2 := blk_frozen HD.out.out 2
            have y3 : W7.cell? ⟨w.heap.size + 1 + 1, 3, none⟩ = some (.int .i64 0) := (blk_cell HD.out.out 3).trans rfl
            have fy3 := blk_frozen HD.out.out 3
            have y4 : W7.cell? ⟨w.heap.size + 1 + 1, 4, none⟩ = some (.int .i64 0) := (blk_cell HD.out.out 4).trans rfl
            have fy4 := blk_frozen HD.out.out 4
            have y5 : W7.cell? ⟨w.heap.size + 1 + 1, 5, none⟩ = some (.slice none 0 0) := (blk_cell HD.out.out 5).trans rfl
            have fy5 := blk_frozen HD.out.out 5
            have y6 : W7.cell? ⟨w.heap.size + 1 + 1, 6, none⟩ = some (.slice none 0 0) := (blk_cell HD.out.out 6).trans rfl
            have fy6 := blk_frozen HD.out.out 6
            have HNB := HBD.out
            have hne2 : w.heap.size ≠ w.heap.size + 1 + 1 := by omega
            have hne3 : wc.heap.size ≠ w.heap.size + 1 + 1 := by have := blk_lt HL.out.out; omega
            clear HNB
            refine one_ (i := 3) (N := none) #[true, true, true, true, false, false] rfl rfl (by kernel_rfl) (by decide) (fun K hK => ?_)
            refine skip_ (w1 := ?_) (by rfl) rfl ?_ ?_
            rotate_left
            · go_simp
              rfl
            refine hK.out _ _ ⟨(blk_cell ((put7_far hne2 (.int .i64 z.cap) (.int .i64 z.mod) (.int .i64 z.lab) (.int .i64 z.item) (.int .i64 z.last) (.slice A1 r.length c1) (.slice A2 (z.ak.length + 1) c2)).trans HD.out.blk) 0).trans rfl, (blk_cell ((put7_far hne2 (.int .i64 z.cap) (.int .i64 z.mod) (.int .i64 z.lab) (.int .i64 z.item) (.int .i64 z.last) (.slice A1 r.length c1) (.slice A2 (z.ak.length + 1) c2)).trans HD.out.blk) 1).trans rfl, (blk_cell ((put7_far hne2 (.int .i64 z.cap) (.int .i64 z.mod) (.int .i64 z.lab) (.int .i64 z.item) (.int .i64 z.last) (.slice A1 r.length c1) (.slice A2 (z.ak.length + 1) c2)).trans HD.out.blk) 2).trans rfl, (blk_cell ((put7_far hne2 (.int .i64 z.cap) (.int .i64 z.mod) (.int .i64 z.lab) (.int .i64 z.item) (.int .i64 z.last) (.slice A1 r.length c1) (.slice A2 (z.ak.length + 1) c2)).trans HD.out.blk) 3).trans rfl, (blk_cell ((put7_far hne2 (.int .i64 z.cap) (.int .i64 z.mod) (.int .i64 z.lab) (.int .i64 z.item) (.int .i64 z.last) (.slice A1 r.length c1) (.slice A2 (z.ak.length + 1) c2)).trans HD.out.blk) 4).trans rfl, (blk_cell ((put7_far hne2 (.int .i64 z.cap) (.int .i64 z.mod) (.int .i64 z.lab) (.int .i64 z.item) (.int .i64 z.last) (.slice A1 r.length c1) (.slice A2 (z.ak.length + 1) c2)).trans HD.out.blk) 5).trans rfl, (blk_cell ((put7_far hne2 (.int .i64 z.cap) (.int .i64 z.mod) (.int .i64 z.lab) (.int .i64 z.item) (.int .i64 z.last) (.slice A1 r.length c1) (.slice A2 (z.ak.length + 1) c2)).trans HD.out.blk) 6).trans rfl, (blk_cell ((put7_far hne3 (.int .i64 z.cap) (.int .i64 z.mod) (.int .i64 z.lab) (.int .i64 z.item) (.int .i64 z.last) (.slice A1 r.length c1) (.slice A2 (z.ak.length + 1) c2)).trans HBD.out) 0).trans rfl, (blk_cell ((put7_far hne3 (.int .i64 z.cap) (.int .i64 z.mod) (.int .i64 z.lab) (.int .i64 z.item) (.int .i64 z.last) (.slice A1 r.length c1) (.slice A2 (z.ak.length + 1) c2)).trans HBD.out) 1).trans rfl⟩ (fun hHeld => ?_)
            clear hK K
            refine pure_ (i := 4) (N := some 5) (v := ?_) (a' := ?_) #[true, true, true, true, true, false] rfl rfl (by kernel_rfl) (fun _ _ _ h => h) (Or.inl ⟨by rfl, ?_⟩) ?_ ?_
            rotate_left
            · intro w'
              go_simp
              with_reducible rfl
            rotate_left
            · simp only [Act.put, List.setIfInBounds_toArray, List.set_cons_zero, List.set_cons_succ, i64_w, i32_w]
              rfl
            refine pure_ (i := 5) (N := some 6) (v := ?_) (a' := ?_) #[true, true, true, true, true, true] rfl rfl (by kernel_rfl) (fun _ _ _ h => h) (Or.inl ⟨by rfl, ?_⟩) ?_ ?_
            rotate_left
            · intro w'
              go_simp
              with_reducible rfl
            rotate_left
            · simp only [Act.put, List.setIfInBounds_toArray, List.set_cons_zero, List.set_cons_succ, i64_w, i32_w]
              rfl
            refine done_ (by kernel_rfl) ?_
            try go_wp2
            refine bodyPost_ret (results_ctt rfl _ (put7 W7 (w.heap.size + 1 + 1) (.int .i64 z.cap) (.int .i64 z.mod) (.int .i64 z.lab) (.int .i64 z.item) (.int .i64 z.last) (.slice A1 r.length c1) (.slice A2 (z.ak.length + 1) c2)) (w.heap.size + 1 + 1) 29 #[.int .i64 z.cap, .int .i64 z.mod, .int .i64 z.lab, .int .i64 z.item, .int .i64 z.last, .slice A1 r.length c1, .slice A2 (z.ak.length + 1) c2] (0, 0) _ rfl (put7_blk HD.out.out _ _ _ _ _ _ _) Try.underlying29 rfl (by kernel_rfl)) rfl ?_
            exact RefAt.fin HD.out (by rw [← HX.out, ← HP.out]; exact HS.out) _ _ _ _ _ _ _
        · have droom : decide ((x.ak.length : Int) < x.cap) = false := decide_eq_false room
          by_cases fresh : f.f0 = x.last
          · have dfr : (f.f0 != x.last) = false := by simp [fresh]
            have HFE := Aside0.mk fresh
            clear fresh
            go_upto_region 13 with (fail)
            have HS := Aside0.mk (show p = (z, 0, false) by rw [HP.out]; unfold stepD; rw [if_neg (by omega), if_pos rfl, HFR.out]; dsimp only; rw [if_neg room, if_pos HFE.out, HZ.out]; simp [HFE.out])
            generalize (((wc.setCell ⟨w.heap.size, 5, none⟩ (.slice A1 r.length c1)).setCell ⟨w.heap.size, 4, none⟩ (.int .i64 f.f0)).alloc (.cells #[.int .i64 f.f0, .int .i64 f.f1] 46)) = W6 at HL2 HBF ⊢
            clear x0 fx0 y0 fy0 x1 fx1 y1 fy1 x2 fx2 y2 fy2 x3 fx3 y3 fy3 x4 fx4 y4 fy4 x5 fx5 y5 fy5 x6 fx6 y6 fy6 ev0 ev1
            have x0 : W6.cell? ⟨w.heap.size, 0, none⟩ = some (.int .i64 z.cap) := (blk_cell HL2.out.blk 0).trans rfl
            have fx0 := blk_frozen HL2.out.blk 0
            have x1 : W6.cell? ⟨w.heap.size, 1, none⟩ = some (.int .i64 z.mod) := (blk_cell HL2.out.blk 1).trans rfl
            have fx1 := blk_frozen HL2.out.blk 1
            have x2 : W6.cell? ⟨w.heap.size, 2, none⟩ = some (.int .i64 z.lab) := (blk_cell HL2.out.blk 2).trans rfl
            have fx2 := blk_frozen HL2.out.blk 2
            have x3 : W6.cell? ⟨w.heap.size, 3, none⟩ = some (.int .i64 z.item) := (blk_cell HL2.out.blk 3).trans rfl
            have fx3 := blk_frozen HL2.out.blk 3
            have x4 : W6.cell? ⟨w.heap.size, 4, none⟩ = some (.int .i64 z.last) := (blk_cell HL2.out.blk 4).trans rfl
            have fx4 := blk_frozen HL2.out.blk 4
            have x5 : W6.cell? ⟨w.heap.size, 5, none⟩ = some (.slice A1 r.length c1) := (blk_cell HL2.out.blk 5).trans rfl
            have fx5 := blk_frozen HL2.out.blk 5
            have x6 : W6.cell? ⟨w.heap.size, 6, none⟩ = some (.slice Aa x.ak.length ca) := (blk_cell HL2.out.blk 6).trans rfl
            have fx6 := blk_frozen HL2.out.blk 6
            have y0 : W6.cell? ⟨w.heap.size + 1 + 1, 0, none⟩ = some (.int .i64 0) := (blk_cell HL2.out.out 0).trans rfl
            have fy0 := blk_frozen HL2.out.out 0
            have y1 : W6.cell? ⟨w.heap.size + 1 + 1, 1, none⟩ = some (.int .i64 0) := (blk_cell HL2.out.out 1).trans rfl
            have fy1 := blk_frozen HL2.out.out 1
            have y2 : W6.cell? ⟨w.heap.size + 1 + 1, 2, none⟩ = some (.int .i64 0) := (blk_cell HL2.out.out 2).trans rfl
            have fy2 := blk_frozen HL2.out.out 2
            have y3 : W6.cell? ⟨w.heap.size + 1 + 1, 3, none⟩ = some (.int .i64 0) := (blk_cell HL2.out.out 3).trans rfl
            have fy3 := blk_frozen HL2.out.out 3
            have y4 : W6.cell? ⟨w.heap.size + 1 + 1, 4, none⟩ = some (.int .i64 0) := (blk_cell HL2.out.out 4).trans rfl
            have fy4 := blk_frozen HL2.out.out 4
            have y5 : W6.cell? ⟨w.heap.size + 1 + 1, 5, none⟩ = some (.slice none 0 0) := (blk_cell HL2.out.out 5).trans rfl
            have fy5 := blk_frozen HL2.out.out 5
            have y6 : W6.cell? ⟨w.heap.size + 1 + 1, 6, none⟩ = some (.slice none 0 0) := (blk_cell HL2.out.out 6).trans rfl
            have fy6 := blk_frozen HL2.out.out 6
            go_wp2_with (fail)
            refine bodyPost_ret (results_ctt rfl _ (put7 W6 (w.heap.size + 1 + 1) (.int .i64 z.cap) (.int .i64 z.mod) (.int .i64 z.lab) (.int .i64 z.item) (.int .i64 z.last) (.slice A1 r.length c1) (.slice Aa x.ak.length ca)) (w.heap.size + 1 + 1) 29 #[.int .i64 z.cap, .int .i64 z.mod, .int .i64 z.lab, .int .i64 z.item, .int .i64 z.last, .slice A1 r.length c1, .slice Aa x.ak.length ca] (0, 0) _ rfl (put7_blk HL2.out.out _ _ _ _ _ _ _) Try.underlying29 rfl (by kernel_rfl)) rfl ?_
            exact RefAt.fin HL2.out (by rw [← HX.out, ← HP.out]; exact HS.out) _ _ _ _ _ _ _
          · have dfr : (f.f0 != x.last) = true := bne_iff_ne.mpr fresh
            have HFE := Aside0.mk fresh
            clear fresh
            go_upto_region 13 with (fail)
            have HS := Aside0.mk (show p = (z, f.f1, true) by rw [HP.out]; unfold stepD; rw [if_neg (by omega), if_pos rfl, HFR.out]; dsimp only; rw [if_neg room, if_neg HFE.out, HZ.out]; simp [HFE.out])
            generalize (((wc.setCell ⟨w.heap.size, 5, none⟩ (.slice A1 r.length c1)).setCell ⟨w.heap.size, 4, none⟩ (.int .i64 f.f0)).alloc (.cells #[.int .i64 f.f0, .int .i64 f.f1] 46)) = W6 at HL2 HBF ⊢
            clear x0 fx0 y0 fy0 x1 fx1 y1 fy1 x2 fx2 y2 fy2 x3 fx3 y3 fy3 x4 fx4 y4 fy4 x5 fx5 y5 fy5 x6 fx6 y6 fy6 ev0 ev1
            have x0 : W6.cell? ⟨w.heap.size, 0, none⟩ = some (.int .i64 z.cap) := (blk_cell HL2.out.blk 0).trans rfl
            have fx0 := blk_frozen HL2.out.blk 0
            have x1 : W6.cell? ⟨w.heap.size, 1, none⟩ = some (.int .i64 z.mod) := (blk_cell HL2.out.blk 1).trans rfl
            have fx1 := blk_frozen HL2.out.blk 1
            have x2 : W6.cell? ⟨w.heap.size, 2, none⟩ = some (.int .i64 z.lab) := (blk_cell HL2.out.blk 2).trans rfl
            have fx2 := blk_frozen HL2.out.blk 2
            have x3 : W6.cell? ⟨w.heap.size, 3, none⟩ = some (.int .i64 z.item) := (blk_cell HL2.out.blk 3).trans rfl
            have fx3 := blk_frozen HL2.out.blk 3
            have x4 : W6.cell? ⟨w.heap.size, 4, none⟩ = some (.int .i64 z.last) := (blk_cell HL2.out.blk 4).trans rfl
            have fx4 := blk_frozen HL2.out.blk 4
            have x5 : W6.cell? ⟨w.heap.size, 5, none⟩ = some (.slice A1 r.length c1) := (blk_cell HL2.out.blk 5).trans rfl
            have fx5 := blk_frozen HL2.out.blk 5
            have x6 : W6.cell? ⟨w.heap.size, 6, none⟩ = some (.slice Aa x.ak.length ca) := (blk_cell HL2.out.blk 6).trans rfl
            have fx6 := blk_frozen HL2.out.blk 6
            have y0 : W6.cell? ⟨w.heap.size + 1 + 1, 0, none⟩ = some (.int .i64 0) := (blk_cell HL2.out.out 0).trans rfl
            have fy0 := blk_frozen HL2.out.out 0
            have y1 : W6.cell? ⟨w.heap.size + 1 + 1, 1, none⟩ = some (.int .i64 0) := (blk_cell HL2.out.out 1).trans rfl
            have fy1 := blk_frozen HL2.out.out 1
            have y2 : W6.cell? ⟨w.heap.size + 1 + 1, 2, none⟩ = some (.int .i64 0) := (blk_cell HL2.out.out 2).trans rfl
            have fy2 := blk_frozen HL2.out.out 2
            have y3 : W6.cell? ⟨w.heap.size + 1 + 1, 3, none⟩ = some (.int .i64 0) := (blk_cell HL2.out.out 3).trans rfl
            have fy3 := blk_frozen HL2.out.out 3
            have y4 : W6.cell? ⟨w.heap.size + 1 + 1, 4, none⟩ = some (.int .i64 0) := (blk_cell HL2.out.out 4).trans rfl
            have fy4 := blk_frozen HL2.out.out 4
            have y5 : W6.cell? ⟨w.heap.size + 1 + 1, 5, none⟩ = some (.slice none 0 0) := (blk_cell HL2.out.out 5).trans rfl
            have fy5 := blk_frozen HL2.out.out 5
            have y6 : W6.cell? ⟨w.heap.size + 1 + 1, 6, none⟩ = some (.slice none 0 0) := (blk_cell HL2.out.out 6).trans rfl
            have fy6 := blk_frozen HL2.out.out 6
            have q0 : W6.cell? ⟨wc.heap.size, 0, none⟩ = some (.int .i64 f.f0) := (blk_cell HBF.out 0).trans rfl
            have q1 : W6.cell? ⟨wc.heap.size, 1, none⟩ = some (.int .i64 f.f1) := (blk_cell HBF.out 1).trans rfl
            go_upto_region 14 with (fail)
            have HD := Aside0.mk (HL2.out.step (below_drew (Below.refl _ _)))
            have HBD := Aside0.mk (blk_drew HBF.out)
            refine start_ (n := 6) (S := fun w' => w'.cell? ⟨w.heap.size, 0, none⟩ = some (.int .i64 z.cap) ∧ w'.cell? ⟨w.heap.size, 1, none⟩ = some (.int .i64 z.mod) ∧ w'.cell? ⟨w.heap.size, 2, none⟩ = some (.int .i64 z.lab) ∧ w'.cell? ⟨w.heap.size, 3, none⟩ = some (.int .i64 z.item) ∧ w'.cell? ⟨w.heap.size, 4, none⟩ = some (.int .i64 z.last) ∧ w'.cell? ⟨w.heap.size, 5, none⟩ = some (.slice A1 r.length c1) ∧ w'.cell? ⟨w.heap.size, 6, none⟩ = some (.slice Aa x.ak.length ca) ∧ w'.cell? ⟨wc.heap.size, 0, none⟩ = some (.int .i64 f.f0) ∧ w'.cell? ⟨wc.heap.size, 1, none⟩ = some (.int .i64 f.f1)) (ds := []) #[false, false, false, false, false, false] (by kernel_rfl) rfl rfl ⟨(blk_cell HL2.out.blk 0).trans rfl, (blk_cell HL2.out.blk 1).trans rfl, (blk_cell HL2.out.blk 2).trans rfl, (blk_cell HL2.out.blk 3).trans rfl, (blk_cell HL2.out.blk 4).trans rfl, (blk_cell HL2.out.blk 5).trans rfl, (blk_cell HL2.out.blk 6).trans rfl, (blk_cell HBF.out 0).trans rfl, (blk_cell HBF.out 1).trans rfl⟩ (fun hHeld => ?_)
            generalize W6.drew = W7 at HD HBD hHeld ⊢
            refine pure_ (i := 1) (N := some 86) (v := ?_) (a' := ?_) #[false, true, false, false, false, false] rfl rfl (by kernel_rfl) (fun _ _ _ h => h) (Or.inl ⟨by rfl, ?_⟩) ?_ ?_
            rotate_left
            · intro w'
              go_simp
              with_reducible rfl
            rotate_left
            · simp only [Act.put, List.setIfInBounds_toArray, List.set_cons_zero, List.set_cons_succ, i64_w, i32_w]
              rfl
            refine take_ (i := 0) (N := some 85) (v := ?_) (a' := ?_) #[true, true, false, false, false, false] rfl rfl (by kernel_rfl) (fun _ _ _ h => h) (Or.inl ⟨by rfl, ?_⟩) hHeld ?_ ?_
            rotate_left
            · rintro w' ⟨s0, s1, s2, s3, s4, s5, s6, s7, s8⟩
              go_simp
              with_reducible rfl
            rotate_left
            · simp only [Act.put, List.setIfInBounds_toArray, List.set_cons_zero, List.set_cons_succ, i64_w, i32_w]
              rfl
            refine take_ (i := 2) (N := some 87) (v := ?_) (a' := ?_) #[true, true, true, false, false, false] rfl rfl (by kernel_rfl) (fun _ _ _ h => h) (Or.inl ⟨by rfl, ?_⟩) hHeld ?_ ?_
            rotate_left
            · rintro w' ⟨s0, s1, s2, s3, s4, s5, s6, s7, s8⟩
              go_simp
              with_reducible rfl
            rotate_left
            · simp only [Act.put, List.setIfInBounds_toArray, List.set_cons_zero, List.set_cons_succ, i64_w, i32_w]
              rfl
            clear x0 fx0 y0 fy0 x1 fx1 y1 fy1 x2 fx2 y2 fy2 x3 fx3 y3 fy3 x4 fx4 y4 fy4 x5 fx5 y5 fy5 x6 fx6 y6 fy6 q0 q1
            have y0 : W7.cell? ⟨w.heap.size + 1 + 1, 0, none⟩ = some (.int .i64 0) := (blk_cell HD.out.out 0).trans rfl
            have fy0 := blk_frozen HD.out.out 0
            have y1 : W7.cell? ⟨w.heap.size + 1 + 1, 1, none⟩ = some (.int .i64 0) := (blk_cell HD.out.out 1).trans rfl
            have fy1 := blk_frozen HD.out.out 1
            have y2 : W7.cell? ⟨w.heap.size + 1 + 1, 2, none⟩ = some (.int .i64 0) := (blk_cell HD.out.out 2).trans rfl
            have fy2 := blk_frozen HD.out.out 2
            have y3 : W7.cell? ⟨w.heap.size + 1 + 1, 3, none⟩ = some (.int .i64 0) := (blk_cell HD.out.out 3).trans rfl
            have fy3 := blk_frozen HD.out.out 3
            have y4 : W7.cell? ⟨w.heap.size + 1 + 1, 4, none⟩ = some (.int .i64 0) := (blk_cell HD.out.out 4).trans rfl
            have fy4 := blk_frozen HD.out.out 4
            have y5 : W7.cell? ⟨w.heap.size + 1 + 1, 5, none⟩ = some (.slice none 0 0) := (blk_cell HD.out.out 5).trans rfl
            have fy5 := blk_frozen HD.out.out 5
            have y6 : W7.cell? ⟨w.heap.size + 1 + 1, 6, none⟩ = some (.slice none 0 0) := (blk_cell HD.out.out 6).trans rfl
            have fy6 := blk_frozen HD.out.out 6
            have HNB := HBD.out
            have hne2 : w.heap.size ≠ w.heap.size + 1 + 1 := by omega
            have hne3 : wc.heap.size ≠ w.heap.size + 1 + 1 := by have := blk_lt HL.out.out; omega
            clear HNB
            refine one_ (i := 3) (N := none) #[true, true, true, true, false, false] rfl rfl (by kernel_rfl) (by decide) (fun K hK => ?_)
            refine skip_ (w1 := ?_) (by rfl) rfl ?_ ?_
            rotate_left
            · go_simp
              rfl
            refine hK.out _ _ ⟨(blk_cell ((put7_far hne2 (.int .i64 z.cap) (.int .i64 z.mod) (.int .i64 z.lab) (.int .i64 z.item) (.int .i64 z.last) (.slice A1 r.length c1) (.slice Aa x.ak.length ca)).trans HD.out.blk) 0).trans rfl, (blk_cell ((put7_far hne2 (.int .i64 z.cap) (.int .i64 z.mod) (.int .i64 z.lab) (.int .i64 z.item) (.int .i64 z.last) (.slice A1 r.length c1) (.slice Aa x.ak.length ca)).trans HD.out.blk) 1).trans rfl, (blk_cell ((put7_far hne2 (.int .i64 z.cap) (.int .i64 z.mod) (.int .i64 z.lab) (.int .i64 z.item) (.int .i64 z.last) (.slice A1 r.length c1) (.slice Aa x.ak.length ca)).trans HD.out.blk) 2).trans rfl, (blk_cell ((put7_far hne2 (.int .i64 z.cap) (.int .i64 z.mod) (.int .i64 z.lab) (.int .i64 z.item) (.int .i64 z.last) (.slice A1 r.length c1) (.slice Aa x.ak.length ca)).trans HD.out.blk) 3).trans rfl, (blk_cell ((put7_far hne2 (.int .i64 z.cap) (.int .i64 z.mod) (.int .i64 z.lab) (.int .i64 z.item) (.int .i64 z.last) (.slice A1 r.length c1) (.slice Aa x.ak.length ca)).trans HD.out.blk) 4).trans rfl, (blk_cell ((put7_far hne2 (.int .i64 z.cap) (.int .i64 z.mod) (.int .i64 z.lab) (.int .i64 z.item) (.int .i64 z.last) (.slice A1 r.length c1) (.slice Aa x.ak.length ca)).trans HD.out.blk) 5).trans rfl, (blk_cell ((put7_far hne2 (.int .i64 z.cap) (.int .i64 z.mod) (.int .i64 z.lab) (.int .i64 z.item) (.int .i64 z.last) (.slice A1 r.length c1) (.slice Aa x.ak.length ca)).trans HD.out.blk) 6).trans rfl, (blk_cell ((put7_far hne3 (.int .i64 z.cap) (.int .i64 z.mod) (.int .i64 z.lab) (.int .i64 z.item) (.int .i64 z.last) (.slice A1 r.length c1) (.slice Aa x.ak.length ca)).trans HBD.out) 0).trans rfl, (blk_cell ((put7_far hne3 (.int .i64 z.cap) (.int .i64 z.mod) (.int .i64 z.lab) (.int .i64 z.item) (.int .i64 z.last) (.slice A1 r.length c1) (.slice Aa x.ak.length ca)).trans HBD.out) 1).trans rfl⟩ (fun hHeld => ?_)
            clear hK K
            refine pure_ (i := 4) (N := some 5) (v := ?_) (a' := ?_) #[true, true, true, true, true, false] rfl rfl (by kernel_rfl) (fun _ _ _ h => h) (Or.inl ⟨by rfl, ?_⟩) ?_ ?_
            rotate_left
            · intro w'
              go_simp
              with_reducible rfl
            rotate_left
            · simp only [Act.put, List.setIfInBounds_toArray, List.set_cons_zero, List.set_cons_succ, i64_w, i32_w]
              rfl
            refine pure_ (i := 5) (N := some 6) (v := ?_) (a' := ?_) #[true, true, true, true, true, true] rfl rfl (by kernel_rfl) (fun _ _ _ h => h) (Or.inl ⟨by rfl, ?_⟩) ?_ ?_
            rotate_left
            · intro w'
              go_simp
              with_reducible rfl
            rotate_left
            · simp only [Act.put, List.setIfInBounds_toArray, List.set_cons_zero, List.set_cons_succ, i64_w, i32_w]
              rfl
            refine done_ (by kernel_rfl) ?_
            try go_wp2
            refine bodyPost_ret (results_ctt rfl _ (put7 W7 (w.heap.size + 1 + 1) (.int .i64 z.cap) (.int .i64 z.mod) (.int .i64 z.lab) (.int .i64 z.item) (.int .i64 z.last) (.slice A1 r.length c1) (.slice Aa x.ak.length ca)) (w.heap.size + 1 + 1) 29 #[.int .i64 z.cap, .int .i64 z.mod, .int .i64 z.lab, .int .i64 z.item, .int .i64 z.last, .slice A1 r.length c1, .slice Aa x.ak.length ca] (0, 0) _ rfl (put7_blk HD.out.out _ _ _ _ _ _ _) Try.underlying29 rfl (by kernel_rfl)) rfl ?_
            exact RefAt.fin HD.out (by rw [← HX.out, ← HP.out]; exact HS.out) _ _ _ _ _ _ _
    by_cases k3 : e0 = 3
    · subst k3
      rcases hak : x.ak with _ | ⟨b, r⟩
      · have d1 : decide (0 < (x.ak.length : Int)) = false := decide_eq_false (by rw [hak]; simp)
        have d2 : decide (0 < x.ak.length) = false := decide_eq_false (by rw [hak]; simp)
        have HS := Aside0.mk (show p = (x, 0, false) by rw [HP.out]; unfold stepD; rw [if_neg (by omega), if_neg (by omega), if_pos rfl, hak])
        clear hak
        go_wp2_with (fail)
        refine bodyPost_ret (results_ctt rfl _ (put7 wc (w.heap.size + 1 + 1) (.int .i64 x.cap) (.int .i64 x.mod) (.int .i64 x.lab) (.int .i64 x.item) (.int .i64 x.last) (.slice Af x.fr.length cf) (.slice Aa x.ak.length ca)) (w.heap.size + 1 + 1) 29 #[.int .i64 x.cap, .int .i64 x.mod, .int .i64 x.lab, .int .i64 x.item, .int .i64 x.last, .slice Af x.fr.length cf, .slice Aa x.ak.length ca] (0, 0) _ rfl (put7_blk HL.out.out _ _ _ _ _ _ _) Try.underlying29 rfl (by kernel_rfl)) rfl ?_
        exact RefAt.fin HL.out (by rw [← HX.out, ← HP.out]; exact HS.out) _ _ _ _ _ _ _
      · have hn : 0 < x.ak.length := by rw [hak]; simp
        have d1 : decide (0 < (x.ak.length : Int)) = true := decide_eq_true (by omega)
        have d2 : decide (0 < x.ak.length) = true := decide_eq_true hn
        have q1 : (1 : Int) ≤ (x.ak.length : Int) := by omega
        obtain ⟨ad, rfl, hx0⟩ := at_ints (Kd.Q_reads' HL.out.ak).2.2 0 (by omega) (by omega)
        have hg0 : rd x.ak 0 = b := by rw [hak]; rfl
        rw [hg0] at hx0
        rw [show ((0 : Int)).toNat = 0 from rfl, Addr.add_zero'] at hx0
        obtain ⟨i0, hi0, _, hsz0, _⟩ := info_parts info3
        have hcut := cut_from (P := Try.prog) 22 3 .i64 Try.underlying22 hi0 1 hsz0 (some ad) x.ak.length ca 1 (by omega) q1
        have hq := Kd.Q_drop (k := (1 : Int).toNat) HL.out.ak (by omega)
        obtain ⟨A1, hA1⟩ : ∃ A1, A1 = (if ca = (1 : Int).toNat then (some ad) else ((some ad) : Option Addr).map (·.add ((1 : Int).toNat * 1))) := ⟨_, rfl⟩
        obtain ⟨c1, hc1⟩ : ∃ c1, c1 = ca - (1 : Int).toNat := ⟨_, rfl⟩
        have hr1 : x.ak.drop 1 = r := by rw [hak]; rfl
        have hlr : x.ak.length - (1 : Int).toNat = r.length := by rw [hak]; simp
        rw [show (1 : Int).toNat = 1 from rfl, hr1] at hq
        rw [show (1 : Int).toNat = 1 from rfl] at hA1 hc1 hlr
        rw [show (1 : Int).toNat = 1 from rfl, hlr, ← hA1, ← hc1] at hcut
        have HQ := Aside0.mk (show Kd.Q (Kd.int .i64) 3 wc w.heap.size (fun _ => True) (.slice A1 r.length c1) r by rw [hA1, hc1, ← hlr]; exact hq)
        have HAK := Aside0.mk hak
        have lab0 : 0 ≤ x.lab := HVV.out.2.2.2.2.1
        have lab1 : x.lab < x.mod := HVV.out.2.2.2.2.2.1
        have mod1 : x.mod ≤ 64 := HVV.out.2.2.2.1
        have it0 : 0 ≤ x.item := HVV.out.2.2.2.2.2.2.2.2.1
        have it1 : x.item ≤ 1073741824 := HVV.out.2.2.2.2.2.2.2.2.2.1
        have hm0 : ¬ x.mod = 0 := by have := HVV.out.2.2.1; have := HVV.out.1; omega
        have hw1 : wrap64 (x.lab + 1) = x.lab + 1 := by unfold wrap64; omega
        have hw2 : wrap64 (x.item + 1) = x.item + 1 := by unfold wrap64; omega
        have htm : (x.lab + 1).tmod x.mod = (x.lab + 1) % x.mod := Int.tmod_eq_emod_of_nonneg (by omega)
        clear hak hq hA1 hc1 hr1 hlr hi0 hsz0 hg0
        by_cases hbl : b = x.lab
        · have dbl : (b == x.lab) = true := beq_iff_eq.mpr hbl
          have HBL := Aside0.mk hbl
          clear hbl
          go_upto_region 16 with (fail)
          go_quiet (fail)
          go_upto_region 17 with (fail)
          have HL3 := Aside0.mk (HL.out.step (pw_below_drewN (Below.refl _ _) nq))
          have HQ3 := Aside0.mk (Kd.Q_drewN HQ.out nq)
          generalize wc.drewN nq = W6 at HL3 HQ3 ⊢
          have HD := Aside0.mk (HL3.out.step (below_drew (Below.refl _ _)))
          have HQ4 := Aside0.mk (Kd.Q_drew HQ3.out)
          clear x0 fx0 y0 fy0 x1 fx1 y1 fy1 x2 fx2 y2 fy2 x3 fx3 y3 fy3 x4 fx4 y4 fy4 x5 fx5 y5 fy5 x6 fx6 y6 fy6
          refine start_ (n := 14) (S := fun w' => w'.cell? ⟨w.heap.size, 0, none⟩ = some (.int .i64 x.cap) ∧ w'.cell? ⟨w.heap.size, 1, none⟩ = some (.int .i64 x.mod) ∧ w'.cell? ⟨w.heap.size, 2, none⟩ = some (.int .i64 x.lab) ∧ w'.cell? ⟨w.heap.size, 3, none⟩ = some (.int .i64 x.item) ∧ w'.cell? ⟨w.heap.size, 4, none⟩ = some (.int .i64 x.last) ∧ w'.cell? ⟨w.heap.size, 5, none⟩ = some (.slice Af x.fr.length cf) ∧ w'.cell? ⟨w.heap.size, 6, none⟩ = some (.slice (some ad) x.ak.length ca)) (ds := [11, 13]) #[false, false, false, false, false, false, false, false, false, false, false, false, false, false] (by kernel_rfl) rfl rfl ⟨(blk_cell HL3.out.blk 0).trans rfl, (blk_cell HL3.out.blk 1).trans rfl, (blk_cell HL3.out.blk 2).trans rfl, (blk_cell HL3.out.blk 3).trans rfl, (blk_cell HL3.out.blk 4).trans rfl, (blk_cell HL3.out.blk 5).trans rfl, (blk_cell HL3.out.blk 6).trans rfl⟩ (fun hHeld => ?_); refine with_tabW rs_tab17 rs_bits17 (fun HT_ HW_ => ?_)
          generalize W6.drew = W7 at HD HQ4 hHeld ⊢
          refine pure_ (i := 0) (N := some 105) (v := ?_) (a' := ?_) #[true, false, false, false, false, false, false, false, false, false, false, false, false, false] rfl rfl (any_of HT_.out (by kernel_rfl)) (fun _ _ _ h => h) (Or.inl ⟨by rfl, ?_⟩) ?_ ?_
          rotate_left
          · intro w'
            go_simp
            with_reducible rfl
          rotate_left
          · simp only [Act.put, List.setIfInBounds_toArray, List.set_cons_zero, List.set_cons_succ, i64_w, i32_w]
            rfl
          refine pure_ (i := 3) (N := some 108) (v := ?_) (a' := ?_) #[true, false, false, true, false, false, false, false, false, false, false, false, false, false] rfl rfl (any_of HT_.out (by kernel_rfl)) (fun _ _ _ h => h) (Or.inl ⟨by rfl, ?_⟩) ?_ ?_
          rotate_left
          · intro w'
            go_simp
            with_reducible rfl
          rotate_left
          · simp only [Act.put, List.setIfInBounds_toArray, List.set_cons_zero, List.set_cons_succ, i64_w, i32_w]
            rfl
          refine pure_ (i := 6) (N := some 111) (v := ?_) (a' := ?_) #[true, false, false, true, false, false, true, false, false, false, false, false, false, false] rfl rfl (any_of HT_.out (by kernel_rfl)) (fun _ _ _ h => h) (Or.inl ⟨by rfl, ?_⟩) ?_ ?_
          rotate_left
          · intro w'
            go_simp
            with_reducible rfl
          rotate_left
          · simp only [Act.put, List.setIfInBounds_toArray, List.set_cons_zero, List.set_cons_succ, i64_w, i32_w]
            rfl
          refine take_ (i := 1) (N := some 106) (v := ?_) (a' := ?_) #[true, true, false, true, false, false, true, false, false, false, false, false, false, false] rfl rfl (take_ofW HT_.out HW_.out (by kernel_rfl)) (fun _ _ _ h => h) (Or.inl ⟨by rfl, ?_⟩) hHeld ?_ ?_
          rotate_left
          · rintro w' ⟨s0, s1, s2, s3, s4, s5, s6⟩
            go_simp
            with_reducible rfl
          rotate_left
          · simp only [Act.put, List.setIfInBounds_toArray, List.set_cons_zero, List.set_cons_succ, i64_w, i32_w]
            rfl
          refine pure_ (i := 2) (N := some 107) (v := ?_) (a' := ?_) #[true, true, true, true, false, false, true, false, false, false, false, false, false, false] rfl rfl (any_of HT_.out (by kernel_rfl)) (fun _ _ _ h => h) (Or.inl ⟨by rfl, ?_⟩) ?_ ?_
          rotate_left
          · intro w'
            go_simp
            with_reducible rfl
          rotate_left
          · simp only [Act.put, List.setIfInBounds_toArray, List.set_cons_zero, List.set_cons_succ, i64_w, i32_w]
            rfl
          refine take_ (i := 4) (N := some 109) (v := ?_) (a' := ?_) #[true, true, true, true, true, false, true, false, false, false, false, false, false, false] rfl rfl (take_ofW HT_.out HW_.out (by kernel_rfl)) (fun _ _ _ h => h) (Or.inl ⟨by rfl, ?_⟩) hHeld ?_ ?_
          rotate_left
          · rintro w' ⟨s0, s1, s2, s3, s4, s5, s6⟩
            go_simp
            with_reducible rfl
          rotate_left
          · simp only [Act.put, List.setIfInBounds_toArray, List.set_cons_zero, List.set_cons_succ, i64_w, i32_w]
            rfl
          refine pure_ (i := 5) (N := some 110) (v := ?_) (a' := ?_) #[true, true, true, true, true, true, true, false, false, false, false, false, false, false] rfl rfl (any_of HT_.out (by kernel_rfl)) (fun _ _ _ h => h) (Or.inl ⟨by rfl, ?_⟩) ?_ ?_
          rotate_left
          · intro w'
            go_simp
            with_reducible rfl
          rotate_left
          · simp only [Act.put, List.setIfInBounds_toArray, List.set_cons_zero, List.set_cons_succ, i64_w, i32_w]
            rfl
          refine take_ (i := 7) (N := some 112) (v := ?_) (a' := ?_) #[true, true, true, true, true, true, true, true, false, false, false, false, false, false] rfl rfl (take_ofW HT_.out HW_.out (by kernel_rfl)) (fun _ _ _ h => h) (Or.inl ⟨by rfl, ?_⟩) hHeld ?_ ?_
          rotate_left
          · rintro w' ⟨s0, s1, s2, s3, s4, s5, s6⟩
            go_simp
            with_reducible rfl
          rotate_left
          · simp only [Act.put, List.setIfInBounds_toArray, List.set_cons_zero, List.set_cons_succ, i64_w, i32_w]
            rfl
          refine pure_ (i := 8) (N := some 113) (v := ?_) (a' := ?_) #[true, true, true, true, true, true, true, true, true, false, false, false, false, false] rfl rfl (any_of HT_.out (by kernel_rfl)) (fun _ _ _ h => h) (Or.inl ⟨by rfl, ?_⟩) ?_ ?_
          rotate_left
          · intro w'
            go_simp
            with_reducible rfl
          rotate_left
          · simp only [Act.put, List.setIfInBounds_toArray, List.set_cons_zero, List.set_cons_succ, i64_w, i32_w]
            rfl
          refine pure_ (i := 9) (N := some 114) (v := ?_) (a' := ?_) #[true, true, true, true, true, true, true, true, true, true, false, false, false, false] rfl rfl (any_of HT_.out (by kernel_rfl)) (fun _ _ _ h => h) (Or.inl ⟨by rfl, ?_⟩) ?_ ?_
          rotate_left
          · intro w'
            go_simp
            with_reducible rfl
          rotate_left
          · simp only [Act.put, List.setIfInBounds_toArray, List.set_cons_zero, List.set_cons_succ, i64_w, i32_w]
            rfl
          refine pure_ (i := 10) (N := some 115) (v := ?_) (a' := ?_) #[true, true, true, true, true, true, true, true, true, true, true, false, false, false] rfl rfl (any_of HT_.out (by kernel_rfl)) (fun _ _ _ h => h) (Or.inl ⟨by rfl, ?_⟩) ?_ ?_
          rotate_left
          · intro w'
            go_simp
            with_reducible rfl
          rotate_left
          · simp only [Act.put, List.setIfInBounds_toArray, List.set_cons_zero, List.set_cons_succ, i64_w, i32_w]
            rfl
          have x0 : W7.cell? ⟨w.heap.size, 0, none⟩ = some (.int .i64 x.cap) := (blk_cell HD.out.blk 0).trans rfl
          have fx0 := blk_frozen HD.out.blk 0
          have x1 : W7.cell? ⟨w.heap.size, 1, none⟩ = some (.int .i64 x.mod) := (blk_cell HD.out.blk 1).trans rfl
          have fx1 := blk_frozen HD.out.blk 1
          have x2 : W7.cell? ⟨w.heap.size, 2, none⟩ = some (.int .i64 x.lab) := (blk_cell HD.out.blk 2).trans rfl
          have fx2 := blk_frozen HD.out.blk 2
          have x3 : W7.cell? ⟨w.heap.size, 3, none⟩ = some (.int .i64 x.item) := (blk_cell HD.out.blk 3).trans rfl
          have fx3 := blk_frozen HD.out.blk 3
          have x4 : W7.cell? ⟨w.heap.size, 4, none⟩ = some (.int .i64 x.last) := (blk_cell HD.out.blk 4).trans rfl
          have fx4 := blk_frozen HD.out.blk 4
          have x5 : W7.cell? ⟨w.heap.size, 5, none⟩ = some (.slice Af x.fr.length cf) := (blk_cell HD.out.blk 5).trans rfl
          have fx5 := blk_frozen HD.out.blk 5
          have x6 : W7.cell? ⟨w.heap.size, 6, none⟩ = some (.slice (some ad) x.ak.length ca) := (blk_cell HD.out.blk 6).trans rfl
          have fx6 := blk_frozen HD.out.blk 6
          refine last_ (i := 11) (N := none) #[true, true, true, true, true, true, true, true, true, true, true, true, false, false] rfl rfl (one_of HT_.out (by kernel_rfl)) (by decide) (fun K hK => ?_)
          refine skip_ (w1 := ?_) (by rfl) rfl ?_ ?_
          rotate_left
          · go_simp
            rfl
          refine hK.out _ _ ?_
          clear hK K
          refine pure_ (i := 12) (N := some 116) (v := ?_) (a' := ?_) #[true, true, true, true, true, true, true, true, true, true, true, true, true, false] rfl rfl (any_of HT_.out (by kernel_rfl)) (fun _ _ _ h => h) (Or.inl ⟨by rfl, ?_⟩) ?_ ?_
          rotate_left
          · intro w'
            go_simp
            with_reducible rfl
          rotate_left
          · simp only [Act.put, List.setIfInBounds_toArray, List.set_cons_zero, List.set_cons_succ, i64_w, i32_w]
            rfl
          refine last_ (i := 13) (N := none) #[true, true, true, true, true, true, true, true, true, true, true, true, true, true] rfl rfl (one_of HT_.out (by kernel_rfl)) (by decide) (fun K hK => ?_)
          refine skip_ (w1 := ?_) (by rfl) rfl ?_ ?_
          rotate_left
          · go_simp
            rfl
          refine hK.out _ _ ?_
          clear hK K
          refine done_ (done_of HT_.out (by kernel_rfl)) ?_
          have HL8 : Aside0 (RefAt w.heap.size w ((W7.setCell ⟨w.heap.size, 2, none⟩ (.int .i64 ((x.lab + 1) % x.mod))).setCell ⟨w.heap.size, 3, none⟩ (.int .i64 (if 1073741824 < x.item + 1 then 1073741824 else x.item + 1))) { x with lab := (x.lab + 1) % x.mod, item := (if 1073741824 < x.item + 1 then 1073741824 else x.item + 1) } (.slice Af x.fr.length cf) (.slice (some ad) x.ak.length ca) 3 e1) := ⟨by
            have h2 := HD.out.put (y := { x with lab := (x.lab + 1) % x.mod }) (Vf' := .slice Af x.fr.length cf) (Va' := .slice (some ad) x.ak.length ca) 2 (.int .i64 ((x.lab + 1) % x.mod)) rfl HD.out.fr HD.out.ak
            exact h2.put (y := { x with lab := (x.lab + 1) % x.mod, item := (if 1073741824 < x.item + 1 then 1073741824 else x.item + 1) }) (Vf' := .slice Af x.fr.length cf) (Va' := .slice (some ad) x.ak.length ca) 3 (.int .i64 (if 1073741824 < x.item + 1 then 1073741824 else x.item + 1)) rfl h2.fr h2.ak⟩
          have HQ8 : Aside0 (Kd.Q (Kd.int .i64) 3 ((W7.setCell ⟨w.heap.size, 2, none⟩ (.int .i64 ((x.lab + 1) % x.mod))).setCell ⟨w.heap.size, 3, none⟩ (.int .i64 (if 1073741824 < x.item + 1 then 1073741824 else x.item + 1))) w.heap.size (fun _ => True) (.slice A1 r.length c1) r) := ⟨by
            have k1 := HD.out.blk
            exact Kd.Q_set (Kd.Q_set HQ4.out k1 (by decide) 2 _) (blk_set k1 2 _) (by decide) 3 _⟩
          generalize ((W7.setCell ⟨w.heap.size, 2, none⟩ (.int .i64 ((x.lab + 1) % x.mod))).setCell ⟨w.heap.size, 3, none⟩ (.int .i64 (if 1073741824 < x.item + 1 then 1073741824 else x.item + 1))) = W9 at HL8 HQ8 ⊢
          clear x0 fx0 x1 fx1 x2 fx2 x3 fx3 x4 fx4 x5 fx5 x6 fx6
          obtain ⟨z, hz⟩ : ∃ z : DL, z = { x with lab := (x.lab + 1) % x.mod, item := (if 1073741824 < x.item + 1 then 1073741824 else x.item + 1) } := ⟨_, rfl⟩
          rw [← hz] at HL8
          have HZ := Aside0.mk hz
          clear hz hw1 hw2 htm
          have x0 : W9.cell? ⟨w.heap.size, 0, none⟩ = some (.int .i64 z.cap) := (blk_cell HL8.out.blk 0).trans rfl
          have fx0 := blk_frozen HL8.out.blk 0
          have x1 : W9.cell? ⟨w.heap.size, 1, none⟩ = some (.int .i64 z.mod) := (blk_cell HL8.out.blk 1).trans rfl
          have fx1 := blk_frozen HL8.out.blk 1
          have x2 : W9.cell? ⟨w.heap.size, 2, none⟩ = some (.int .i64 z.lab) := (blk_cell HL8.out.blk 2).trans rfl
          have fx2 := blk_frozen HL8.out.blk 2
          have x3 : W9.cell? ⟨w.heap.size, 3, none⟩ = some (.int .i64 z.item) := (blk_cell HL8.out.blk 3).trans rfl
          have fx3 := blk_frozen HL8.out.blk 3
          have x4 : W9.cell? ⟨w.heap.size, 4, none⟩ = some (.int .i64 z.last) := (blk_cell HL8.out.blk 4).trans rfl
          have fx4 := blk_frozen HL8.out.blk 4
          have x5 : W9.cell? ⟨w.heap.size, 5, none⟩ = some (.slice Af x.fr.length cf) := (blk_cell HL8.out.blk 5).trans rfl
          have fx5 := blk_frozen HL8.out.blk 5
          have x6 : W9.cell? ⟨w.heap.size, 6, none⟩ = some (.slice (some ad) x.ak.length ca) := (blk_cell HL8.out.blk 6).trans rfl
          have fx6 := blk_frozen HL8.out.blk 6
          have y0 : W9.cell? ⟨w.heap.size + 1 + 1, 0, none⟩ = some (.int .i64 0) := (blk_cell HL8.out.out 0).trans rfl
          have fy0 := blk_frozen HL8.out.out 0
          have y1 : W9.cell? ⟨w.heap.size + 1 + 1, 1, none⟩ = some (.int .i64 0) := (blk_cell HL8.out.out 1).trans rfl
          have fy1 := blk_frozen HL8.out.out 1
          have y2 : W9.cell? ⟨w.heap.size + 1 + 1, 2, none⟩ = some (.int .i64 0) := (blk_cell HL8.out.out 2).trans rfl
          have fy2 := blk_frozen HL8.out.out 2
          have y3 : W9.cell? ⟨w.heap.size + 1 + 1, 3, none⟩ = some (.int .i64 0) := (blk_cell HL8.out.out 3).trans rfl
          have fy3 := blk_frozen HL8.out.out 3
          have y4 : W9.cell? ⟨w.heap.size + 1 + 1, 4, none⟩ = some (.int .i64 0) := (blk_cell HL8.out.out 4).trans rfl
          have fy4 := blk_frozen HL8.out.out 4
          have y5 : W9.cell? ⟨w.heap.size + 1 + 1, 5, none⟩ = some (.slice none 0 0) := (blk_cell HL8.out.out 5).trans rfl
          have fy5 := blk_frozen HL8.out.out 5
          have y6 : W9.cell? ⟨w.heap.size + 1 + 1, 6, none⟩ = some (.slice none 0 0) := (blk_cell HL8.out.out 6).trans rfl
          have fy6 := blk_frozen HL8.out.out 6
          have HS := Aside0.mk (show p = ({ z with ak := r }, 0, false) by
            rw [HP.out, HZ.out]; unfold stepD; rw [if_neg (by omega), if_neg (by omega), if_pos rfl, HAK.out]; dsimp only; rw [if_pos HBL.out]
            have : (if 1073741824 < x.item + 1 then 1073741824 else x.item + 1) = min (x.item + 1) 1073741824 := by split <;> omega
            rw [this])
          have HL9 := Aside0.mk (HL8.out.deqA HQ8.out)
          go_wp2_with (fail)
          all_goals
            refine bodyPost_ret (results_ctt rfl _ (put7 (W9.setCell ⟨w.heap.size, 6, none⟩ (.slice A1 r.length c1)) (w.heap.size + 1 + 1) (.int .i64 z.cap) (.int .i64 z.mod) (.int .i64 z.lab) (.int .i64 z.item) (.int .i64 z.last) (.slice Af x.fr.length cf) (.slice A1 r.length c1)) (w.heap.size + 1 + 1) 29 #[.int .i64 z.cap, .int .i64 z.mod, .int .i64 z.lab, .int .i64 z.item, .int .i64 z.last, .slice Af x.fr.length cf, .slice A1 r.length c1] (0, 0) _ rfl (put7_blk HL9.out.out _ _ _ _ _ _ _) Try.underlying29 rfl (by kernel_rfl)) rfl ?_
            exact RefAt.fin HL9.out (by rw [← HX.out, ← HP.out]; exact HS.out) _ _ _ _ _ _ _

        · have dbl : (b == x.lab) = false := beq_eq_false_iff_ne.mpr hbl
          have HBL := Aside0.mk hbl
          clear hbl
          go_upto_region 16 with (fail)
          go_quiet (fail)
          go_wp2_with (fail)
          have HS := Aside0.mk (show p = ({ x with ak := r }, 0, false) by rw [HP.out]; unfold stepD; rw [if_neg (by omega), if_neg (by omega), if_pos rfl, HAK.out]; dsimp only; rw [if_neg HBL.out])
          have HL3 := Aside0.mk ((HL.out.step (pw_below_drewN (Below.refl _ _) nq)).deqA (Kd.Q_drewN HQ.out nq))
          refine bodyPost_ret (results_ctt rfl _ (put7 ((wc.drewN nq).setCell ⟨w.heap.size, 6, none⟩ (.slice A1 r.length c1)) (w.heap.size + 1 + 1) (.int .i64 x.cap) (.int .i64 x.mod) (.int .i64 x.lab) (.int .i64 x.item) (.int .i64 x.last) (.slice Af x.fr.length cf) (.slice A1 r.length c1)) (w.heap.size + 1 + 1) 29 #[.int .i64 x.cap, .int .i64 x.mod, .int .i64 x.lab, .int .i64 x.item, .int .i64 x.last, .slice Af x.fr.length cf, .slice A1 r.length c1] (0, 0) _ rfl (put7_blk HL3.out.out _ _ _ _ _ _ _) Try.underlying29 rfl (by kernel_rfl)) rfl ?_
          exact RefAt.fin HL3.out (by rw [← HX.out, ← HP.out]; exact HS.out) _ _ _ _ _ _ _
    by_cases k4 : e0 = 4
    · subst k4
      by_cases hin : 0 ≤ e1 ∧ e1 < (x.fr.length : Int)
      · obtain ⟨g0, g1⟩ := hin
        have hfn : selfstabref01_In.f e1 0 (x.fr.length - 1) = some true := by unfold selfstabref01_In.f; rw [if_pos g0, decide_eq_true (by omega)]
        have HFN := Aside0.mk hfn
        clear hfn
        go_upto_region 20 with (go_at_call 28; refine (selfstabref01_In.calls e1 0 (x.fr.length - 1) true _ HFN.out).mono ?_; rintro e w' ⟨rfl, ⟨nd, rfl⟩⟩)
        have HL3 := Aside0.mk (HL.out.step (pw_below_drewN (Below.refl _ _) nd))
        generalize wc.drewN nd = W6 at HL3 ⊢
        clear x0 fx0 y0 fy0 x1 fx1 y1 fy1 x2 fx2 y2 fy2 x3 fx3 y3 fy3 x4 fx4 y4 fy4 x5 fx5 y5 fy5 x6 fx6 y6 fy6 ev0 ev1
        have HD := Aside0.mk (HL3.out.step (below_drew (Below.refl _ _)))
        have hroom : x.fr.length ≤ cf := (Kd.Q_reads' HL3.out.fr).2.1
        obtain ⟨i0, hi0, _, hsz0, _⟩ := info_parts info46
        have hw1 : wrap64 (e1 + 1) = e1 + 1 := by unfold wrap64; omega
        have hcutA := cut_to (P := Try.prog) 27 46 .i64 Try.underlying27 hi0 Af x.fr.length cf e1 g0 (by omega) hroom
        have hcutB := cut_from (P := Try.prog) 27 46 .i64 Try.underlying27 hi0 2 hsz0 Af x.fr.length cf (e1 + 1) (by omega) (by omega)
        obtain ⟨A2, hA2⟩ : ∃ A2, A2 = (if cf = (e1 + 1).toNat then Af else Af.map (·.add ((e1 + 1).toNat * 2))) := ⟨_, rfl⟩
        obtain ⟨m2, hm2⟩ : ∃ m2, m2 = x.fr.length - (e1 + 1).toNat := ⟨_, rfl⟩
        obtain ⟨c2, hc2⟩ : ∃ c2, c2 = cf - (e1 + 1).toNat := ⟨_, rfl⟩
        obtain ⟨m1, hm1⟩ : ∃ m1, m1 = e1.toNat := ⟨_, rfl⟩
        have hm11 : (e1 + 1).toNat = m1 + 1 := by omega
        have hlt : m1 < x.fr.length := by omega
        rw [← hA2, ← hm2, ← hc2] at hcutB
        rw [← hm1] at hcutA
        rw [hm11] at hA2 hm2 hc2
        have HM2 := Aside0.mk hm2
        have HA2 := Aside0.mk hA2
        have HM1 := Aside0.mk hm1
        clear hA2 hm2 hc2 hm1 hm11 hi0 hsz0
        refine start_ (n := 16) (S := fun w' => w'.cell? ⟨w.heap.size, 0, none⟩ = some (.int .i64 x.cap) ∧ w'.cell? ⟨w.heap.size, 1, none⟩ = some (.int .i64 x.mod) ∧ w'.cell? ⟨w.heap.size, 2, none⟩ = some (.int .i64 x.lab) ∧ w'.cell? ⟨w.heap.size, 3, none⟩ = some (.int .i64 x.item) ∧ w'.cell? ⟨w.heap.size, 4, none⟩ = some (.int .i64 x.last) ∧ w'.cell? ⟨w.heap.size, 5, none⟩ = some (.slice Af x.fr.length cf) ∧ w'.cell? ⟨w.heap.size, 6, none⟩ = some (.slice Aa x.ak.length ca) ∧ w'.cell? ⟨w.heap.size + 1, 0, none⟩ = some (.int .i64 4) ∧ w'.cell? ⟨w.heap.size + 1, 1, none⟩ = some (.int .i64 e1)) (ds := [15]) #[false, false, false, false, false, false, false, false, false, false, false, false, false, false, false, false] (by kernel_rfl) rfl rfl ⟨(blk_cell HL3.out.blk 0).trans rfl, (blk_cell HL3.out.blk 1).trans rfl, (blk_cell HL3.out.blk 2).trans rfl, (blk_cell HL3.out.blk 3).trans rfl, (blk_cell HL3.out.blk 4).trans rfl, (blk_cell HL3.out.blk 5).trans rfl, (blk_cell HL3.out.blk 6).trans rfl, (blk_cell HL3.out.ev 0).trans rfl, (blk_cell HL3.out.ev 1).trans rfl⟩ (fun hHeld => ?_); refine with_tabW rs_tab20 rs_bits20 (fun HT_ HW_ => ?_)
        generalize W6.drew = W7 at HD hHeld ⊢
        refine pure_ (i := 1) (N := some 135) (v := ?_) (a' := ?_) #[false, true, false, false, false, false, false, false, false, false, false, false, false, false, false, false] rfl rfl (any_of HT_.out (by kernel_rfl)) (fun _ _ _ h => h) (Or.inl ⟨by rfl, ?_⟩) ?_ ?_
        rotate_left
        · intro w'
          go_simp
          with_reducible rfl
        rotate_left
        · simp only [Act.put, List.setIfInBounds_toArray, List.set_cons_zero, List.set_cons_succ, i64_w, i32_w]
          rfl
        refine pure_ (i := 3) (N := some 137) (v := ?_) (a' := ?_) #[false, true, false, true, false, false, false, false, false, false, false, false, false, false, false, false] rfl rfl (any_of HT_.out (by kernel_rfl)) (fun _ _ _ h => h) (Or.inl ⟨by rfl, ?_⟩) ?_ ?_
        rotate_left
        · intro w'
          go_simp
          with_reducible rfl
        rotate_left
        · simp only [Act.put, List.setIfInBounds_toArray, List.set_cons_zero, List.set_cons_succ, i64_w, i32_w]
          rfl
        refine pure_ (i := 7) (N := some 141) (v := ?_) (a' := ?_) #[false, true, false, true, false, false, false, true, false, false, false, false, false, false, false, false] rfl rfl (any_of HT_.out (by kernel_rfl)) (fun _ _ _ h => h) (Or.inl ⟨by rfl, ?_⟩) ?_ ?_
        rotate_left
        · intro w'
          go_simp
          with_reducible rfl
        rotate_left
        · simp only [Act.put, List.setIfInBounds_toArray, List.set_cons_zero, List.set_cons_succ, i64_w, i32_w]
          rfl
        refine pure_ (i := 9) (N := some 143) (v := ?_) (a' := ?_) #[false, true, false, true, false, false, false, true, false, true, false, false, false, false, false, false] rfl rfl (any_of HT_.out (by kernel_rfl)) (fun _ _ _ h => h) (Or.inl ⟨by rfl, ?_⟩) ?_ ?_
        rotate_left
        · intro w'
          go_simp
          with_reducible rfl
        rotate_left
        · simp only [Act.put, List.setIfInBounds_toArray, List.set_cons_zero, List.set_cons_succ, i64_w, i32_w]
          rfl
        refine take_ (i := 2) (N := some 136) (v := ?_) (a' := ?_) #[false, true, true, true, false, false, false, true, false, true, false, false, false, false, false, false] rfl rfl (take_ofW HT_.out HW_.out (by kernel_rfl)) (fun _ _ _ h => h) (Or.inl ⟨by rfl, ?_⟩) hHeld ?_ ?_
        rotate_left
        · rintro w' ⟨s0, s1, s2, s3, s4, s5, s6, s7, s8⟩
          go_simp
          with_reducible rfl
        rotate_left
        · simp only [Act.put, List.setIfInBounds_toArray, List.set_cons_zero, List.set_cons_succ, i64_w, i32_w]
          rfl
        refine take_ (i := 4) (N := some 138) (v := ?_) (a' := ?_) #[false, true, true, true, true, false, false, true, false, true, false, false, false, false, false, false] rfl rfl (take_ofW HT_.out HW_.out (by kernel_rfl)) (fun _ _ _ h => h) (Or.inl ⟨by rfl, ?_⟩) hHeld ?_ ?_
        rotate_left
        · rintro w' ⟨s0, s1, s2, s3, s4, s5, s6, s7, s8⟩
          go_simp
          with_reducible rfl
        rotate_left
        · simp only [Act.put, List.setIfInBounds_toArray, List.set_cons_zero, List.set_cons_succ, i64_w, i32_w]
          rfl
        refine pure_ (i := 5) (N := some 139) (v := ?_) (a' := ?_) #[false, true, true, true, true, true, false, true, false, true, false, false, false, false, false, false] rfl rfl (any_of HT_.out (by kernel_rfl)) (fun _ _ _ h => h) (Or.inl ⟨by rfl, ?_⟩) ?_ ?_
        rotate_left
        · intro w'
          go_simp
          with_reducible rfl
        rotate_left
        · simp only [Act.put, List.setIfInBounds_toArray, List.set_cons_zero, List.set_cons_succ, i64_w, i32_w]
          rfl
        refine take_ (i := 8) (N := some 142) (v := ?_) (a' := ?_) #[false, true, true, true, true, true, false, true, true, true, false, false, false, false, false, false] rfl rfl (take_ofW HT_.out HW_.out (by kernel_rfl)) (fun _ _ _ h => h) (Or.inl ⟨by rfl, ?_⟩) hHeld ?_ ?_
        rotate_left
        · rintro w' ⟨s0, s1, s2, s3, s4, s5, s6, s7, s8⟩
          go_simp
          with_reducible rfl
        rotate_left
        · simp only [Act.put, List.setIfInBounds_toArray, List.set_cons_zero, List.set_cons_succ, i64_w, i32_w]
          rfl
        refine take_ (i := 10) (N := some 144) (v := ?_) (a' := ?_) #[false, true, true, true, true, true, false, true, true, true, true, false, false, false, false, false] rfl rfl (take_ofW HT_.out HW_.out (by kernel_rfl)) (fun _ _ _ h => h) (Or.inl ⟨by rfl, ?_⟩) hHeld ?_ ?_
        rotate_left
        · rintro w' ⟨s0, s1, s2, s3, s4, s5, s6, s7, s8⟩
          go_simp
          with_reducible rfl
        rotate_left
        · simp only [Act.put, List.setIfInBounds_toArray, List.set_cons_zero, List.set_cons_succ, i64_w, i32_w]
          rfl
        refine pure_ (i := 11) (N := some 145) (v := ?_) (a' := ?_) #[false, true, true, true, true, true, false, true, true, true, true, true, false, false, false, false] rfl rfl (any_of HT_.out (by kernel_rfl)) (fun _ _ _ h => h) (Or.inl ⟨by rfl, ?_⟩) ?_ ?_
        rotate_left
        · intro w'
          go_simp
          with_reducible rfl
        rotate_left
        · simp only [Act.put, List.setIfInBounds_toArray, List.set_cons_zero, List.set_cons_succ, i64_w, i32_w]
          rfl
        refine pure_ (i := 12) (N := some 146) (v := ?_) (a' := ?_) #[false, true, true, true, true, true, false, true, true, true, true, true, true, false, false, false] rfl rfl (any_of HT_.out (by kernel_rfl)) (fun _ _ _ h => h) (Or.inl ⟨by rfl, ?_⟩) ?_ ?_
        rotate_left
        · intro w'
          go_simp
          with_reducible rfl
        rotate_left
        · simp only [Act.put, List.setIfInBounds_toArray, List.set_cons_zero, List.set_cons_succ, i64_w, i32_w]
          rfl
        refine one_ (i := 0) (N := some 134) #[true, true, true, true, true, true, false, true, true, true, true, true, true, false, false, false] rfl rfl (one_of HT_.out (by kernel_rfl)) (by decide) (fun K hK => ?_)
        refine Kd.R_lit_step k46 _ 46 ?hg (N := 134) ?hd (xs := []) (inner := []) (ok := fun _ => True) (okp := fun _ => True) ?hr ?hp (fun _ hk => hk) trivial (Below.refl _ _) (Nat.le_refl _) (by simp) ?_; (case hd => rfl); (case hg => rfl); (case hr => first | (go_simp; done) | (go_simp; rfl)); (case hp => exact (Reps.none _ _))
        intro v8 w8 ho hb hg_ hnew_
        clear hg_ hnew_
        have HL8 := Aside0.mk (HD.out.step hb)
        have HQ8 := Aside0.mk (Kd.Q_elder' HD.out.fr (Kd.R_base ho) hb)
        have HR8 := Aside0.mk (Kd.R_lower ho HD.out.sz)
        clear ho hb
        refine hK.out _ _ ⟨(blk_cell HL8.out.blk 0).trans rfl, (blk_cell HL8.out.blk 1).trans rfl, (blk_cell HL8.out.blk 2).trans rfl, (blk_cell HL8.out.blk 3).trans rfl, (blk_cell HL8.out.blk 4).trans rfl, (blk_cell HL8.out.blk 5).trans rfl, (blk_cell HL8.out.blk 6).trans rfl, (blk_cell HL8.out.ev 0).trans rfl, (blk_cell HL8.out.ev 1).trans rfl⟩ (fun hHeld => ?_)
        clear hK K
        refine norm_ (a' := ?_) ?_ ?_
        rotate_left
        · show Act.put _ (some 134) _ = _
          simp only [Act.put, List.setIfInBounds_toArray, List.set_cons_zero, List.set_cons_succ, i64_w, i32_w]
          rfl
        refine one_ (i := 6) (N := some 140) #[true, true, true, true, true, true, true, true, true, true, true, true, true, false, false, false] rfl rfl (one_of HT_.out (by kernel_rfl)) (by decide) (fun K hK => ?_)
        refine Kd.R_append_rows_step k46 (w0 := w) w.heap.size (by rfl) (.tmp 134) (.tmp 139) 27 46 (.agg #[(.int .i64 0), (.int .i64 0)]) 16 rfl Try.underlying27 info46 rfl (by decide) (by omega) v8 [] (x.fr.take m1) _ _ _ (fun _ => True) (fun _ => False) rfl rfl HR8.out (show Kd.C k46 w8 Af m1 (x.fr.take m1) by have h_ := Kd.C_take (m := m1) (Kd.Q_reads' HQ8.out).2.2 (Nat.le_of_lt hlt); rwa [show (x.fr.take m1).length = m1 by rw [List.length_take]; omega] at h_) (fun _ _ h => h) (fun _ h => h.elim) (fun _ _ => trivial) HL8.out.below HL8.out.sz (by have := HM2.out; simp; omega) ?_
        intro v9 w9 ho hb hg hat
        have HL9 := Aside0.mk (HL8.out.grT (Kd.R_typed HR8.out) (by decide) (by decide) (Kd.Q_mono (Kd.Q_after (ok := fun _ => True) HQ8.out hg hat) (fun _ _ => trivial)) (Kd.Q_over' HL8.out.ak (Kd.R_typed HR8.out) (by decide) hg) hb hg)
        have HQ9 := Aside0.mk (Kd.Q_after (ok := fun _ => True) HQ8.out hg hat)
        have HR9 := Aside0.mk ho
        clear ho hb hg hat
        refine hK.out _ _ ⟨(blk_cell HL9.out.blk 0).trans rfl, (blk_cell HL9.out.blk 1).trans rfl, (blk_cell HL9.out.blk 2).trans rfl, (blk_cell HL9.out.blk 3).trans rfl, (blk_cell HL9.out.blk 4).trans rfl, (blk_cell HL9.out.blk 5).trans rfl, (blk_cell HL9.out.blk 6).trans rfl, (blk_cell HL9.out.ev 0).trans rfl, (blk_cell HL9.out.ev 1).trans rfl⟩ (fun hHeld => ?_)
        clear hK K
        refine norm_ (a' := ?_) ?_ ?_
        rotate_left
        · show Act.put _ (some 140) _ = _
          simp only [Act.put, List.setIfInBounds_toArray, List.set_cons_zero, List.set_cons_succ, i64_w, i32_w]
          rfl
        refine one_ (i := 13) (N := some 147) #[true, true, true, true, true, true, true, true, true, true, true, true, true, true, false, false] rfl rfl (one_of HT_.out (by kernel_rfl)) (by decide) (fun K hK => ?_)
        refine Kd.R_append_rows_step k46 (w0 := w) w.heap.size (by rfl) (.tmp 140) (.tmp 146) 27 46 (.agg #[(.int .i64 0), (.int .i64 0)]) 16 rfl Try.underlying27 info46 rfl (by decide) (by omega) v9 ([] ++ x.fr.take m1) (x.fr.drop (m1 + 1)) _ _ _ (fun _ => True) (fun _ => False) rfl rfl HR9.out (show Kd.C k46 w9 A2 m2 (x.fr.drop (m1 + 1)) by have h_ := Kd.C_drop (m := m1 + 1) (c := cf) (Kd.Q_reads' HQ9.out).2.2 hlt hroom; rw [HA2.out, HM2.out]; rwa [show (x.fr.drop (m1 + 1)).length = x.fr.length - (m1 + 1) by rw [List.length_drop]] at h_) (fun _ _ h => h) (fun _ h => h.elim) (fun _ _ => trivial) HL9.out.below HL9.out.sz (by have := HM2.out; simp; omega) ?_
        intro v10 w10 ho hb hg hat
        rw [cut_erase] at ho
        obtain ⟨A10, c10, rfl, _, _⟩ := Kd.R_reads ho
        have HL10 := Aside0.mk (HL9.out.grT (Kd.R_typed HR9.out) (by decide) (by decide) (Kd.Q_mono (Kd.Q_after (ok := fun _ => True) HQ9.out hg hat) (fun _ _ => trivial)) (Kd.Q_over' HL9.out.ak (Kd.R_typed HR9.out) (by decide) hg) hb hg)
        have HR10 := Aside0.mk ho
        clear ho hb hg hat
        refine hK.out _ _ ⟨(blk_cell HL10.out.blk 0).trans rfl, (blk_cell HL10.out.blk 1).trans rfl, (blk_cell HL10.out.blk 2).trans rfl, (blk_cell HL10.out.blk 3).trans rfl, (blk_cell HL10.out.blk 4).trans rfl, (blk_cell HL10.out.blk 5).trans rfl, (blk_cell HL10.out.blk 6).trans rfl, (blk_cell HL10.out.ev 0).trans rfl, (blk_cell HL10.out.ev 1).trans rfl⟩ (fun hHeld => ?_)
        clear hK K
        refine norm_ (a' := ?_) ?_ ?_
        rotate_left
        · show Act.put _ (some 147) _ = _
          simp only [Act.put, List.setIfInBounds_toArray, List.set_cons_zero, List.set_cons_succ, i64_w, i32_w]
          rfl
        refine pure_ (i := 14) (N := some 148) (v := ?_) (a' := ?_) #[true, true, true, true, true, true, true, true, true, true, true, true, true, true, true, false] rfl rfl (any_of HT_.out (by kernel_rfl)) (fun _ _ _ h => h) (Or.inl ⟨by rfl, ?_⟩) ?_ ?_
        rotate_left
        · intro w'
          go_simp
          with_reducible rfl
        rotate_left
        · simp only [Act.put, List.setIfInBounds_toArray, List.set_cons_zero, List.set_cons_succ, i64_w, i32_w]
          rfl
        have x0 : w10.cell? ⟨w.heap.size, 0, none⟩ = some (.int .i64 x.cap) := (blk_cell HL10.out.blk 0).trans rfl
        have fx0 := blk_frozen HL10.out.blk 0
        have x1 : w10.cell? ⟨w.heap.size, 1, none⟩ = some (.int .i64 x.mod) := (blk_cell HL10.out.blk 1).trans rfl
        have fx1 := blk_frozen HL10.out.blk 1
        have x2 : w10.cell? ⟨w.heap.size, 2, none⟩ = some (.int .i64 x.lab) := (blk_cell HL10.out.blk 2).trans rfl
        have fx2 := blk_frozen HL10.out.blk 2
        have x3 : w10.cell? ⟨w.heap.size, 3, none⟩ = some (.int .i64 x.item) := (blk_cell HL10.out.blk 3).trans rfl
        have fx3 := blk_frozen HL10.out.blk 3
        have x4 : w10.cell? ⟨w.heap.size, 4, none⟩ = some (.int .i64 x.last) := (blk_cell HL10.out.blk 4).trans rfl
        have fx4 := blk_frozen HL10.out.blk 4
        have x5 : w10.cell? ⟨w.heap.size, 5, none⟩ = some (.slice Af x.fr.length cf) := (blk_cell HL10.out.blk 5).trans rfl
        have fx5 := blk_frozen HL10.out.blk 5
        have x6 : w10.cell? ⟨w.heap.size, 6, none⟩ = some (.slice Aa x.ak.length ca) := (blk_cell HL10.out.blk 6).trans rfl
        have fx6 := blk_frozen HL10.out.blk 6
        refine last_ (i := 15) (N := none) #[true, true, true, true, true, true, true, true, true, true, true, true, true, true, true, true] rfl rfl (one_of HT_.out (by kernel_rfl)) (by decide) (fun K hK => ?_)
        refine skip_ (w1 := ?_) (by rfl) rfl ?_ ?_
        rotate_left
        · go_simp
          rfl
        refine hK.out _ _ ?_
        clear hK K
        refine done_ (done_of HT_.out (by kernel_rfl)) ?_
        have HLF := Aside0.mk (HL10.out.putF (Kd.Q_of_R HR10.out))
        generalize w10.setCell ⟨w.heap.size, 5, none⟩ (.slice A10 (x.fr.eraseIdx m1).length c10) = W11 at HLF ⊢
        clear x0 fx0 x1 fx1 x2 fx2 x3 fx3 x4 fx4 x5 fx5 x6 fx6
        have x0 : W11.cell? ⟨w.heap.size, 0, none⟩ = some (.int .i64 x.cap) := (blk_cell HLF.out.blk 0).trans rfl
        have fx0 := blk_frozen HLF.out.blk 0
        have x1 : W11.cell? ⟨w.heap.size, 1, none⟩ = some (.int .i64 x.mod) := (blk_cell HLF.out.blk 1).trans rfl
        have fx1 := blk_frozen HLF.out.blk 1
        have x2 : W11.cell? ⟨w.heap.size, 2, none⟩ = some (.int .i64 x.lab) := (blk_cell HLF.out.blk 2).trans rfl
        have fx2 := blk_frozen HLF.out.blk 2
        have x3 : W11.cell? ⟨w.heap.size, 3, none⟩ = some (.int .i64 x.item) := (blk_cell HLF.out.blk 3).trans rfl
        have fx3 := blk_frozen HLF.out.blk 3
        have x4 : W11.cell? ⟨w.heap.size, 4, none⟩ = some (.int .i64 x.last) := (blk_cell HLF.out.blk 4).trans rfl
        have fx4 := blk_frozen HLF.out.blk 4
        have x5 : W11.cell? ⟨w.heap.size, 5, none⟩ = some (.slice A10 (x.fr.eraseIdx m1).length c10) := (blk_cell HLF.out.blk 5).trans rfl
        have fx5 := blk_frozen HLF.out.blk 5
        have x6 : W11.cell? ⟨w.heap.size, 6, none⟩ = some (.slice Aa x.ak.length ca) := (blk_cell HLF.out.blk 6).trans rfl
        have fx6 := blk_frozen HLF.out.blk 6
        have y0 : W11.cell? ⟨w.heap.size + 1 + 1, 0, none⟩ = some (.int .i64 0) := (blk_cell HLF.out.out 0).trans rfl
        have fy0 := blk_frozen HLF.out.out 0
        have y1 : W11.cell? ⟨w.heap.size + 1 + 1, 1, none⟩ = some (.int .i64 0) := (blk_cell HLF.out.out 1).trans rfl
        have fy1 := blk_frozen HLF.out.out 1
        have y2 : W11.cell? ⟨w.heap.size + 1 + 1, 2, none⟩ = some (.int .i64 0) := (blk_cell HLF.out.out 2).trans rfl
        have fy2 := blk_frozen HLF.out.out 2
        have y3 : W11.cell? ⟨w.heap.size + 1 + 1, 3, none⟩ = some (.int .i64 0) := (blk_cell HLF.out.out 3).trans rfl
        have fy3 := blk_frozen HLF.out.out 3
        have y4 : W11.cell? ⟨w.heap.size + 1 + 1, 4, none⟩ = some (.int .i64 0) := (blk_cell HLF.out.out 4).trans rfl
        have fy4 := blk_frozen HLF.out.out 4
        have y5 : W11.cell? ⟨w.heap.size + 1 + 1, 5, none⟩ = some (.slice none 0 0) := (blk_cell HLF.out.out 5).trans rfl
        have fy5 := blk_frozen HLF.out.out 5
        have y6 : W11.cell? ⟨w.heap.size + 1 + 1, 6, none⟩ = some (.slice none 0 0) := (blk_cell HLF.out.out 6).trans rfl
        have fy6 := blk_frozen HLF.out.out 6
        have HS := Aside0.mk (show p = ({ x with fr := x.fr.eraseIdx m1 }, 0, false) by rw [HP.out, HM1.out]; unfold stepD; rw [if_neg (by omega), if_neg (by omega), if_neg (by omega)]; rw [if_pos rfl, if_pos ⟨g0, g1⟩])
        go_wp2_with (fail)
        refine bodyPost_ret (results_ctt rfl _ (put7 W11 (w.heap.size + 1 + 1) (.int .i64 x.cap) (.int .i64 x.mod) (.int .i64 x.lab) (.int .i64 x.item) (.int .i64 x.last) (.slice A10 (x.fr.eraseIdx m1).length c10) (.slice Aa x.ak.length ca)) (w.heap.size + 1 + 1) 29 #[.int .i64 x.cap, .int .i64 x.mod, .int .i64 x.lab, .int .i64 x.item, .int .i64 x.last, .slice A10 (x.fr.eraseIdx m1).length c10, .slice Aa x.ak.length ca] (0, 0) _ rfl (put7_blk HLF.out.out _ _ _ _ _ _ _) Try.underlying29 rfl (by kernel_rfl)) rfl ?_
        exact RefAt.fin HLF.out (by rw [← HX.out, ← HP.out]; exact HS.out) _ _ _ _ _ _ _
      · have hfn : selfstabref01_In.f e1 0 (x.fr.length - 1) = some false := by
          unfold selfstabref01_In.f
          by_cases g0 : 0 ≤ e1
          · rw [if_pos g0, decide_eq_false (by omega)]
          · rw [if_neg g0]
        have HFN := Aside0.mk hfn
        have HS := Aside0.mk (show p = (x, 0, false) by rw [HP.out]; unfold stepD; rw [if_neg (by omega), if_neg (by omega), if_neg (by omega)]; rw [if_pos rfl, if_neg hin])
        clear hfn hin
        go_wp2_with (go_at_call 28; refine (selfstabref01_In.calls e1 0 (x.fr.length - 1) false _ HFN.out).mono ?_; rintro e w' ⟨rfl, ⟨nd, rfl⟩⟩)
        have HL3 := Aside0.mk (HL.out.step (pw_below_drewN (Below.refl _ _) nd))
        refine bodyPost_ret (results_ctt rfl _ (put7 (wc.drewN nd) (w.heap.size + 1 + 1) (.int .i64 x.cap) (.int .i64 x.mod) (.int .i64 x.lab) (.int .i64 x.item) (.int .i64 x.last) (.slice Af x.fr.length cf) (.slice Aa x.ak.length ca)) (w.heap.size + 1 + 1) 29 #[.int .i64 x.cap, .int .i64 x.mod, .int .i64 x.lab, .int .i64 x.item, .int .i64 x.last, .slice Af x.fr.length cf, .slice Aa x.ak.length ca] (0, 0) _ rfl (put7_blk HL3.out.out _ _ _ _ _ _ _) Try.underlying29 rfl (by kernel_rfl)) rfl ?_
        exact RefAt.fin HL3.out (by rw [← HX.out, ← HP.out]; exact HS.out) _ _ _ _ _ _ _
    by_cases k5 : e0 = 5
    · subst k5
      by_cases hin : 0 ≤ e1 ∧ e1 < (x.ak.length : Int)
      · obtain ⟨g0, g1⟩ := hin
        have hfn : selfstabref01_In.f e1 0 (x.ak.length - 1) = some true := by unfold selfstabref01_In.f; rw [if_pos g0, decide_eq_true (by omega)]
        have HFN := Aside0.mk hfn
        clear hfn
        go_upto_region 22 with (go_at_call 28; refine (selfstabref01_In.calls e1 0 (x.ak.length - 1) true _ HFN.out).mono ?_; rintro e w' ⟨rfl, ⟨nd, rfl⟩⟩)
        have HL3 := Aside0.mk (HL.out.step (pw_below_drewN (Below.refl _ _) nd))
        generalize wc.drewN nd = W6 at HL3 ⊢
        clear x0 fx0 y0 fy0 x1 fx1 y1 fy1 x2 fx2 y2 fy2 x3 fx3 y3 fy3 x4 fx4 y4 fy4 x5 fx5 y5 fy5 x6 fx6 y6 fy6 ev0 ev1
        have HD := Aside0.mk (HL3.out.step (below_drew (Below.refl _ _)))
        have hroom : x.ak.length ≤ ca := (Kd.Q_reads' HL3.out.ak).2.1
        obtain ⟨i0, hi0, _, hsz0, _⟩ := info_parts info3
        have hw1 : wrap64 (e1 + 1) = e1 + 1 := by unfold wrap64; omega
        have hcutA := cut_to (P := Try.prog) 22 3 .i64 Try.underlying22 hi0 Aa x.ak.length ca e1 g0 (by omega) hroom
        have hcutB := cut_from (P := Try.prog) 22 3 .i64 Try.underlying22 hi0 1 hsz0 Aa x.ak.length ca (e1 + 1) (by omega) (by omega)
        obtain ⟨A2, hA2⟩ : ∃ A2, A2 = (if ca = (e1 + 1).toNat then Aa else Aa.map (·.add ((e1 + 1).toNat * 1))) := ⟨_, rfl⟩
        obtain ⟨m2, hm2⟩ : ∃ m2, m2 = x.ak.length - (e1 + 1).toNat := ⟨_, rfl⟩
        obtain ⟨c2, hc2⟩ : ∃ c2, c2 = ca - (e1 + 1).toNat := ⟨_, rfl⟩
        obtain ⟨m1, hm1⟩ : ∃ m1, m1 = e1.toNat := ⟨_, rfl⟩
        have hm11 : (e1 + 1).toNat = m1 + 1 := by omega
        have hlt : m1 < x.ak.length := by omega
        rw [← hA2, ← hm2, ← hc2] at hcutB
        rw [← hm1] at hcutA
        rw [hm11] at hA2 hm2 hc2
        have HM2 := Aside0.mk hm2
        have HA2 := Aside0.mk hA2
        have HM1 := Aside0.mk hm1
        clear hA2 hm2 hc2 hm1 hm11 hi0 hsz0
        refine start_ (n := 16) (S := fun w' => w'.cell? ⟨w.heap.size, 0, none⟩ = some (.int .i64 x.cap) ∧ w'.cell? ⟨w.heap.size, 1, none⟩ = some (.int .i64 x.mod) ∧ w'.cell? ⟨w.heap.size, 2, none⟩ = some (.int .i64 x.lab) ∧ w'.cell? ⟨w.heap.size, 3, none⟩ = some (.int .i64 x.item) ∧ w'.cell? ⟨w.heap.size, 4, none⟩ = some (.int .i64 x.last) ∧ w'.cell? ⟨w.heap.size, 5, none⟩ = some (.slice Af x.fr.length cf) ∧ w'.cell? ⟨w.heap.size, 6, none⟩ = some (.slice Aa x.ak.length ca) ∧ w'.cell? ⟨w.heap.size + 1, 0, none⟩ = some (.int .i64 5) ∧ w'.cell? ⟨w.heap.size + 1, 1, none⟩ = some (.int .i64 e1)) (ds := [15]) #[false, false, false, false, false, false, false, false, false, false, false, false, false, false, false, false] (by kernel_rfl) rfl rfl ⟨(blk_cell HL3.out.blk 0).trans rfl, (blk_cell HL3.out.blk 1).trans rfl, (blk_cell HL3.out.blk 2).trans rfl, (blk_cell HL3.out.blk 3).trans rfl, (blk_cell HL3.out.blk 4).trans rfl, (blk_cell HL3.out.blk 5).trans rfl, (blk_cell HL3.out.blk 6).trans rfl, (blk_cell HL3.out.ev 0).trans rfl, (blk_cell HL3.out.ev 1).trans rfl⟩ (fun hHeld => ?_); refine with_tabW rs_tab22 rs_bits22 (fun HT_ HW_ => ?_)
        generalize W6.drew = W7 at HD hHeld ⊢
        refine pure_ (i := 1) (N := some 163) (v := ?_) (a' := ?_) #[false, true, false, false, false, false, false, false, false, false, false, false, false, false, false, false] rfl rfl (any_of HT_.out (by kernel_rfl)) (fun _ _ _ h => h) (Or.inl ⟨by rfl, ?_⟩) ?_ ?_
        rotate_left
        · intro w'
          go_simp
          with_reducible rfl
        rotate_left
        · simp only [Act.put, List.setIfInBounds_toArray, List.set_cons_zero, List.set_cons_succ, i64_w, i32_w]
          rfl
        refine pure_ (i := 3) (N := some 165) (v := ?_) (a' := ?_) #[false, true, false, true, false, false, false, false, false, false, false, false, false, false, false, false] rfl rfl (any_of HT_.out (by kernel_rfl)) (fun _ _ _ h => h) (Or.inl ⟨by rfl, ?_⟩) ?_ ?_
        rotate_left
        · intro w'
          go_simp
          with_reducible rfl
        rotate_left
        · simp only [Act.put, List.setIfInBounds_toArray, List.set_cons_zero, List.set_cons_succ, i64_w, i32_w]
          rfl
        refine pure_ (i := 7) (N := some 169) (v := ?_) (a' := ?_) #[false, true, false, true, false, false, false, true, false, false, false, false, false, false, false, false] rfl rfl (any_of HT_.out (by kernel_rfl)) (fun _ _ _ h => h) (Or.inl ⟨by rfl, ?_⟩) ?_ ?_
        rotate_left
        · intro w'
          go_simp
          with_reducible rfl
        rotate_left
        · simp only [Act.put, List.setIfInBounds_toArray, List.set_cons_zero, List.set_cons_succ, i64_w, i32_w]
          rfl
        refine pure_ (i := 9) (N := some 171) (v := ?_) (a' := ?_) #[false, true, false, true, false, false, false, true, false, true, false, false, false, false, false, false] rfl rfl (any_of HT_.out (by kernel_rfl)) (fun _ _ _ h => h) (Or.inl ⟨by rfl, ?_⟩) ?_ ?_
        rotate_left
        · intro w'
          go_simp
          with_reducible rfl
        rotate_left
        · simp only [Act.put, List.setIfInBounds_toArray, List.set_cons_zero, List.set_cons_succ, i64_w, i32_w]
          rfl
        refine take_ (i := 2) (N := some 164) (v := ?_) (a' := ?_) #[false, true, true, true, false, false, false, true, false, true, false, false, false, false, false, false] rfl rfl (take_ofW HT_.out HW_.out (by kernel_rfl)) (fun _ _ _ h => h) (Or.inl ⟨by rfl, ?_⟩) hHeld ?_ ?_
        rotate_left
        · rintro w' ⟨s0, s1, s2, s3, s4, s5, s6, s7, s8⟩
          go_simp
          with_reducible rfl
        rotate_left
        · simp only [Act.put, List.setIfInBounds_toArray, List.set_cons_zero, List.set_cons_succ, i64_w, i32_w]
          rfl
        refine take_ (i := 4) (N := some 166) (v := ?_) (a' := ?_) #[false, true, true, true, true, false, false, true, false, true, false, false, false, false, false, false] rfl rfl (take_ofW HT_.out HW_.out (by kernel_rfl)) (fun _ _ _ h => h) (Or.inl ⟨by rfl, ?_⟩) hHeld ?_ ?_
        rotate_left
        · rintro w' ⟨s0, s1, s2, s3, s4, s5, s6, s7, s8⟩
          go_simp
          with_reducible rfl
        rotate_left
        · simp only [Act.put, List.setIfInBounds_toArray, List.set_cons_zero, List.set_cons_succ, i64_w, i32_w]
          rfl
        refine pure_ (i := 5) (N := some 167) (v := ?_) (a' := ?_) #[false, true, true, true, true, true, false, true, false, true, false, false, false, false, false, false] rfl rfl (any_of HT_.out (by kernel_rfl)) (fun _ _ _ h => h) (Or.inl ⟨by rfl, ?_⟩) ?_ ?_
        rotate_left
        · intro w'
          go_simp
          with_reducible rfl
        rotate_left
        · simp only [Act.put, List.setIfInBounds_toArray, List.set_cons_zero, List.set_cons_succ, i64_w, i32_w]
          rfl
        refine take_ (i := 8) (N := some 170) (v := ?_) (a' := ?_) #[false, true, true, true, true, true, false, true, true, true, false, false, false, false, false, false] rfl rfl (take_ofW HT_.out HW_.out (by kernel_rfl)) (fun _ _ _ h => h) (Or.inl ⟨by rfl, ?_⟩) hHeld ?_ ?_
        rotate_left
        · rintro w' ⟨s0, s1, s2, s3, s4, s5, s6, s7, s8⟩
          go_simp
          with_reducible rfl
        rotate_left
        · simp only [Act.put, List.setIfInBounds_toArray, List.set_cons_zero, List.set_cons_succ, i64_w, i32_w]
          rfl
        refine take_ (i := 10) (N := some 172) (v := ?_) (a' := ?_) #[false, true, true, true, true, true, false, true, true, true, true, false, false, false, false, false] rfl rfl (take_ofW HT_.out HW_.out (by kernel_rfl)) (fun _ _ _ h => h) (Or.inl ⟨by rfl, ?_⟩) hHeld ?_ ?_
        rotate_left
        · rintro w' ⟨s0, s1, s2, s3, s4, s5, s6, s7, s8⟩
          go_simp
          with_reducible rfl
        rotate_left
        · simp only [Act.put, List.setIfInBounds_toArray, List.set_cons_zero, List.set_cons_succ, i64_w, i32_w]
          rfl
        refine pure_ (i := 11) (N := some 173) (v := ?_) (a' := ?_) #[false, true, true, true, true, true, false, true, true, true, true, true, false, false, false, false] rfl rfl (any_of HT_.out (by kernel_rfl)) (fun _ _ _ h => h) (Or.inl ⟨by rfl, ?_⟩) ?_ ?_
        rotate_left
        · intro w'
          go_simp
          with_reducible rfl
        rotate_left
        · simp only [Act.put, List.setIfInBounds_toArray, List.set_cons_zero, List.set_cons_succ, i64_w, i32_w]
          rfl
        refine pure_ (i := 12) (N := some 174) (v := ?_) (a' := ?_) #[false, true, true, true, true, true, false, true, true, true, true, true, true, false, false, false] rfl rfl (any_of HT_.out (by kernel_rfl)) (fun _ _ _ h => h) (Or.inl ⟨by rfl, ?_⟩) ?_ ?_
        rotate_left
        · intro w'
          go_simp
          with_reducible rfl
        rotate_left
        · simp only [Act.put, List.setIfInBounds_toArray, List.set_cons_zero, List.set_cons_succ, i64_w, i32_w]
          rfl
        refine one_ (i := 0) (N := some 162) #[true, true, true, true, true, true, false, true, true, true, true, true, true, false, false, false] rfl rfl (one_of HT_.out (by kernel_rfl)) (by decide) (fun K hK => ?_)
        refine Kd.R_lit_step (Kd.int .i64) _ 3 ?hg (N := 162) ?hd (xs := []) (inner := []) (ok := fun _ => True) (okp := fun _ => True) ?hr ?hp (fun _ hk => hk) trivial (Below.refl _ _) (Nat.le_refl _) (by simp) ?_; (case hd => rfl); (case hg => rfl); (case hr => first | (go_simp; done) | (go_simp; rfl)); (case hp => exact (Reps.none _ _))
        intro v8 w8 ho hb hg_ hnew_
        clear hg_ hnew_
        have HL8 := Aside0.mk (HD.out.step hb)
        have HQ8 := Aside0.mk (Kd.Q_elder' HD.out.ak (Kd.R_base ho) hb)
        have HR8 := Aside0.mk (Kd.R_lower ho HD.out.sz)
        clear ho hb
        refine hK.out _ _ ⟨(blk_cell HL8.out.blk 0).trans rfl, (blk_cell HL8.out.blk 1).trans rfl, (blk_cell HL8.out.blk 2).trans rfl, (blk_cell HL8.out.blk 3).trans rfl, (blk_cell HL8.out.blk 4).trans rfl, (blk_cell HL8.out.blk 5).trans rfl, (blk_cell HL8.out.blk 6).trans rfl, (blk_cell HL8.out.ev 0).trans rfl, (blk_cell HL8.out.ev 1).trans rfl⟩ (fun hHeld => ?_)
        clear hK K
        refine norm_ (a' := ?_) ?_ ?_
        rotate_left
        · show Act.put _ (some 162) _ = _
          simp only [Act.put, List.setIfInBounds_toArray, List.set_cons_zero, List.set_cons_succ, i64_w, i32_w]
          rfl
        refine one_ (i := 6) (N := some 168) #[true, true, true, true, true, true, true, true, true, true, true, true, true, false, false, false] rfl rfl (one_of HT_.out (by kernel_rfl)) (by decide) (fun K hK => ?_)
        refine Kd.R_append_rows_step (Kd.int .i64) (w0 := w) w.heap.size (by rfl) (.tmp 162) (.tmp 167) 22 3 (.int .i64 0) 8 rfl Try.underlying22 info3 rfl (by decide) (by omega) v8 [] (x.ak.take m1) _ _ _ (fun _ => True) (fun _ => False) rfl rfl HR8.out (show Kd.C (Kd.int .i64) w8 Aa m1 (x.ak.take m1) by have h_ := Kd.C_take (m := m1) (Kd.Q_reads' HQ8.out).2.2 (Nat.le_of_lt hlt); rwa [show (x.ak.take m1).length = m1 by rw [List.length_take]; omega] at h_) (fun _ _ h => h) (fun _ h => h.elim) (fun _ _ => trivial) HL8.out.below HL8.out.sz (by have := HM2.out; simp; omega) ?_
        intro v9 w9 ho hb hg hat
        have HL9 := Aside0.mk (HL8.out.grT (Kd.R_typed HR8.out) (by decide) (by decide) (Kd.Q_over' HL8.out.fr (Kd.R_typed HR8.out) (by decide) hg) (Kd.Q_mono (Kd.Q_after (ok := fun _ => True) HQ8.out hg hat) (fun _ _ => trivial)) hb hg)
        have HQ9 := Aside0.mk (Kd.Q_after (ok := fun _ => True) HQ8.out hg hat)
        have HR9 := Aside0.mk ho
        clear ho hb hg hat
        refine hK.out _ _ ⟨(blk_cell HL9.out.blk 0).trans rfl, (blk_cell HL9.out.blk 1).trans rfl, (blk_cell HL9.out.blk 2).trans rfl, (blk_cell HL9.out.blk 3).trans rfl, (blk_cell HL9.out.blk 4).trans rfl, (blk_cell HL9.out.blk 5).trans rfl, (blk_cell HL9.out.blk 6).trans rfl, (blk_cell HL9.out.ev 0).trans rfl, (blk_cell HL9.out.ev 1).trans rfl⟩ (fun hHeld => ?_)
        clear hK K
        refine norm_ (a' := ?_) ?_ ?_
        rotate_left
        · show Act.put _ (some 168) _ = _
          simp only [Act.put, List.setIfInBounds_toArray, List.set_cons_zero, List.set_cons_succ, i64_w, i32_w]
          rfl
        refine one_ (i := 13) (N := some 175) #[true, true, true, true, true, true, true, true, true, true, true, true, true, true, false, false] rfl rfl (one_of HT_.out (by kernel_rfl)) (by decide) (fun K hK => ?_)
        refine Kd.R_append_rows_step (Kd.int .i64) (w0 := w) w.heap.size (by rfl) (.tmp 168) (.tmp 174) 22 3 (.int .i64 0) 8 rfl Try.underlying22 info3 rfl (by decide) (by omega) v9 ([] ++ x.ak.take m1) (x.ak.drop (m1 + 1)) _ _ _ (fun _ => True) (fun _ => False) rfl rfl HR9.out (show Kd.C (Kd.int .i64) w9 A2 m2 (x.ak.drop (m1 + 1)) by have h_ := Kd.C_drop (m := m1 + 1) (c := ca) (Kd.Q_reads' HQ9.out).2.2 hlt hroom; rw [HA2.out, HM2.out]; rwa [show (x.ak.drop (m1 + 1)).length = x.ak.length - (m1 + 1) by rw [List.length_drop]] at h_) (fun _ _ h => h) (fun _ h => h.elim) (fun _ _ => trivial) HL9.out.below HL9.out.sz (by have := HM2.out; simp; omega) ?_
        intro v10 w10 ho hb hg hat
        rw [cut_erase] at ho
        obtain ⟨A10, c10, rfl, _, _⟩ := Kd.R_reads ho
        have HL10 := Aside0.mk (HL9.out.grT (Kd.R_typed HR9.out) (by decide) (by decide) (Kd.Q_over' HL9.out.fr (Kd.R_typed HR9.out) (by decide) hg) (Kd.Q_mono (Kd.Q_after (ok := fun _ => True) HQ9.out hg hat) (fun _ _ => trivial)) hb hg)
        have HR10 := Aside0.mk ho
        clear ho hb hg hat
        refine hK.out _ _ ⟨(blk_cell HL10.out.blk 0).trans rfl, (blk_cell HL10.out.blk 1).trans rfl, (blk_cell HL10.out.blk 2).trans rfl, (blk_cell HL10.out.blk 3).trans rfl, (blk_cell HL10.out.blk 4).trans rfl, (blk_cell HL10.out.blk 5).trans rfl, (blk_cell HL10.out.blk 6).trans rfl, (blk_cell HL10.out.ev 0).trans rfl, (blk_cell HL10.out.ev 1).trans rfl⟩ (fun hHeld => ?_)
        clear hK K
        refine norm_ (a' := ?_) ?_ ?_
        rotate_left
        · show Act.put _ (some 175) _ = _
          simp only [Act.put, List.setIfInBounds_toArray, List.set_cons_zero, List.set_cons_succ, i64_w, i32_w]
          rfl
        refine pure_ (i := 14) (N := some 176) (v := ?_) (a' := ?_) #[true, true, true, true, true, true, true, true, true, true, true, true, true, true, true, false] rfl rfl (any_of HT_.out (by kernel_rfl)) (fun _ _ _ h => h) (Or.inl ⟨by rfl, ?_⟩) ?_ ?_
        rotate_left
        · intro w'
          go_simp
          with_reducible rfl
        rotate_left
        · simp only [Act.put, List.setIfInBounds_toArray, List.set_cons_zero, List.set_cons_succ, i64_w, i32_w]
          rfl
        have x0 : w10.cell? ⟨w.heap.size, 0, none⟩ = some (.int .i64 x.cap) := (blk_cell HL10.out.blk 0).trans rfl
        have fx0 := blk_frozen HL10.out.blk 0
        have x1 : w10.cell? ⟨w.heap.size, 1, none⟩ = some (.int .i64 x.mod) := (blk_cell HL10.out.blk 1).trans rfl
        have fx1 := blk_frozen HL10.out.blk 1
        have x2 : w10.cell? ⟨w.heap.size, 2, none⟩ = some (.int .i64 x.lab) := (blk_cell HL10.out.blk 2).trans rfl
        have fx2 := blk_frozen HL10.out.blk 2
        have x3 : w10.cell? ⟨w.heap.size, 3, none⟩ = some (.int .i64 x.item) := (blk_cell HL10.out.blk 3).trans rfl
        have fx3 := blk_frozen HL10.out.blk 3
        have x4 : w10.cell? ⟨w.heap.size, 4, none⟩ = some (.int .i64 x.last) := (blk_cell HL10.out.blk 4).trans rfl
        have fx4 := blk_frozen HL10.out.blk 4
        have x5 : w10.cell? ⟨w.heap.size, 5, none⟩ = some (.slice Af x.fr.length cf) := (blk_cell HL10.out.blk 5).trans rfl
        have fx5 := blk_frozen HL10.out.blk 5
        have x6 : w10.cell? ⟨w.heap.size, 6, none⟩ = some (.slice Aa x.ak.length ca) := (blk_cell HL10.out.blk 6).trans rfl
        have fx6 := blk_frozen HL10.out.blk 6
        refine last_ (i := 15) (N := none) #[true, true, true, true, true, true, true, true, true, true, true, true, true, true, true, true] rfl rfl (one_of HT_.out (by kernel_rfl)) (by decide) (fun K hK => ?_)
        refine skip_ (w1 := ?_) (by rfl) rfl ?_ ?_
        rotate_left
        · go_simp
          rfl
        refine hK.out _ _ ?_
        clear hK K
        refine done_ (done_of HT_.out (by kernel_rfl)) ?_
        have HLF := Aside0.mk (HL10.out.deqA (Kd.Q_of_R HR10.out))
        generalize w10.setCell ⟨w.heap.size, 6, none⟩ (.slice A10 (x.ak.eraseIdx m1).length c10) = W11 at HLF ⊢
        clear x0 fx0 x1 fx1 x2 fx2 x3 fx3 x4 fx4 x5 fx5 x6 fx6
        have x0 : W11.cell? ⟨w.heap.size, 0, none⟩ = some (.int .i64 x.cap) := (blk_cell HLF.out.blk 0).trans rfl
        have fx0 := blk_frozen HLF.out.blk 0
        have x1 : W11.cell? ⟨w.heap.size, 1, none⟩ = some (.int .i64 x.mod) := (blk_cell HLF.out.blk 1).trans rfl
        have fx1 := blk_frozen HLF.out.blk 1
        have x2 : W11.cell? ⟨w.heap.size, 2, none⟩ = some (.int .i64 x.lab) := (blk_cell HLF.out.blk 2).trans rfl
        have fx2 := blk_frozen HLF.out.blk 2
        have x3 : W11.cell? ⟨w.heap.size, 3, none⟩ = some (.int .i64 x.item) := (blk_cell HLF.out.blk 3).trans rfl
        have fx3 := blk_frozen HLF.out.blk 3
        have x4 : W11.cell? ⟨w.heap.size, 4, none⟩ = some (.int .i64 x.last) := (blk_cell HLF.out.blk 4).trans rfl
        have fx4 := blk_frozen HLF.out.blk 4
        have x5 : W11.cell? ⟨w.heap.size, 5, none⟩ = some (.slice Af x.fr.length cf) := (blk_cell HLF.out.blk 5).trans rfl
        have fx5 := blk_frozen HLF.out.blk 5
        have x6 : W11.cell? ⟨w.heap.size, 6, none⟩ = some (.slice A10 (x.ak.eraseIdx m1).length c10) := (blk_cell HLF.out.blk 6).trans rfl
        have fx6 := blk_frozen HLF.out.blk 6
        have y0 : W11.cell? ⟨w.heap.size + 1 + 1, 0, none⟩ = some (.int .i64 0) := (blk_cell HLF.out.out 0).trans rfl
        have fy0 := blk_frozen HLF.out.out 0
        have y1 : W11.cell? ⟨w.heap.size + 1 + 1, 1, none⟩ = some (.int .i64 0) := (blk_cell HLF.out.out 1).trans rfl
        have fy1 := blk_frozen HLF.out.out 1
        have y2 : W11.cell? ⟨w.heap.size + 1 + 1, 2, none⟩ = some (.int .i64 0) := (blk_cell HLF.out.out 2).trans rfl
        have fy2 := blk_frozen HLF.out.out 2
        have y3 : W11.cell? ⟨w.heap.size + 1 + 1, 3, none⟩ = some (.int .i64 0) := (blk_cell HLF.out.out 3).trans rfl
        have fy3 := blk_frozen HLF.out.out 3
        have y4 : W11.cell? ⟨w.heap.size + 1 + 1, 4, none⟩ = some (.int .i64 0) := (blk_cell HLF.out.out 4).trans rfl
        have fy4 := blk_frozen HLF.out.out 4
        have y5 : W11.cell? ⟨w.heap.size + 1 + 1, 5, none⟩ = some (.slice none 0 0) := (blk_cell HLF.out.out 5).trans rfl
        have fy5 := blk_frozen HLF.out.out 5
        have y6 : W11.cell? ⟨w.heap.size + 1 + 1, 6, none⟩ = some (.slice none 0 0) := (blk_cell HLF.out.out 6).trans rfl
        have fy6 := blk_frozen HLF.out.out 6
        have HS := Aside0.mk (show p = ({ x with ak := x.ak.eraseIdx m1 }, 0, false) by rw [HP.out, HM1.out]; unfold stepD; rw [if_neg (by omega), if_neg (by omega), if_neg (by omega), if_neg (by omega)]; rw [if_pos rfl, if_pos ⟨g0, g1⟩])
        go_wp2_with (fail)
        refine bodyPost_ret (results_ctt rfl _ (put7 W11 (w.heap.size + 1 + 1) (.int .i64 x.cap) (.int .i64 x.mod) (.int .i64 x.lab) (.int .i64 x.item) (.int .i64 x.last) (.slice Af x.fr.length cf) (.slice A10 (x.ak.eraseIdx m1).length c10)) (w.heap.size + 1 + 1) 29 #[.int .i64 x.cap, .int .i64 x.mod, .int .i64 x.lab, .int .i64 x.item, .int .i64 x.last, .slice Af x.fr.length cf, .slice A10 (x.ak.eraseIdx m1).length c10] (0, 0) _ rfl (put7_blk HLF.out.out _ _ _ _ _ _ _) Try.underlying29 rfl (by kernel_rfl)) rfl ?_
        exact RefAt.fin HLF.out (by rw [← HX.out, ← HP.out]; exact HS.out) _ _ _ _ _ _ _
      · have hfn : selfstabref01_In.f e1 0 (x.ak.length - 1) = some false := by
          unfold selfstabref01_In.f
          by_cases g0 : 0 ≤ e1
          · rw [if_pos g0, decide_eq_false (by omega)]
          · rw [if_neg g0]
        have HFN := Aside0.mk hfn
        have HS := Aside0.mk (show p = (x, 0, false) by rw [HP.out]; unfold stepD; rw [if_neg (by omega), if_neg (by omega), if_neg (by omega), if_neg (by omega)]; rw [if_pos rfl, if_neg hin])
        clear hfn hin
        go_wp2_with (go_at_call 28; refine (selfstabref01_In.calls e1 0 (x.ak.length - 1) false _ HFN.out).mono ?_; rintro e w' ⟨rfl, ⟨nd, rfl⟩⟩)
        have HL3 := Aside0.mk (HL.out.step (pw_below_drewN (Below.refl _ _) nd))
        refine bodyPost_ret (results_ctt rfl _ (put7 (wc.drewN nd) (w.heap.size + 1 + 1) (.int .i64 x.cap) (.int .i64 x.mod) (.int .i64 x.lab) (.int .i64 x.item) (.int .i64 x.last) (.slice Af x.fr.length cf) (.slice Aa x.ak.length ca)) (w.heap.size + 1 + 1) 29 #[.int .i64 x.cap, .int .i64 x.mod, .int .i64 x.lab, .int .i64 x.item, .int .i64 x.last, .slice Af x.fr.length cf, .slice Aa x.ak.length ca] (0, 0) _ rfl (put7_blk HL3.out.out _ _ _ _ _ _ _) Try.underlying29 rfl (by kernel_rfl)) rfl ?_
        exact RefAt.fin HL3.out (by rw [← HX.out, ← HP.out]; exact HS.out) _ _ _ _ _ _ _
    have t1 : (e0 == 1) = false := beq_eq_false_iff_ne.mpr k1
    have t2 : (e0 == 2) = false := beq_eq_false_iff_ne.mpr k2
    have t3 : (e0 == 3) = false := beq_eq_false_iff_ne.mpr k3
    have t4 : (e0 == 4) = false := beq_eq_false_iff_ne.mpr k4
    have t5 : (e0 == 5) = false := beq_eq_false_iff_ne.mpr k5
    have HS := Aside0.mk (show p = (x, 0, false) by rw [HP.out]; unfold stepD; rw [if_neg k1, if_neg k2, if_neg k3, if_neg k4, if_neg k5])
    go_wp2_with (fail)
    refine bodyPost_ret (results_ctt rfl _ (put7 wc (w.heap.size + 1 + 1) (.int .i64 x.cap) (.int .i64 x.mod) (.int .i64 x.lab) (.int .i64 x.item) (.int .i64 x.last) (.slice Af x.fr.length cf) (.slice Aa x.ak.length ca)) (w.heap.size + 1 + 1) 29 #[.int .i64 x.cap, .int .i64 x.mod, .int .i64 x.lab, .int .i64 x.item, .int .i64 x.last, .slice Af x.fr.length cf, .slice Aa x.ak.length ca] (0, 0) _ rfl (put7_blk HL.out.out _ _ _ _ _ _ _) Try.underlying29 rfl (by kernel_rfl)) rfl ?_
    exact RefAt.fin HL.out (by rw [← HX.out, ← HP.out]; exact HS.out) _ _ _ _ _ _ _
theorem selfstabref42_Step.calls (k : Nat) (a0 a1 a2 a3 a4 : Int) (A5 : Option Addr) (c5 : Nat) (l5 : List S46) (A6 : Option Addr) (c6 : Nat) (l6 : List Int) (e0 e1 : Int) (r1 r2 r3 r4 r5 : Int) (r6 : List S46) (r7 : List Int) (r8 : Int) (r9 : Bool) (w : World) (hr5 : Kd.C k46 w A5 l5.length l5) (hc5 : l5.length ≤ c5) (hr6 : Kd.C (Kd.int .i64) w A6 l6.length l6) (hc6 : l6.length ≤ c6) (h : selfstabref42_Step.f k a0 a1 a2 a3 a4 l5 l6 e0 e1 = some (r1, r2, r3, r4, r5, r6, r7, r8, r9)) :
    Calls Try.prog 19 #[.agg #[.int .i64 a0, .int .i64 a1, .int .i64 a2, .int .i64 a3, .int .i64 a4, .slice A5 l5.length c5, .slice A6 l6.length c6], .agg #[.int .i64 e0, .int .i64 e1]] w fun e w' => ∃ v5_ v6_ : Value, e = .returned (.tuple #[.agg #[.int .i64 r1, .int .i64 r2, .int .i64 r3, .int .i64 r4, .int .i64 r5, v5_, v6_], .int .i64 r8, .bool r9]) ∧ Kd.Q k46 46 w' w.heap.size (fun _ => True) v5_ r6 ∧ Kd.Q (Kd.int .i64) 3 w' w.heap.size (fun _ => True) v6_ r7 ∧ Below w.heap.size w w' := by
  unfold selfstabref42_Step.f at h
  obtain ⟨t, hv, h⟩ := Option.bind_eq_some_iff.mp h
  cases t with
  | false =>
    rw [if_neg (by decide)] at h
    have h := Option.some.inj h
    simp only [Prod.mk.injEq] at h
    obtain ⟨rfl, rfl, rfl, rfl, rfl, rfl, rfl, rfl, rfl⟩ := h
    refine (rstep_bad k a0 a1 a2 a3 a4 A5 c5 l5 A6 c6 l6 e0 e1 w hr5 hc5 hr6 hc6 hv).mono ?_
    rintro e w' ⟨rfl, hb⟩
    exact ⟨_, _, rfl, Kd.Q_nil _ _ _ _ _, Kd.Q_nil _ _ _ _ _, hb⟩
  | true =>
    rw [if_pos rfl] at h
    by_cases V : ValidD ⟨a0, a1, a2, a3, a4, l5, l6⟩
    · rw [if_pos V] at h
      unfold datalink_Step.f at h
      rw [if_pos V] at h
      have h := Option.some.inj h
      simp only [Prod.mk.injEq] at h
      obtain ⟨rfl, rfl, rfl, rfl, rfl, rfl, rfl, rfl, rfl⟩ := h
      exact rstep_good k a0 a1 a2 a3 a4 A5 c5 l5 A6 c6 l6 e0 e1 w hr5 hc5 hr6 hc6 V hv
    · rw [if_neg V] at h; cases h
end Go.Proofs.Ytdhkplfkbdldfaa.P
