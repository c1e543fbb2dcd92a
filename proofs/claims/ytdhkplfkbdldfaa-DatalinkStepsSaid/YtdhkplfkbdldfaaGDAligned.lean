/- datalink.Aligned. -/
import Derived.Test.YtdhkplfkbdldfaaKBack
import Derived.Test.YtdhkplfkbdldfaaGDValid
import Derived.Deep.LoopGhost
import Derived.Maps.AppendAt
import Derived.Shelf.RegionOpen
namespace Go.Proofs.Ytdhkplfkbdldfaa.P
open Go.RowKit Go.Proofs.YtdhkplfkbdldfaaW.PrintWords Go.Proofs.YtdhkplfkbdldfaaW.PrintLast Go.Shelf
attribute [local go_sem] Oper.semAt_some
set_option linter.unusedVariables false
set_option linter.unusedSimpArgs false
/-- Labels in order: new ones, then old ones (b), and no others. -/
def chk (b l : Int) : Bool → List Int → Bool
  | _, [] => true
  | old, y :: r => if y = b then chk b l true r else if y = l ∧ old = false then chk b l old r else false
/-- The labels under way, the one nearest to its end last. -/
def DL.labs (x : DL) : List Int := (back (rd_T46 x.fr) x.fr.length).map (·.2.f0) ++ [x.last] ++ (back (rd x.ak) x.ak.length).map (·.2)
def alignB (x : DL) : Bool := chk ((x.lab + x.mod - 1) % x.mod) x.lab false x.labs
def datalink_Aligned.f (a0 a1 a2 a3 a4 : Int) (l5 : List S46) (l6 : List Int) : Option Bool := some (decide (ValidD ⟨a0, a1, a2, a3, a4, l5, l6⟩) && alignB ⟨a0, a1, a2, a3, a4, l5, l6⟩)
theorem cells_kept {W W' : World} {row : Option Nat} {b : Nat} {cs : Array Value} {t : TypeId} (h : W.heap[b]? = some (.cells cs t (0, 0))) (hg : W.grownBy W' row) (hr : ∀ r, row = some r → ∃ o : Obj, W.heap[r]? = some o ∧ o.isCells = false) : W'.heap[b]? = some (.cells cs t (0, 0)) :=
  (hg.block b (blk_lt h) (fun e => by obtain ⟨o, ho, hc⟩ := hr b e.symm; rw [h] at ho; cases ho; cases hc)).trans h
theorem keepsOthers_below {W W' : World} (h : Below W.heap.size W W') : KeepsOthers W W' := ⟨h.size, fun k o hk _ => (h.block k (blk_lt hk)).trans hk⟩
/-- What the loops carry: the row of labels in its box, the link in its own. -/
structure LabI (n0 L Bs t : Nat) (sv : Value) (xc : Array Value) (w : World) (ls : List Int) (W : World) : Prop where
  row : ∃ v, Boxed W L 22 v ∧ W.ownsRow n0 3 1 v ls.length (ls.map (Value.int .i64))
  box : Boxed W Bs t sv
  lk : W.heap[n0]? = some (.cells xc 29 (0, 0))
  below : Below n0 w W
theorem row_typed {W : World} {base : Nat} {e : TypeId} {size k : Nat} {v : Value} {xs : List Value} (hr : W.ownsRow base e size v k xs) (g : Nat) (hg : v.ownBlock = some g) : base ≤ g ∧ ∃ cs, W.heap[g]? = some (.cells cs e (0, 0)) := by
  rcases hr.2 with ⟨rfl, _⟩ | ⟨g', cap, cur, rfl, hb, hgb, _⟩
  · cases hg
  · obtain rfl : g' = g := by simpa [Value.ownBlock] using hg
    exact ⟨hb, _, hgb⟩
theorem LabI.kept {n0 L Bs t : Nat} {sv : Value} {xc : Array Value} {w : World} {ls : List Int} {A B : World} {row : Option Nat} (h : LabI n0 L Bs t sv xc w ls A) (hg : A.grownBy B row) (hr : ∀ r, row = some r → n0 ≤ r ∧ ∃ o : Obj, A.heap[r]? = some o ∧ o.isCells = false) (hs : n0 ≤ A.heap.size) : LabI n0 L Bs t sv xc w ls B := by
  obtain ⟨⟨v, h1, h2⟩, h3, h4, h5⟩ := h
  have hr' : ∀ r, row = some r → ∃ o : Obj, A.heap[r]? = some o ∧ o.isCells = false := fun r e => (hr r e).2
  refine ⟨⟨v, cells_kept h1 hg hr', h2.kept hg ?_⟩, cells_kept h3 hg hr', cells_kept h4 hg hr', h5.grown hg hs (fun j e => (hr j e).1)⟩
  rcases ho : v.ownBlock with _ | g
  · exact .inl rfl
  · refine .inr (fun he => ?_)
    obtain ⟨o, hoo, hc⟩ := hr' g he.symm
    obtain ⟨_, cs, hcs⟩ := row_typed h2 g ho
    rw [hcs] at hoo; cases hoo; cases hc
theorem LabI.alloc {n0 L Bs t : Nat} {sv : Value} {xc : Array Value} {w : World} {ls : List Int} {A : World} (h : LabI n0 L Bs t sv xc w ls A) (hs : n0 ≤ A.heap.size) (o : Obj) : LabI n0 L Bs t sv xc w ls (A.alloc o) :=
  h.kept (World.grownBy_alloc A o none) (fun r e => by cases e) hs
theorem LabI.own {n0 L Bs t B : Nat} {sv : Value} {xc : Array Value} {w : World} {α : Type} (f : α → List Int) (hB : n0 ≤ B) : OwnFrom B (fun (s : α) W => LabI n0 L Bs t sv xc w (f s) W ∧ n0 ≤ W.heap.size) := by
  rintro s A C row ⟨h, hs⟩ hg hr
  exact ⟨h.kept hg (fun r e => ⟨by have := (hr r e).1; omega, (hr r e).2⟩) hs, Nat.le_trans hs hg.size⟩
theorem grown_blk {W w1 : World} {n0 e size k g t : Nat} {v : Value} {xs : List Value} {cs : Array Value} {tmp : Obj} (hrow : W.ownsRow n0 e size v k xs) (h : W.heap[g]? = some (.cells cs t (0, 0))) (ht : t ≠ e) (hg : (W.alloc tmp).grownBy w1 v.ownBlock) : w1.heap[g]? = some (.cells cs t (0, 0)) := by
  refine blk_grown (blk_alloc h tmp) hg (fun he => ?_)
  obtain ⟨_, cs', hcs⟩ := row_typed hrow g he.symm
  rw [h] at hcs; cases hcs; exact ht rfl
/-- A label more: the row's new array, and the box. -/
theorem LabI.app {n0 L Bs t : Nat} {sv : Value} {xc : Array Value} {w : World} {ls : List Int} {W w1 : World} {v v' : Value} {y : Int} {tmp : Obj} (hv : Boxed W L 22 v) (hrow : W.ownsRow n0 3 1 v ls.length (ls.map (Value.int .i64))) (hbox : Boxed W Bs t sv) (hlk : W.heap[n0]? = some (.cells xc 29 (0, 0))) (hbl : Below n0 w W) (hs : n0 ≤ W.heap.size) (hL : n0 < L) (hLB : L ≠ Bs) (ht : t ≠ 3)
    (hown' : w1.ownsRow n0 3 1 v' (ls.length + 1) (ls.map (Value.int .i64) ++ [.int .i64 y])) (hgrow : (W.alloc tmp).grownBy w1 v.ownBlock) :
    LabI n0 L Bs t sv xc w (ls ++ [y]) (w1.setCell ⟨L, 0, none⟩ v') ∧ KeepsOthers W (w1.setCell ⟨L, 0, none⟩ v') ∧ KeepsBox n0 Bs W (w1.setCell ⟨L, 0, none⟩ v') ∧ n0 ≤ (w1.setCell ⟨L, 0, none⟩ v').heap.size := by
  obtain ⟨hv1, hv2, hr2, hk2, hb2⟩ := hv.appended (by decide) hrow hs (by omega) hown' hgrow
  have hbox1 := grown_blk hrow hbox ht hgrow
  have hbox2 : Boxed (w1.setCell ⟨L, 0, none⟩ v') Bs t sv := blk_far hbox1 (by show Bs ≠ L; omega) v'
  refine ⟨⟨⟨v', hv2, by rw [List.length_append, List.map_append]; exact hr2⟩, hbox2, blk_far (grown_blk hrow hlk (by decide) hgrow) (by show n0 ≠ L; omega) v', hbl.trans hb2⟩, hk2, ⟨hb2, (show (w1.setCell ⟨L, 0, none⟩ v').heap[Bs]? = W.heap[Bs]? from Eq.trans hbox2 (Eq.symm hbox))⟩, ?_⟩
  have := hb2.size; omega
theorem done_below {n0 D D2 : Nat} {w W : World} (h : Below n0 w W) (h2 : W.heap[D2]? = some (.deferred (some []))) (h1 : W.heap[D]? = some (.deferred (some []))) (hne : D ≠ D2) (g2 : n0 ≤ D2) (g1 : n0 ≤ D) : Below n0 w ((W.putObj D2 (.deferred none)).putObj D (.deferred none)) := by
  have l2 := (Array.getElem?_eq_some_iff.1 h2).1
  have h3 := h.grown (grownBy_putObj' W D2 (.deferred none)) (by omega) (fun k e => by cases e; exact g2)
  have l1 := (Array.getElem?_eq_some_iff.1 ((World.putObj_heap_other (o := .deferred none) hne).trans h1)).1
  exact h3.grown (grownBy_putObj' _ D (.deferred none)) (by omega) (fun k e => by cases e; exact g1)
set_option maxHeartbeats 8000000 in
set_option maxRecDepth 1000000 in
theorem aligned_bad (a0 a1 a2 a3 a4 : Int) (A5 : Option Addr) (c5 : Nat) (l5 : List S46) (A6 : Option Addr) (c6 : Nat) (l6 : List Int) (w : World) (hr5 : Kd.C k46 w A5 l5.length l5) (hc5 : l5.length ≤ c5) (hr6 : Kd.C (Kd.int .i64) w A6 l6.length l6) (hc6 : l6.length ≤ c6) (hV : ¬ ValidD (⟨a0, a1, a2, a3, a4, l5, l6⟩ : DL)) :
    Calls Try.prog 21 #[.agg #[.int .i64 a0, .int .i64 a1, .int .i64 a2, .int .i64 a3, .int .i64 a4, .slice A5 l5.length c5, .slice A6 l6.length c6]] w fun e w' => e = .returned (.bool false) ∧ Below w.heap.size w w' := by
  have HVA := Aside0.mk (show datalink_Valid.f a0 a1 a2 a3 a4 l5 l6 = some false by unfold datalink_Valid.f; rw [decide_eq_false hV])
  have B0 := Aside0.mk (show Below w.heap.size w (w.alloc (.cells #[.int .i64 a0, .int .i64 a1, .int .i64 a2, .int .i64 a3, .int .i64 a4, .slice A5 l5.length c5, .slice A6 l6.length c6] 29)) from below_alloc (Below.refl _ _) _)
  have HR5 := Aside0.mk hr5
  have HR6 := Aside0.mk hr6
  clear hr5 hr6 hV
  go_enter Try.func21, Try.ntmps21
  go_wp2_with (fail)
  refine (datalink_Valid.calls a0 a1 a2 a3 a4 A5 c5 l5 A6 c6 l6 false _ (Kd.C_below HR5.out B0.out) hc5 (Kd.C_below HR6.out B0.out) hc6 HVA.out).mono ?_
  rintro e w1 ⟨rfl, hb⟩
  have B1 := Aside0.mk (below_step B0.out hb)
  clear hb
  go_wp2_with (fail)
  go_ret
  exact ⟨rfl, B1.out⟩
set_option maxHeartbeats 8000000 in
set_option maxRecDepth 1000000 in
theorem aligned_good (a0 a1 a2 a3 a4 : Int) (A5 : Option Addr) (c5 : Nat) (l5 : List S46) (A6 : Option Addr) (c6 : Nat) (l6 : List Int) (w : World) (hr5 : Kd.C k46 w A5 l5.length l5) (hc5 : l5.length ≤ c5) (hr6 : Kd.C (Kd.int .i64) w A6 l6.length l6) (hc6 : l6.length ≤ c6) (V : ValidD (⟨a0, a1, a2, a3, a4, l5, l6⟩ : DL)) :
    Calls Try.prog 21 #[.agg #[.int .i64 a0, .int .i64 a1, .int .i64 a2, .int .i64 a3, .int .i64 a4, .slice A5 l5.length c5, .slice A6 l6.length c6]] w fun e w' => e = .returned (.bool (alignB ⟨a0, a1, a2, a3, a4, l5, l6⟩)) ∧ Below w.heap.size w w' := by
  have hu := Try.underlying29
  have HVA := Aside0.mk (show datalink_Valid.f a0 a1 a2 a3 a4 l5 l6 = some true by unfold datalink_Valid.f; rw [decide_eq_true V])
  have n5 : l5.length ≤ 8 := by obtain ⟨v1, v2, _, _, _, _, _, _, _, _, v11, _⟩ := V; dsimp only at v2 v11; omega
  have n6 : l6.length ≤ 8 := by obtain ⟨v1, v2, _, _, _, _, _, _, _, _, _, v12, _⟩ := V; dsimp only at v2 v12; omega
  have lab0 : 0 ≤ a2 := V.2.2.2.2.1
  have lab1 : a2 < a1 := V.2.2.2.2.2.1
  have mod1 : a1 ≤ 64 := V.2.2.2.1
  have HR5 := Aside0.mk hr5
  have HR6 := Aside0.mk hr6
  have B0 := Aside0.mk (show Below w.heap.size w (w.alloc (.cells #[.int .i64 a0, .int .i64 a1, .int .i64 a2, .int .i64 a3, .int .i64 a4, .slice A5 l5.length c5, .slice A6 l6.length c6] 29)) from below_alloc (Below.refl _ _) _)
  have X0 := Aside0.mk (blk_new w (.cells #[.int .i64 a0, .int .i64 a1, .int .i64 a2, .int .i64 a3, .int .i64 a4, .slice A5 l5.length c5, .slice A6 l6.length c6] 29))
  clear hr5 hr6 V
  refine (callsIn_wide (n := 3)).1 ?_
  refine callsIn_of_wp_marks Try.func21 rfl trivial ?_ rfl
  simp only [Try.ntmps21, List.size_toArray, List.length_cons, List.length_nil, Nat.reduceAdd, Nat.reduceSub, Array.replicate_succ, Array.replicate_zero, List.push_toArray, List.append_toArray, List.nil_append, List.cons_append]
  refine wpIn_wide.2 ?_
  go_wp2_with (fail)
  refine (datalink_Valid.calls a0 a1 a2 a3 a4 A5 c5 l5 A6 c6 l6 true _ (Kd.C_below HR5.out B0.out) hc5 (Kd.C_below HR6.out B0.out) hc6 HVA.out).mono ?_
  rintro e w1 ⟨rfl, hb⟩
  have X1 := Aside0.mk (blk_below X0.out hb)
  have B1 := Aside0.mk (below_step B0.out hb)
  clear hb X0 B0
  have x0 : (w1.alloc (.cells #[.slice none 0 0] 22)).cell? ⟨w.heap.size, 0, none⟩ = some (.int .i64 a0) := (blk_cell (blk_alloc X1.out _) 0).trans rfl
  have x1 : (w1.alloc (.cells #[.slice none 0 0] 22)).cell? ⟨w.heap.size, 1, none⟩ = some (.int .i64 a1) := (blk_cell (blk_alloc X1.out _) 1).trans rfl
  have x2 : (w1.alloc (.cells #[.slice none 0 0] 22)).cell? ⟨w.heap.size, 2, none⟩ = some (.int .i64 a2) := (blk_cell (blk_alloc X1.out _) 2).trans rfl
  have x3 : (w1.alloc (.cells #[.slice none 0 0] 22)).cell? ⟨w.heap.size, 3, none⟩ = some (.int .i64 a3) := (blk_cell (blk_alloc X1.out _) 3).trans rfl
  have x4 : (w1.alloc (.cells #[.slice none 0 0] 22)).cell? ⟨w.heap.size, 4, none⟩ = some (.int .i64 a4) := (blk_cell (blk_alloc X1.out _) 4).trans rfl
  have x5 : (w1.alloc (.cells #[.slice none 0 0] 22)).cell? ⟨w.heap.size, 5, none⟩ = some (.slice A5 l5.length c5) := (blk_cell (blk_alloc X1.out _) 5).trans rfl
  have x6 : (w1.alloc (.cells #[.slice none 0 0] 22)).cell? ⟨w.heap.size, 6, none⟩ = some (.slice A6 l6.length c6) := (blk_cell (blk_alloc X1.out _) 6).trans rfl
  go_wp2_with (fail)
  refine (backF_calls _ _ _ _).mono ?_
  rintro e w2 ⟨rfl, rfl⟩
  clear x0 x1 x2 x3 x4 x5 x6
  go_wp2_with (fail)
  refine (wpIn_wide (n := 3)).1 ?_
  obtain ⟨n1, hn1⟩ : ∃ n1, n1 = w1.heap.size := ⟨_, rfl⟩
  have hlt1 : w.heap.size < n1 := by rw [hn1]; exact blk_lt X1.out
  obtain ⟨W4, hW4⟩ : ∃ W4, W4 = (w1.alloc (.cells #[.slice none 0 0] 22)).alloc (.cells #[.slice A5 l5.length c5] 27) := ⟨_, rfl⟩
  have hsz : W4.heap.size = n1 + 2 := by rw [hW4, hn1]; simp
  have hI0 : LabI w.heap.size n1 (n1 + 1) 27 (.slice A5 l5.length c5) #[.int .i64 a0, .int .i64 a1, .int .i64 a2, .int .i64 a3, .int .i64 a4, .slice A5 l5.length c5, .slice A6 l6.length c6] w [] W4 := by
    rw [hW4, hn1]
    refine ⟨⟨_, blk_alloc (blk_new w1 _) _, World.ownsRow_nil _ _ _ _⟩, ?_, blk_alloc (blk_alloc X1.out _) _, below_alloc (below_alloc B1.out _) _⟩
    have := blk_new (w1.alloc (.cells #[.slice none 0 0] 22)) (.cells #[.slice A5 l5.length c5] 27)
    rwa [World.size_alloc] at this
  simp only [World.size_alloc, ← hn1, ← hW4]
  clear hW4 X1 hn1
  have HI0 := Aside0.mk hI0
  clear hI0
  have hge : w.heap.size ≤ W4.heap.size := by omega
  obtain ⟨i0, hi0, hz0, hz1, hz2⟩ := info_parts info3
  refine wpIn_rangeFunc_ownH rfl (by decide) (gf := 36) (lb := #[.pointer (some ⟨n1 + 1, 0, none⟩)]) rfl trivial (enters_of Try.func36 (by kernel_rfl) rfl)
    (backF_stops 2 (n1 + 1) w W4 A5 c5 l5 HR5.out hc5 (by omega) HI0.out.box HI0.out.below) keepsBox_t (keepsBox_b hge (by omega)) (Below.refl _ _) (fun _ => rfl)
    (fun pre W => LabI w.heap.size n1 (n1 + 1) 27 (.slice A5 l5.length c5) #[.int .i64 a0, .int .i64 a1, .int .i64 a2, .int .i64 a3, .int .i64 a4, .slice A5 l5.length c5, .slice A6 l6.length c6] w (pre.map (·.2.f0)) W ∧ w.heap.size ≤ W.heap.size) (fun _ _ _ => False)
    (LabI.own _ hge) (fun _ _ _ _ _ hs _ _ => hs) ⟨HI0.out, hge⟩
    (fun x a' W => ∃ Bx, W.heap[Bx]? = some (.cells #[.int .i64 x.2.f0, .int .i64 x.2.f1] 46 (0, 0)) ∧ a' = { tmps := #[.agg #[.int .i64 a0, .int .i64 a1, .int .i64 a2, .int .i64 a3, .int .i64 a4, .slice A5 l5.length c5, .slice A6 l6.length c6], .pointer (some ⟨w.heap.size, 0, none⟩), .bool false, .pointer (some ⟨n1, 0, none⟩), undef, .pointer (some ⟨Bx, 0, none⟩), undef, undef, undef, undef, undef, undef, .agg #[.int .i64 a0, .int .i64 a1, .int .i64 a2, .int .i64 a3, .int .i64 a4, .slice A5 l5.length c5, .slice A6 l6.length c6], .bool true, .bool false, .pointer (some ⟨w.heap.size, 5, none⟩), .slice A5 l5.length c5, .func (.func 36) #[] #[.pointer (some ⟨n1 + 1, 0, none⟩)], .int .i64 x.1, .agg #[.int .i64 x.2.f0, .int .i64 x.2.f1], undef, undef, undef, undef, undef, undef, undef, undef, undef, undef, undef, undef, undef, undef, undef, undef, undef, undef, undef, undef, undef, undef, undef, undef, undef, undef, undef, undef, undef, undef, undef, undef, undef, undef, undef, undef, undef, undef, undef, undef, undef, undef, undef, undef, undef, undef, undef], defers := [] }) ?hAx ?assign ?body ?done ?stop
  case hAx =>
    rintro x a' s A B row ⟨Bx, h1, h2⟩ hg hr
    exact ⟨Bx, cells_kept h1 hg (fun r e => (hr r e).2), h2⟩
  case assign =>
    rintro l pre x W K ⟨hi, hs⟩ hK
    gi_wp2
    exact hK _ _ ((KeepsOthers.alloc _ _).from _) ⟨(Below.refl _ W).alloc hs _, Below.heap_alloc _ _ _ (Boxed.lt hi.box)⟩ ⟨hi.alloc hs _, by simp; omega⟩ ⟨W.heap.size, blk_new W _, rfl⟩
  case body =>
    rintro l pre x a' W hl ⟨r, hr⟩ ⟨⟨⟨v, hv, hrow⟩, hbox, hlk, hbl⟩, hs⟩ ⟨Bx, hBx, rfl⟩ hlt
    have hc1 := hv.cell
    have hf1 := hv.frozen
    have hc2 : W.cell? ⟨Bx, 0, none⟩ = some (.int .i64 x.2.f0) := (blk_cell hBx 0).trans rfl
    have HV := Aside0.mk hv
    have HROW := Aside0.mk hrow
    have HBOX := Aside0.mk hbox
    have HLK := Aside0.mk hlk
    have HBL := Aside0.mk hbl
    have HLL := Aside0.mk (show (pre.map (·.2.f0)).length < l5.length by simpa using hlt)
    clear hv hrow hbox hlk hbl hr hBx hlt
    generalize hls : pre.map (·.2.f0) = ls at HROW HLL
    have HLS := Aside0.mk hls
    clear hls
    gi_wp2_with (gi_at_builtin; refine wpListIn_append_own _ rfl _ _ 22 rfl w.heap.size 3 i0 (.int .i64 0) 1 8 Try.underlying22 hi0 hz0 hz1 hz2 rfl (by decide) _ _ _ rfl (HROW.out.alloc _) ⟨W.heap.size, 0, none⟩ 1 1 [.int .i64 x.2.f0] rfl rfl (cell_one_new _ _ _) (by simp [Value.oneCell']) (by have := HLL.out; unfold maxLen; omega) (by have := HLL.out; omega) (by simp; omega) ?_; intro v' w5 hown' hgrow _; have HF := Aside0.mk (LabI.app HV.out HROW.out HBOX.out HLK.out HBL.out hs hlt1 (by omega) (by decide) hown' hgrow); have hv5 : Boxed w5 n1 22 v := grown_blk HROW.out HV.out (by decide) hgrow; have hc5' := hv5.cell; have hf5' := hv5.frozen; have HV5 := Aside0.mk hv5; obtain ⟨g', cap', rfl⟩ := ownsRow_succ hown'; clear hown' hgrow hv5 hc1 hf1)
    obtain ⟨f1, f2, f3, f4⟩ := HF.out
    exact ⟨f2.from _, f3, by rw [List.map_append, HLS.out]; exact f1, f4⟩
  case done =>
    rintro D ys Wd hD rfl ⟨⟨⟨v, hv, hrow⟩, hbox, hlk, hbl⟩, hs⟩ hK
    obtain ⟨ls, hls⟩ : ∃ ls, ls = (back (rd_T46 l5) l5.length).map (·.2.f0) := ⟨_, rfl⟩
    rw [← hls] at hrow
    have hc1 := hv.cell
    have hf1 := hv.frozen
    have HLL := Aside0.mk (show ls.length = l5.length by rw [hls, List.length_map, back_len])
    have HV := Aside0.mk hv
    have HROW := Aside0.mk hrow
    have HBOX := Aside0.mk hbox
    have HLK := Aside0.mk hlk
    have HBL := Aside0.mk hbl
    have HK := Aside0.mk hK
    have HLS := Aside0.mk hls
    clear hv hrow hbox hlk hbl hK hls
    have x0 : Wd.cell? ⟨w.heap.size, 0, none⟩ = some (.int .i64 a0) := (blk_cell HLK.out 0).trans rfl
    have x1 : Wd.cell? ⟨w.heap.size, 1, none⟩ = some (.int .i64 a1) := (blk_cell HLK.out 1).trans rfl
    have x2 : Wd.cell? ⟨w.heap.size, 2, none⟩ = some (.int .i64 a2) := (blk_cell HLK.out 2).trans rfl
    have x3 : Wd.cell? ⟨w.heap.size, 3, none⟩ = some (.int .i64 a3) := (blk_cell HLK.out 3).trans rfl
    have x4 : Wd.cell? ⟨w.heap.size, 4, none⟩ = some (.int .i64 a4) := (blk_cell HLK.out 4).trans rfl
    have x5 : Wd.cell? ⟨w.heap.size, 5, none⟩ = some (.slice A5 l5.length c5) := (blk_cell HLK.out 5).trans rfl
    have x6 : Wd.cell? ⟨w.heap.size, 6, none⟩ = some (.slice A6 l6.length c6) := (blk_cell HLK.out 6).trans rfl
    go_wp2_with (at_builtin; refine wpList_append_own _ rfl _ _ 22 rfl w.heap.size 3 i0 (.int .i64 0) 1 8 Try.underlying22 hi0 hz0 hz1 hz2 rfl (by decide) _ _ _ rfl (HROW.out.alloc _) ⟨Wd.heap.size, 0, none⟩ 1 1 [.int .i64 a4] rfl rfl (cell_one_new _ _ _) (by simp [Value.oneCell']) (by have := HLL.out; unfold maxLen; omega) (by have := HLL.out; omega) (by simp; omega) ?_; intro v' w5 hown' hgrow _; have HF := Aside0.mk (LabI.app HV.out HROW.out HBOX.out HLK.out HBL.out hs hlt1 (by omega) (by decide) hown' hgrow); have hv5 : Boxed w5 n1 22 v := grown_blk HROW.out HV.out (by decide) hgrow; have hc5' := hv5.cell; have hf5' := hv5.frozen; have HV5 := Aside0.mk hv5; obtain ⟨g', cap', rfl⟩ := ownsRow_succ hown'; have HLK5 := Aside0.mk (grown_blk HROW.out HLK.out (by decide) hgrow); clear hown' hgrow hv5 hc1 hf1 x0 x1 x2 x3 x4 x5 x6; have x6 : (w5.setCell ⟨n1, 0, none⟩ (.slice (some ⟨g', 0, none⟩) (ls.length + 1) cap')).cell? ⟨w.heap.size, 6, none⟩ = some (.slice A6 l6.length c6) := (blk_cell (blk_far HLK5.out (by show w.heap.size ≠ n1; omega) _) 6).trans rfl)
    refine (backI_calls _ _ _ _).mono ?_
    rintro e w6 ⟨rfl, rfl⟩
    obtain ⟨f1, f2, f3, f4⟩ := HF.out
    have hD5 := f2.same D _ HK.out rfl
    generalize hW5 : w5.setCell ⟨n1, 0, none⟩ (.slice (some ⟨g', 0, none⟩) (ls.length + 1) cap') = W5 at f1 f2 f3 f4 hD5 ⊢
    clear hW5 HF HV5 HLK5 hc5' hf5' x6 f2 f3 HV HROW HBOX HLK HBL HK
    go_wp2_with (fail)
    refine (wpIn_wide (n := 3)).1 ?_
    obtain ⟨n2, hn2⟩ : ∃ n2, n2 = W5.heap.size := ⟨_, rfl⟩
    have hlt2 : n1 < n2 := by rw [hn2]; exact Boxed.lt f1.row.choose_spec.1
    have hD2 : D < n2 := by rw [hn2]; exact (Array.getElem?_eq_some_iff.1 hD5).1
    obtain ⟨W6, hW6⟩ : ∃ W6, W6 = W5.alloc (.cells #[.slice A6 l6.length c6] 22) := ⟨_, rfl⟩
    have hsz6 : W6.heap.size = n2 + 1 := by rw [hW6, hn2]; simp
    have HI2 : Aside0 (LabI w.heap.size n1 n2 22 (.slice A6 l6.length c6) #[.int .i64 a0, .int .i64 a1, .int .i64 a2, .int .i64 a3, .int .i64 a4, .slice A5 l5.length c5, .slice A6 l6.length c6] w (ls ++ [a4]) W6 ∧ W6.heap[D]? = some (.deferred (some []))) := by
      have hg := f1.alloc f4 (.cells #[.slice A6 l6.length c6] 22)
      rw [← hW6] at hg
      exact ⟨⟨⟨hg.row, by rw [hW6, hn2]; exact Boxed.new W5 _ _, hg.lk, hg.below⟩, by rw [hW6]; exact (Below.heap_alloc _ _ _ (by omega)).trans hD5⟩⟩
    simp only [← hn2, ← hW6]
    clear hW6 hn2 f1 hD5
    have hge6 : w.heap.size ≤ W6.heap.size := by omega
    refine wpIn_rangeFunc_ownH rfl (by decide) (gf := 37) (lb := #[.pointer (some ⟨n2, 0, none⟩)]) rfl trivial (enters_of Try.func37 (by kernel_rfl) rfl)
      (backI_stops 2 n2 w W6 A6 c6 l6 HR6.out hc6 (by omega) HI2.out.1.box HI2.out.1.below) keepsBox_t (keepsBox_b hge6 (by omega)) (Below.refl _ _) (fun _ => rfl)
      (fun pre W => (LabI w.heap.size n1 n2 22 (.slice A6 l6.length c6) #[.int .i64 a0, .int .i64 a1, .int .i64 a2, .int .i64 a3, .int .i64 a4, .slice A5 l5.length c5, .slice A6 l6.length c6] w (ls ++ [a4] ++ pre.map (·.2)) W ∧ w.heap.size ≤ W.heap.size) ∧ W.heap[D]? = some (.deferred (some []))) (fun _ _ _ => False)
      ?hI (fun _ _ _ _ _ hs _ _ => hs) ⟨⟨by simpa using HI2.out.1, hge6⟩, HI2.out.2⟩
      (fun x a' W => a' = { tmps := #[.agg #[.int .i64 a0, .int .i64 a1, .int .i64 a2, .int .i64 a3, .int .i64 a4, .slice A5 l5.length c5, .slice A6 l6.length c6], .pointer (some ⟨w.heap.size, 0, none⟩), .bool false, .pointer (some ⟨n1, 0, none⟩), undef, undef, undef, .int .i64 x.2, undef, undef, undef, undef, .agg #[.int .i64 a0, .int .i64 a1, .int .i64 a2, .int .i64 a3, .int .i64 a4, .slice A5 l5.length c5, .slice A6 l6.length c6], .bool true, .bool false, .pointer (some ⟨w.heap.size, 5, none⟩), .slice A5 l5.length c5, .func (.func 36) #[] #[.pointer (some ⟨n1 + 1, 0, none⟩)], undef, undef, undef, undef, undef, undef, undef, v, .pointer (some ⟨w.heap.size, 4, none⟩), .int .i64 a4, .slice (some ⟨Wd.heap.size, 0, none⟩) 1 1, .slice (some ⟨g', 0, none⟩) (ls.length + 1) cap', .pointer (some ⟨w.heap.size, 6, none⟩), .slice A6 l6.length c6, .func (.func 37) #[] #[.pointer (some ⟨n2, 0, none⟩)], .int .i64 x.1, .int .i64 x.2, undef, undef, undef, undef, undef, undef, undef, undef, undef, undef, undef, undef, undef, undef, undef, undef, undef, undef, undef, undef, undef, undef, undef, undef, undef, undef, undef, undef, undef, undef, undef, undef], defers := [] }) ?hAx ?assign2 ?body2 ?done2 ?stop2
    case hI =>
      rintro s A B row ⟨h1, h2⟩ hg hr
      exact ⟨LabI.own (fun pre : List (Int × Int) => ls ++ [a4] ++ pre.map (·.2)) hge6 s A B row h1 hg hr, (hg.block D (Array.getElem?_eq_some_iff.1 h2).1 (fun e => by have := (hr D e.symm).1; omega)).trans h2⟩
    case hAx =>
      rintro x a' s A B row h hg hr
      exact h
    case assign2 =>
      rintro l pre x W K hi hK
      gi_wp2
      exact hK _ _ (KeepsFrom.refl _ _) ⟨Below.refl _ W, rfl⟩ hi rfl
    case body2 =>
      rintro l pre x a' W hl ⟨r, hr⟩ ⟨⟨⟨⟨v, hv, hrow⟩, hbox, hlk, hbl⟩, hs⟩, hD⟩ rfl hlt
      have hc1 := hv.cell
      have hf1 := hv.frozen
      have HV := Aside0.mk hv
      have HROW := Aside0.mk hrow
      have HBOX := Aside0.mk hbox
      have HLK := Aside0.mk hlk
      have HBL := Aside0.mk hbl
      have HD := Aside0.mk hD
      have HLN := Aside0.mk (show (ls ++ [a4] ++ pre.map (·.2)).length < 20 by have := HLL.out; simp; omega)
      clear hv hrow hbox hlk hbl hr hD hlt
      generalize hls : ls ++ [a4] ++ pre.map (·.2) = ls2 at HROW HLN
      have HLS2 := Aside0.mk hls
      clear hls
      gi_wp2_with (gi_at_builtin; refine wpListIn_append_own _ rfl _ _ 22 rfl w.heap.size 3 i0 (.int .i64 0) 1 8 Try.underlying22 hi0 hz0 hz1 hz2 rfl (by decide) _ _ _ rfl (HROW.out.alloc _) ⟨W.heap.size, 0, none⟩ 1 1 [.int .i64 x.2] rfl rfl (cell_one_new _ _ _) (by simp [Value.oneCell']) (by have := HLN.out; unfold maxLen; omega) (by have := HLN.out; omega) (by simp; omega) ?_; intro v' w5 hown' hgrow _; have HF := Aside0.mk (LabI.app HV.out HROW.out HBOX.out HLK.out HBL.out hs hlt1 (by omega) (by decide) hown' hgrow); have hv5 : Boxed w5 n1 22 v := grown_blk HROW.out HV.out (by decide) hgrow; have hc5' := hv5.cell; have hf5' := hv5.frozen; have HV5 := Aside0.mk hv5; obtain ⟨g', cap', rfl⟩ := ownsRow_succ hown'; clear hown' hgrow hv5 hc1 hf1)
      obtain ⟨f1, f2, f3, f4⟩ := HF.out
      exact ⟨f2.from _, f3, ⟨by rw [List.map_append, ← List.append_assoc, HLS2.out]; exact f1, f4⟩, f2.same D _ HD.out rfl⟩
    case done2 =>
      rintro D2 ys W hDD rfl ⟨⟨⟨⟨v2, hv, hrow⟩, hbox, hlk, hbl⟩, hs⟩, hD⟩ hK2
      obtain ⟨all, hall⟩ : ∃ all, all = ls ++ [a4] ++ (back (rd l6) l6.length).map (·.2) := ⟨_, rfl⟩
      rw [← hall] at hrow
      have hn1 : 0 < all.length := by rw [hall]; simp; omega
      have hn2 : all.length < 20 := by rw [hall]; have := HLL.out; simp [back_len]; omega
      obtain ⟨g2, cap2, rfl⟩ : ∃ g cap, v2 = .slice (some ⟨g, 0, none⟩) all.length cap := by
        rcases hrow.2 with ⟨_, h0⟩ | ⟨g, cap, _, rfl, _⟩
        · omega
        · exact ⟨g, cap, rfl⟩
      have HCELL := Aside0.mk (fun (k : Nat) (hk : k < all.length) => show W.cell? ⟨g2, k, none⟩ = some (.int .i64 all[k]) by
        have := hrow.cells (g := g2) rfl k (.int .i64 all[k]) (by simp [hk])
        rw [show (⟨g2, 0, none⟩ : Addr).add k = ⟨g2, k, none⟩ from by by_cases h : k = 0 <;> simp [Addr.add, h]] at this
        exact this)
      have HALL : Aside0 (alignB ⟨a0, a1, a2, a3, a4, l5, l6⟩ = chk ((a2 + a1 - 1) % a1) a2 false all) := ⟨by rw [hall, HLS.out]; rfl⟩
      have hc1 := hv.cell
      have HBL := Aside0.mk hbl
      have HD := Aside0.mk hD
      have HK2 := Aside0.mk hK2
      have HDNE := Aside0.mk (show D ≠ D2 by omega)
      have HDG := Aside0.mk (show w.heap.size ≤ D2 by omega)
      have HDG1 := Aside0.mk (show w.heap.size ≤ D by omega)
      have HLK := Aside0.mk hlk
      clear hv hrow hbox hbl hD hK2 hall hlk
      have x0 : W.cell? ⟨w.heap.size, 0, none⟩ = some (.int .i64 a0) := (blk_cell HLK.out 0).trans rfl
      have x1 : W.cell? ⟨w.heap.size, 1, none⟩ = some (.int .i64 a1) := (blk_cell HLK.out 1).trans rfl
      have x2 : W.cell? ⟨w.heap.size, 2, none⟩ = some (.int .i64 a2) := (blk_cell HLK.out 2).trans rfl
      have x3 : W.cell? ⟨w.heap.size, 3, none⟩ = some (.int .i64 a3) := (blk_cell HLK.out 3).trans rfl
      have x4 : W.cell? ⟨w.heap.size, 4, none⟩ = some (.int .i64 a4) := (blk_cell HLK.out 4).trans rfl
      have x5 : W.cell? ⟨w.heap.size, 5, none⟩ = some (.slice A5 l5.length c5) := (blk_cell HLK.out 5).trans rfl
      have x6 : W.cell? ⟨w.heap.size, 6, none⟩ = some (.slice A6 l6.length c6) := (blk_cell HLK.out 6).trans rfl
      obtain ⟨b, hb⟩ : ∃ b, b = (a2 + a1 - 1) % a1 := ⟨_, rfl⟩
      have HBB := Aside0.mk hb
      clear hb
      go_upto_region 12 with (fail)
      rw [← HBB.out]
      clear x0 x1 x3 x4 x5 x6
      go_wp2_with (fail)
      go_loopg [9, 50] all.length (fun gg s9 s50 wr => ∃ (k : Nat) (old : Bool), k ≤ all.length ∧ all.length - k ≤ gg ∧ s9 = .bool old ∧ s50 = .int .i64 k ∧ wr = W ∧ Aside0 (chk b a2 old (all.drop k) = chk b a2 false all))
      case atStart => exact ⟨0, false, Nat.zero_le _, by omega, rfl, rfl, rfl, ⟨rfl⟩⟩
      case round =>
        obtain ⟨k, old, hk, hg, rfl, rfl, rfl, HC⟩ := hrel
        by_cases hlt : k < all.length
        · have hltz : (k : Int) < (all.length : Int) := by omega
          have hcell := HCELL.out k hlt
          have HC2 : Aside0 (chk b a2 old (all[k] :: all.drop (k + 1)) = chk b a2 false all) := ⟨by rw [← List.drop_eq_getElem_cons hlt]; exact HC.out⟩
          generalize all[k] = y at hcell HC2
          by_cases e1 : y = b
          · have e1b : (y == b) = true := beq_iff_eq.mpr e1
            go_wp2_with (fail)
            go_roundg (all.length - (k + 1))
            case measure => omega
            case rel => exact ⟨k + 1, true, by omega, by omega, rfl, by go_num, rfl, ⟨by have := HC2.out; rw [chk, if_pos e1] at this; exact this⟩⟩
          · have e1b : (y == b) = false := beq_eq_false_iff_ne.mpr e1
            by_cases e2 : y = a2
            · have e2b : (y != a2) = false := by simp [e2]
              cases old with
              | false =>
                go_wp2_with (fail)
                go_roundg (all.length - (k + 1))
                case measure => omega
                case rel => exact ⟨k + 1, false, by omega, by omega, rfl, by go_num, rfl, ⟨by have := HC2.out; rw [chk, if_neg e1, if_pos ⟨e2, rfl⟩] at this; exact this⟩⟩
              | true =>
                go_wp2_with (fail)
                refine ⟨by simp, .inl ⟨_, _, rfl, run_takeDeferred HK2.out, ?_⟩⟩
                refine ⟨by simp, .inl ⟨_, _, rfl, run_takeDeferred ((World.putObj_heap_other HDNE.out).trans HD.out), ?_⟩⟩
                exact ⟨_, results_tmp (fn := Try.f21) (t := 2) rfl _ _ _, by rw [HALL.out, ← HBB.out, ← HC2.out, chk, if_neg e1, if_neg (fun h => Bool.noConfusion h.2)]; rfl, done_below HBL.out HK2.out HD.out HDNE.out HDG.out HDG1.out⟩
            · have e2b : (y != a2) = true := bne_iff_ne.mpr e2
              go_wp2_with (fail)
              refine ⟨by simp, .inl ⟨_, _, rfl, run_takeDeferred HK2.out, ?_⟩⟩
              refine ⟨by simp, .inl ⟨_, _, rfl, run_takeDeferred ((World.putObj_heap_other HDNE.out).trans HD.out), ?_⟩⟩
              exact ⟨_, results_tmp (fn := Try.f21) (t := 2) rfl _ _ _, by rw [HALL.out, ← HBB.out, ← HC2.out, chk, if_neg e1, if_neg (fun h => e2 h.1)]; rfl, done_below HBL.out HK2.out HD.out HDNE.out HDG.out HDG1.out⟩
        · have hltz : ¬ (k : Int) < (all.length : Int) := by omega
          have HEND : Aside0 (chk b a2 false all = true) := ⟨by have := HC.out; rw [List.drop_of_length_le (by omega)] at this; rw [← this]; rfl⟩
          go_wp2_with (fail)
          refine ⟨by simp, .inl ⟨_, _, rfl, run_takeDeferred HK2.out, ?_⟩⟩
          refine ⟨by simp, .inl ⟨_, _, rfl, run_takeDeferred ((World.putObj_heap_other HDNE.out).trans HD.out), ?_⟩⟩
          exact ⟨_, results_tmp (fn := Try.f21) (t := 2) rfl _ _ _, by rw [HALL.out, ← HBB.out, HEND.out]; rfl, done_below HBL.out HK2.out HD.out HDNE.out HDG.out HDG1.out⟩
    case stop2 => exact fun D c pre W _ _ h _ => h.elim
  case stop => exact fun D c pre W _ _ h _ => h.elim
theorem datalink_Aligned.calls (a0 a1 a2 a3 a4 : Int) (A5 : Option Addr) (c5 : Nat) (l5 : List S46) (A6 : Option Addr) (c6 : Nat) (l6 : List Int) (r : Bool) (w : World) (hr5 : Kd.C k46 w A5 l5.length l5) (hc5 : l5.length ≤ c5) (hr6 : Kd.C (Kd.int .i64) w A6 l6.length l6) (hc6 : l6.length ≤ c6) (h : datalink_Aligned.f a0 a1 a2 a3 a4 l5 l6 = some r) :
    Calls Try.prog 21 #[.agg #[.int .i64 a0, .int .i64 a1, .int .i64 a2, .int .i64 a3, .int .i64 a4, .slice A5 l5.length c5, .slice A6 l6.length c6]] w fun e w' => e = .returned (.bool r) ∧ Below w.heap.size w w' := by
  unfold datalink_Aligned.f at h
  obtain rfl := Option.some.inj h
  by_cases V : ValidD ⟨a0, a1, a2, a3, a4, l5, l6⟩
  · rw [decide_eq_true V, Bool.true_and]
    exact aligned_good a0 a1 a2 a3 a4 A5 c5 l5 A6 c6 l6 w hr5 hc5 hr6 hc6 V
  · rw [decide_eq_false V, Bool.false_and]
    exact aligned_bad a0 a1 a2 a3 a4 A5 c5 l5 A6 c6 l6 w hr5 hc5 hr6 hc6 V
end Go.Proofs.Ytdhkplfkbdldfaa.P
