/- daemon.Resolve for the locally central daemon at what is to be resolved: the nodes of the wish, one after the other. -/
import Derived.Test.YtmkpddhnnejfhaaGEach
import Derived.Test.YtmkpddhnnejfhaaP3
import Derived.Test.YtmkpddhnnejfhaaP3
import Derived.Maps.AppendAt
import Derived.Shelf.RegionOpen
namespace Go.Proofs.Ytmkpddhnnejfhaa.P
open Go.RowKit Go.Proofs.YtmkpddhnnejfhaaW.PrintWords Go.Shelf
attribute [local go_sem] Oper.semAt_some
set_option linter.unusedVariables false
/-- The nodes of a list that are taken one after the other, none a neighbour of one that is taken. -/
def lcLoop (k : Nat) (l0 : List Int) (l1 : List (List Lk)) : List Int → Int → Option Int
  | [], t => some t
  | x :: xs, t => (graph_Neighbours.f k l0 l1 x).bind fun nb => if Go.bits .and .u32 nb t = 0 then lcLoop k l0 l1 xs (Go.bits .or .u32 t x) else lcLoop k l0 l1 xs t
/-- What a wish comes to. -/
def wishS (a2 a3 : Int) : Int := if Go.bits .and .u32 a3 a2 = 0 then leastS a2 else Go.bits .and .u32 a3 a2
theorem M32_and_any (a b : Int) : M32 (Go.bits .and .u32 a b) := by
  have e : Go.bits .and .u32 a b = (((BitVec.ofInt 32 a &&& BitVec.ofInt 32 b).toNat : Nat) : Int) := by
    show IntKind.u32.wrap (((BitVec.ofInt 32 a &&& BitVec.ofInt 32 b).toNat : Nat) : Int) = _
    have := (BitVec.ofInt 32 a &&& BitVec.ofInt 32 b).isLt
    exact u32_id _ (by omega) (by omega)
  rw [e]
  have := (BitVec.ofInt 32 a &&& BitVec.ofInt 32 b).isLt
  exact ⟨by omega, by omega⟩
theorem M32_wish (a2 a3 : Int) : M32 (wishS a2 a3) := by
  unfold wishS leastS
  split
  · exact M32_and_any _ _
  · exact M32_and_any _ _
theorem nodes_M32' {l0_0 : List Int} {l0_1 : List (List Lk)} {a2 : Int} {b : Bool} (h : daemon_nodes.f l0_0 l0_1 a2 = some b) : M32 a2 := by
  unfold daemon_nodes.f bits_Len32.f at h
  split at h
  · rename_i h1; exact ⟨h1.1, by omega⟩
  · cases h
theorem cells_kept {W W' : World} {row : Option Nat} {b : Nat} {cs : Array Value} {t : TypeId} (h : W.heap[b]? = some (.cells cs t (0, 0))) (hg : W.grownBy W' row) (hr : ∀ r, row = some r → ∃ o : Obj, W.heap[r]? = some o ∧ o.isCells = false) : W'.heap[b]? = some (.cells cs t (0, 0)) :=
  (hg.block b (blk_lt h) (fun e => by obtain ⟨o, ho, hc⟩ := hr b e.symm; rw [h] at ho; cases ho; cases hc)).trans h
theorem keepsOthers_below {W W' : World} (h : Below W.drew.heap.size W.drew W') : KeepsOthers W W' := ⟨h.size, fun k o hk _ => (h.block k (blk_lt hk)).trans hk⟩
set_option maxHeartbeats 4000000 in
set_option maxRecDepth 100000 in
theorem resolve_local (k : Nat) (A0_0 : Option Addr) (c0_0 : Nat) (l0_0 : List Int) (A0_1 : Option Addr) (c0_1 : Nat) (l0_1 : List (List Lk)) (a2 a3 r : Int) (w : World) (hr0_0 : Kd.C (Kd.int .i64) w A0_0 l0_0.length l0_0) (hc0_0 : l0_0.length ≤ c0_0) (hr0_1 : Kd.C (Kd.slice 58 k58) w A0_1 l0_1.length l0_1) (hc0_1 : l0_1.length ≤ c0_1)
    (hv : validB l0_0 l0_1 = true) (hn : daemon_nodes.f l0_0 l0_1 a2 = some true) (h2 : a2 ≠ 0) (h : lcLoop k l0_0 l0_1 (eachL 32 (wishS a2 a3)) 0 = some r) :
    Calls Try.prog 15 #[.agg #[.slice A0_0 l0_0.length c0_0, .slice A0_1 l0_1.length c0_1], .int .i64 2, .int .u32 a2, .int .u32 a3] w fun e w' => e = .returned (.int .u32 r) ∧ Below w.heap.size w w' := by
  have hM := M32_wish a2 a3
  have hvl := fun (w : World) (h0 : Kd.C (Kd.int .i64) w A0_0 l0_0.length l0_0) (h1 : Kd.C (Kd.slice 58 k58) w A0_1 l0_1.length l0_1) => graph_Valid.calls A0_0 c0_0 l0_0 A0_1 c0_1 l0_1 true w h0 hc0_0 h1 hc0_1 (by unfold graph_Valid.f; rw [hv])
  have hnd := fun (w : World) (h0 : Kd.C (Kd.int .i64) w A0_0 l0_0.length l0_0) (h1 : Kd.C (Kd.slice 58 k58) w A0_1 l0_1.length l0_1) => daemon_nodes.calls A0_0 c0_0 l0_0 A0_1 c0_1 l0_1 a2 true w h0 hc0_0 h1 hc0_1 hn
  have hdv := fun (w : World) => daemon_Valid.calls 2 true w (by decide)
  have hu := Try.underlying25
  have HV := Aside0.mk hv
  have HN := Aside0.mk hn
  have HR0 := Aside0.mk hr0_0
  have HR1 := Aside0.mk hr0_1
  have HH := Aside0.mk h
  have h2b : (a2 == 0) = false := beq_eq_false_iff_ne.mpr h2
  clear hv hn hr0_0 hr0_1 h h2
  refine (callsIn_wide (n := 3)).1 ?_
  refine callsIn_of_wp_marks Try.func15 rfl trivial ?_ rfl
  simp only [Try.ntmps15, List.size_toArray, List.length_cons, List.length_nil, Nat.reduceAdd, Nat.reduceSub, Array.replicate_succ, Array.replicate_zero, List.push_toArray, List.append_toArray, List.nil_append, List.cons_append]
  refine wpIn_wide.2 ?_
  go_wp2_with fail
  refine (hvl _ (Kd.C_alloc HR0.out _) (Kd.C_alloc HR1.out _)).mono ?_
  rintro e w1 ⟨rfl, hb1⟩
  have HB1 := Aside0.mk (below_step (below_alloc (Below.refl _ w) _) hb1)
  have BK1 := Aside0.mk (blk_below (blk_new w (.cells #[.slice A0_0 l0_0.length c0_0, .slice A0_1 l0_1.length c0_1] 25)) hb1)
  clear hb1
  have hcA1 : w1.cell? ⟨w.heap.size, 0, none⟩ = some (.slice A0_0 l0_0.length c0_0) := (blk_cell BK1.out 0).trans rfl
  have hcB1 : w1.cell? ⟨w.heap.size, 1, none⟩ = some (.slice A0_1 l0_1.length c0_1) := (blk_cell BK1.out 1).trans rfl
  go_wp2_with fail
  refine (hdv _).mono ?_
  rintro e w2 ⟨rfl, ⟨⟨n2, rfl⟩⟩⟩
  go_wp2_with fail
  refine (hnd _ (Kd.C_below HR0.out (pw_below_drewN HB1.out n2)) (Kd.C_below HR1.out (pw_below_drewN HB1.out n2))).mono ?_
  rintro e w3 ⟨rfl, hb3⟩
  have HB3 := Aside0.mk (below_step (pw_below_drewN HB1.out n2) hb3)
  have BK3 := Aside0.mk (blk_below (blk_drewN BK1.out n2) hb3)
  clear hb3 hcA1 hcB1
  go_upto_if 34 with (fail)
  go_cut [9] from 32 to 36 (fun v9 wc => v9 = .int .u32 (wishS a2 a3) ∧ Aside0 (wc = w3))
  case first =>
    by_cases hz : Go.bits .and .u32 a3 a2 = 0
    · have hzb : (Go.bits .and .u32 a3 a2 == 0) = true := beq_iff_eq.mpr hz
      go_wp2_with (go_at_call 38; refine (least_calls a2 _).mono ?_; rintro e w' ⟨rfl, rfl⟩)
      go_meet
      case rel => exact ⟨by unfold wishS; rw [if_pos hz], ⟨rfl⟩⟩
    · have hzb : (Go.bits .and .u32 a3 a2 == 0) = false := beq_eq_false_iff_ne.mpr hz
      go_wp2
      go_meet
      case rel => exact ⟨by unfold wishS; rw [if_neg hz], ⟨rfl⟩⟩
  case rest =>
    obtain ⟨rfl, ⟨rfl⟩⟩ := hcut
    go_wp2_with (go_at_call 32; refine (each_calls _ _).mono ?_; rintro e w' ⟨rfl, rfl⟩)
    refine (wpIn_wide (n := 3)).1 ?_
    obtain ⟨W4, hW4⟩ : ∃ W4, W4 = (wc.alloc (.cells #[.int .u32 0] 26)).alloc (.cells #[.int .u32 (wishS a2 a3)] 26) := ⟨_, rfl⟩
    have hsz : W4.heap.size = wc.heap.size + 2 := by rw [hW4]; simp
    have hbox : W4.heap[wc.heap.size]? = some (.cells #[.int .u32 0] 26 (0, 0)) := by rw [hW4]; exact blk_alloc (blk_new wc _) _
    have heach : W4.heap[wc.heap.size + 1]? = some (.cells #[.int .u32 (wishS a2 a3)] 26 (0, 0)) := by
      rw [hW4]
      have := blk_new (wc.alloc (.cells #[.int .u32 0] 26)) (.cells #[.int .u32 (wishS a2 a3)] 26)
      rwa [World.size_alloc] at this
    have hb4 : Below w.heap.size w W4 := by rw [hW4]; exact below_alloc (below_alloc HB3.out _) _
    have hg4 : W4.heap[w.heap.size]? = some (.cells #[.slice A0_0 l0_0.length c0_0, .slice A0_1 l0_1.length c0_1] 25 (0, 0)) := by rw [hW4]; exact blk_alloc (blk_alloc BK3.out _) _
    have h3 : w.heap.size < wc.heap.size := blk_lt BK3.out
    rw [← hW4]
    clear hW4
    have hge : wc.heap.size + 2 ≤ W4.heap.size := by omega
    clear hsz
    refine range_all rfl (by decide) (gf := 44) (lb := #[.pointer (some ⟨wc.heap.size + 1, 0, none⟩)]) rfl trivial (enters_of Try.func44 (by kernel_rfl) rfl)
      (each_gives 2 (wc.heap.size + 1) (wishS a2 a3) hM W4 heach) (by omega) (fun _ => rfl)
      (fun pre W => ∃ t : Int, W.heap[wc.heap.size]? = some (.cells #[.int .u32 t] 26 (0, 0)) ∧ Aside0 (∀ rest, eachL 32 (wishS a2 a3) = pre ++ rest → lcLoop k l0_0 l0_1 rest t = some r) ∧ W.heap[w.heap.size]? = some (.cells #[.slice A0_0 l0_0.length c0_0, .slice A0_1 l0_1.length c0_1] 25 (0, 0)) ∧ Below w.heap.size w W ∧ W4.heap.size ≤ W.heap.size)
      ?hI ?hIb ?h0
      (fun x => { tmps := #[Value.agg #[Value.slice A0_0 l0_0.length c0_0, Value.slice A0_1 l0_1.length c0_1], Value.int IntKind.i64 2,
          Value.int IntKind.u32 a2, Value.int IntKind.u32 a3, Value.pointer (some { block := w.heap.size, off := 0 }),
          undef, undef, undef, Value.int IntKind.u32 0, Value.int IntKind.u32 (wishS a2 a3),
          Value.pointer (some { block := wc.heap.size, off := 0 }), Value.int IntKind.u32 x,
          Value.agg #[Value.slice A0_0 l0_0.length c0_0, Value.slice A0_1 l0_1.length c0_1], Value.bool true,
          Value.bool false, Value.bool false, Value.int IntKind.i64 2, Value.bool true, Value.bool false,
          Value.bool false, Value.bool false,
          Value.agg #[Value.slice A0_0 l0_0.length c0_0, Value.slice A0_1 l0_1.length c0_1], Value.int IntKind.u32 a2,
          Value.bool true, Value.bool false, Value.bool false, Value.bool false, Value.int IntKind.u32 a2,
          Value.bool false, Value.bool false, Value.int IntKind.u32 a3, Value.int IntKind.u32 a2,
          u32, u33, u34, u35, u36, Value.int IntKind.i64 2, Value.bool false, Value.bool false, undef, undef, Value.bool false,
          Value.bool false, undef, Value.bool true, Value.bool true, Value.int IntKind.u32 (wishS a2 a3),
          Value.func (Fn.func 44) #[] #[Value.pointer (some { block := wc.heap.size + 1, off := 0 })], Value.int IntKind.u32 x, undef,
          undef, undef, undef, undef, undef, undef, undef, undef, undef, undef], defers := [] }) ?assign ?body ?done
    case hI =>
      rintro s A B row ⟨t, h1, h2, h3, h4, h5⟩ hg hr
      exact ⟨t, cells_kept h1 hg (fun r e => (hr r e).2), h2, cells_kept h3 hg (fun r e => (hr r e).2), h4.grown hg (by omega) (fun j e => by have := (hr j e).1; omega), Nat.le_trans h5 hg.size⟩
    case hIb =>
      rintro s W u ⟨t, h1, h2, h3', h4, h5⟩
      exact ⟨t, blk_far h1 (by show wc.heap.size ≠ wc.heap.size + 1; omega) u, h2, blk_far h3' (by show w.heap.size ≠ wc.heap.size + 1; omega) u, h4.setCell (p := ⟨wc.heap.size + 1, 0, none⟩) (by show _ ≤ wc.heap.size + 1; omega) u, Nat.le_trans h5 (grownBy_setCell' W _ u).size⟩
    case h0 => exact ⟨0, hbox, ⟨fun rest hr => by rw [List.nil_append] at hr; rw [← hr]; exact HH.out⟩, hg4, hb4, Nat.le_refl _⟩
    case assign =>
      intro l x W K hK
      gi_wp2
      exact hK
    case body =>
      rintro l pre x W ⟨t, h1, ⟨h2⟩, h4, h5, h6⟩ ⟨rest, hpre⟩
      have h7 := h2 _ hpre
      have h8 : ∀ rest', eachL 32 (wishS a2 a3) = pre ++ x :: rest' → rest' = rest := fun rest' h => by
        rw [hpre] at h
        have := List.append_cancel_left h
        simpa using this.symm
      simp only [lcLoop] at h7
      obtain ⟨nb, hnb, h9⟩ := Option.bind_eq_some_iff.mp h7
      have hd : 1 ≤ 3 - 1 - 1 := by decide
      have hmx : Try.prog.follows .mixedOrders = true := by kernel_rfl
      have hcA : W.cell? ⟨w.heap.size, 0, none⟩ = some (.slice A0_0 l0_0.length c0_0) := (blk_cell h4 0).trans rfl
      have hcB : W.cell? ⟨w.heap.size, 1, none⟩ = some (.slice A0_1 l0_1.length c0_1) := (blk_cell h4 1).trans rfl
      have hcT : W.cell? ⟨wc.heap.size, 0, none⟩ = some (.int .u32 t) := (blk_cell h1 0).trans rfl
      have hfT : W.frozen? ⟨wc.heap.size, 0, none⟩ = false := blk_frozen h1 0
      have H1 := Aside0.mk h1
      have H4 := Aside0.mk h4
      have H5 := Aside0.mk h5
      have H9 := Aside0.mk h9
      have HNB := Aside0.mk hnb
      have HP := Aside0.mk hpre
      have H8 := Aside0.mk h8
      clear h1 h4 h5 h9 hnb hpre h8 h2 h7
      gi_wp2
      gi_region_with_o (refine ⟨trivial, ?_⟩; gi_at_call 39; refine (CallsIn.inRound l (callsIn_wide.2 (graph_Neighbours.calls k A0_0 c0_0 l0_0 A0_1 c0_1 l0_1 x nb _ (Kd.C_below HR0.out (below_drew1 H5.out)) hc0_0 (Kd.C_below HR1.out (below_drew1 H5.out)) hc0_1 HNB.out))).mono ?_; rintro e w' ⟨rfl, hb⟩; have hcT' : w'.cell? ⟨wc.heap.size, 0, none⟩ = some (.int .u32 t) := (blk_cell (blk_below (blk_drew H1.out) hb) 0).trans rfl; have hfT' : w'.frozen? ⟨wc.heap.size, 0, none⟩ = false := blk_frozen (blk_below (blk_drew H1.out) hb) 0)
      all_goals
        have hk1 := keepsOthers_below hb
        have hB1 : Below w.heap.size w w' := below_step (below_drew1 H5.out) hb
        have h11 : w'.heap[wc.heap.size]? = some (.cells #[.int .u32 t] 26 (0, 0)) := blk_below (blk_drew H1.out) hb
        have h14 : w'.heap[w.heap.size]? = some (.cells #[.slice A0_0 l0_0.length c0_0, .slice A0_1 l0_1.length c0_1] 25 (0, 0)) := blk_below (blk_drew H4.out) hb
        have hb' : w'.heap[wc.heap.size + 1]? = W.heap[wc.heap.size + 1]? := hb.block _ (by show _ < W.heap.size; omega)
        have hs' : W.heap.size ≤ w'.heap.size := hb.size
        have K1 := Aside0.mk hk1
        have B1 := Aside0.mk hB1
        have K11 := Aside0.mk h11
        have K14 := Aside0.mk h14
        have KB := Aside0.mk hb'
        clear hk1 hB1 h11 h14 hb' hb
        by_cases hz : Go.bits .and .u32 nb t = 0
        · have hzb : (Go.bits .and .u32 nb t == 0) = true := beq_iff_eq.mpr hz
          have h10 := H9.out
          rw [if_pos hz] at h10
          have H10 := Aside0.mk h10
          clear h10 hz
          gi_wp2
          refine ⟨K1.out.trans (KeepsOthers.setCell _ _ _), (Below.heap_setCell _ _ _ _ (by show wc.heap.size + 1 ≠ wc.heap.size; omega)).trans KB.out, Go.bits .or .u32 t x, blk_put K11.out 0 _ rfl, ⟨fun rest' h => by rw [H8.out rest' h]; exact H10.out⟩, blk_far K14.out (by show w.heap.size ≠ wc.heap.size; omega) _, B1.out.setCell (p := ⟨wc.heap.size, 0, none⟩) (by show _ ≤ wc.heap.size; omega) _, ?_⟩
          exact Nat.le_trans h6 hs'
        · have hzb : (Go.bits .and .u32 nb t == 0) = false := beq_eq_false_iff_ne.mpr hz
          have h10 := H9.out
          rw [if_neg hz] at h10
          have H10 := Aside0.mk h10
          clear h10 hz
          gi_wp2
          exact ⟨K1.out, KB.out, t, K11.out, ⟨fun rest' h => by rw [H8.out rest' h]; exact H10.out⟩, K14.out, B1.out, Nat.le_trans h6 hs'⟩
    case done =>
      rintro D W hD ⟨t, h1, ⟨h2⟩, h4, h5, h6⟩ hK
      have h7 := h2 [] (by simp)
      simp only [lcLoop] at h7
      obtain rfl := Option.some.inj h7
      have hcT : W.cell? ⟨wc.heap.size, 0, none⟩ = some (.int .u32 t) := (blk_cell h1 0).trans rfl
      go_wp2
      refine ⟨by simp, .inl ⟨_, _, rfl, run_takeDeferred hK, ?_⟩⟩
      exact ⟨_, results_tmp (fn := Try.f15) (t := 8) rfl _ _ _, rfl, h5.grown (grownBy_putObj' W D (.deferred none)) (by omega) (fun k e => by cases e; omega)⟩
end Go.Proofs.Ytmkpddhnnejfhaa.P
