/- daemon.Choices under the central daemon: each enabled node alone. -/
import Derived.Test.YtmkpddhnnejfhaaGEach
import Derived.Test.YtmkpddhnnejfhaaP3
import Derived.Test.YtmkpddhnnejfhaaP3
import Derived.Maps.AppendAt
namespace Go.Proofs.Ytmkpddhnnejfhaa.P
open Go.RowKit Go.Proofs.YtmkpddhnnejfhaaW.PrintWords Go.Shelf
attribute [local go_sem] Oper.semAt_some
set_option linter.unusedVariables false
theorem nodes_M32 {l0_0 : List Int} {l0_1 : List (List Lk)} {a2 : Int} {b : Bool} (h : daemon_nodes.f l0_0 l0_1 a2 = some b) : M32 a2 := by
  unfold daemon_nodes.f bits_Len32.f at h
  split at h
  · rename_i h1; exact ⟨h1.1, by omega⟩
  · cases h
theorem appended2 {W w1 : World} {n0 n1 B : Nat} {t e : TypeId} {size : Nat} {v v' : Value} {k m : Nat} {xs ys : List Value} {tmp : Obj}
    (hv : Boxed W B t v) (hte : t ≠ e) (hrow : W.ownsRow n1 e size v k xs) (hn1 : n1 ≤ W.heap.size) (hn : n0 ≤ n1) (hB : n0 ≤ B)
    (hown' : w1.ownsRow n1 e size v' m ys) (hgrow : (W.alloc tmp).grownBy w1 v.ownBlock) :
    Boxed w1 B t v ∧ Boxed (w1.setCell ⟨B, 0, none⟩ v') B t v' ∧ (w1.setCell ⟨B, 0, none⟩ v').ownsRow n1 e size v' m ys ∧ KeepsOthers W (w1.setCell ⟨B, 0, none⟩ v') ∧ Below n0 W (w1.setCell ⟨B, 0, none⟩ v') ∧
      ∀ b, b < n1 → b ≠ B → (w1.setCell ⟨B, 0, none⟩ v').heap[b]? = W.heap[b]? := by
  have hv1 : Boxed w1 B t v := (hv.alloc tmp).kept hgrow (hv.not_row hte hrow)
  have hfar : ∀ j, v.ownBlock = some j → n1 ≤ j := fun j ej => (hrow.lt j ej).1
  refine ⟨hv1, hv1.set v', hown'.kept (grownBy_setCell' w1 B v') (.inr (hv1.not_row hte hown').symm), ?_, ?_, ?_⟩
  · refine ((KeepsOthers.alloc W tmp).trans (KeepsOthers.of_grownBy hgrow fun j o ej hj => ?_)).trans (KeepsOthers.setCell _ _ _)
    rcases (hrow.alloc tmp).2 with ⟨rfl, _⟩ | ⟨g, cap, cur, rfl, _, hgb, _⟩
    · simp [Value.ownBlock] at ej
    · obtain rfl : g = j := by simpa [Value.ownBlock] using ej
      rw [hgb] at hj; cases hj; rfl
  · exact (((Below.refl n0 W).alloc (Nat.le_trans hn hn1) tmp).grown hgrow (by simp; omega) fun j ej => Nat.le_trans hn (hfar j ej)).setCell (p := ⟨B, 0, none⟩) hB v'
  · intro b hb hne
    have h1 : (W.alloc tmp).heap[b]? = W.heap[b]? := Below.heap_alloc W tmp b (by omega)
    have h2 : w1.heap[b]? = (W.alloc tmp).heap[b]? := hgrow.block b (by simp; omega) (fun he => by have := hfar b he.symm; omega)
    exact (Below.heap_setCell _ _ _ b hne).trans (h2.trans h1)
set_option maxHeartbeats 4000000 in
set_option maxRecDepth 100000 in
theorem choices_central (A0_0 : Option Addr) (c0_0 : Nat) (l0_0 : List Int) (A0_1 : Option Addr) (c0_1 : Nat) (l0_1 : List (List Lk)) (a2 : Int) (w : World) (hr0_0 : Kd.C (Kd.int .i64) w A0_0 l0_0.length l0_0) (hc0_0 : l0_0.length ≤ c0_0) (hr0_1 : Kd.C (Kd.slice 58 k58) w A0_1 l0_1.length l0_1) (hc0_1 : l0_1.length ≤ c0_1)
    (hv : validB l0_0 l0_1 = true) (hn : daemon_nodes.f l0_0 l0_1 a2 = some true) :
    Calls Try.prog 12 #[.agg #[.slice A0_0 l0_0.length c0_0, .slice A0_1 l0_1.length c0_1], .int .i64 1, .int .u32 a2] w fun e w' => ∃ v0_ : Value, e = .returned (.tuple #[v0_, .int .i64 0]) ∧ Kd.R (Kd.int .u32) 26 w' w.heap.size (fun _ => True) v0_ (eachL 32 a2) ∧ Below w.heap.size w w' := by
  have hM := nodes_M32 hn
  have hvl := fun (w : World) (h0 : Kd.C (Kd.int .i64) w A0_0 l0_0.length l0_0) (h1 : Kd.C (Kd.slice 58 k58) w A0_1 l0_1.length l0_1) => graph_Valid.calls A0_0 c0_0 l0_0 A0_1 c0_1 l0_1 true w h0 hc0_0 h1 hc0_1 (by unfold graph_Valid.f; rw [hv])
  have hnd := fun (w : World) (h0 : Kd.C (Kd.int .i64) w A0_0 l0_0.length l0_0) (h1 : Kd.C (Kd.slice 58 k58) w A0_1 l0_1.length l0_1) => daemon_nodes.calls A0_0 c0_0 l0_0 A0_1 c0_1 l0_1 a2 true w h0 hc0_0 h1 hc0_1 hn
  have hdv := fun (w : World) => daemon_Valid.calls 1 true w (by decide)
  have hu := Try.underlying25
  have HV := Aside0.mk hv
  have HN := Aside0.mk hn
  have HR0 := Aside0.mk hr0_0
  have HR1 := Aside0.mk hr0_1
  clear hv hn hr0_0 hr0_1
  refine (callsIn_wide (n := 3)).1 ?_
  refine callsIn_of_wp_marks Try.func12 rfl trivial ?_ rfl
  simp only [Try.ntmps12, List.size_toArray, List.length_cons, List.length_nil, Nat.reduceAdd, Nat.reduceSub, Array.replicate_succ, Array.replicate_zero, List.push_toArray, List.append_toArray, List.nil_append, List.cons_append]
  refine wpIn_wide.2 ?_
  go_wp2_with fail
  refine (hvl _ (Kd.C_alloc HR0.out _) (Kd.C_alloc HR1.out _)).mono ?_
  rintro e w1 ⟨rfl, hb1⟩
  have HB1 := Aside0.mk (below_step (below_alloc (Below.refl _ w) _) hb1)
  have BK1 := Aside0.mk (blk_below (blk_new w (.cells #[.slice A0_0 l0_0.length c0_0, .slice A0_1 l0_1.length c0_1] 25)) hb1)
  clear hb1
  have hcA1 : w1.cell? ⟨w.heap.size, 0, none⟩ = some (.slice A0_0 l0_0.length c0_0) := (blk_cell BK1.out 0).trans rfl
  have hcB1 : w1.cell? ⟨w.heap.size, 1, none⟩ = some (.slice A0_1 l0_1.length c0_1) := (blk_cell BK1.out 1).trans rfl
  go_wp2_with fail
  refine (hdv _).mono ?_
  rintro e w2 ⟨rfl, ⟨⟨n2, rfl⟩⟩⟩
  go_wp2_with fail
  refine (hnd _ (Kd.C_below HR0.out (pw_below_drewN HB1.out n2)) (Kd.C_below HR1.out (pw_below_drewN HB1.out n2))).mono ?_
  rintro e w3 ⟨rfl, hb3⟩
  have HB3 := Aside0.mk (below_step (pw_below_drewN HB1.out n2) hb3)
  have BK3 := Aside0.mk (blk_below (blk_drewN BK1.out n2) hb3)
  clear hb3 hcA1 hcB1
  go_wp2_with (go_at_call 32; refine (each_calls a2 _).mono ?_; rintro e w' ⟨rfl, rfl⟩)
  refine (wpIn_wide (n := 3)).1 ?_
  obtain ⟨W4, hW4⟩ : ∃ W4, W4 = (w3.alloc (.cells #[.slice none 0 0] 29)).alloc (.cells #[.int .u32 a2] 26) := ⟨_, rfl⟩
  have hsz : W4.heap.size = w3.heap.size + 2 := by rw [hW4]; simp
  have hbox : Boxed W4 w3.heap.size 29 (.slice none 0 0) := by rw [hW4]; exact (Boxed.new w3 29 _).alloc _
  have heach : W4.heap[w3.heap.size + 1]? = some (.cells #[.int .u32 a2] 26 (0, 0)) := by
    rw [hW4]
    have := blk_new (w3.alloc (.cells #[.slice none 0 0] 29)) (.cells #[.int .u32 a2] 26)
    rwa [World.size_alloc] at this
  have hb4 : Below w.heap.size w W4 := by rw [hW4]; exact below_alloc (below_alloc HB3.out _) _
  have h3 : w.heap.size ≤ w3.heap.size := below_size HB3.out
  rw [← hW4]
  clear hW4
  have HW4 := Aside0.mk hsz
  have hge : w3.heap.size + 2 ≤ W4.heap.size := by omega
  clear hsz
  obtain ⟨i0, hi, hz0, hz1, hz2⟩ := info_parts (show (Try.prog.info? 26).map (fun i => (i.zero, i.size, i.bytes)) = some (some (.int .u32 0), 1, 4) by kernel_rfl)
  have hlen : (eachL 32 a2).length ≤ 32 := by rw [(each_all hM).1, List.length_map]; exact Nat.le_trans (List.length_filter_le _ _) (by simp)
  refine range_all rfl (by decide) (gf := 44) (lb := #[.pointer (some ⟨w3.heap.size + 1, 0, none⟩)]) rfl trivial (enters_of Try.func44 (by kernel_rfl) rfl)
    (each_gives 2 (w3.heap.size + 1) a2 hM W4 heach) (by omega) (fun _ => rfl)
    (fun pre W => (∃ v, Boxed W w3.heap.size 29 v ∧ W.ownsRow W4.heap.size 26 1 v pre.length (pre.map (Value.int .u32)) ∧ True) ∧ Below w.heap.size w W ∧ W4.heap.size ≤ W.heap.size)
    ?hI ?hIb ?h0
    (fun x => { tmps := #[Value.agg #[Value.slice A0_0 l0_0.length c0_0, Value.slice A0_1 l0_1.length c0_1], Value.int IntKind.i64 1,
          Value.int IntKind.u32 a2, Value.pointer (some { block := w.heap.size, off := 0 }), undef, undef,
          Value.slice none 0 0, Value.int IntKind.i64 0, Value.pointer (some { block := w3.heap.size, off := 0 }),
          Value.int IntKind.u32 x, undef, Value.bool false,
          Value.agg #[Value.slice A0_0 l0_0.length c0_0, Value.slice A0_1 l0_1.length c0_1], Value.bool true,
          Value.bool false, Value.bool false, Value.int IntKind.i64 1, Value.bool true, Value.bool false,
          Value.bool false, Value.agg #[Value.slice A0_0 l0_0.length c0_0, Value.slice A0_1 l0_1.length c0_1],
          Value.int IntKind.u32 a2, Value.bool true, Value.bool false, Value.int IntKind.i64 1, undef, undef, undef,
          undef, undef, undef, undef, undef, undef, undef, undef, undef, undef, undef, undef, undef, undef, undef,
          undef, undef, undef, undef, undef, Value.bool true, Value.bool true, Value.int IntKind.u32 a2,
          Value.func (Fn.func 44) #[] #[Value.pointer (some { block := w3.heap.size + 1, off := 0 })], Value.int IntKind.u32 x, undef,
          undef, undef, undef, undef, undef, undef, undef, undef, undef, undef, undef, undef], defers := [] }) ?assign ?body ?done
  case hI => exact OwnFrom.and (Own.from (holdsRow_own _ _ _ _ _ (fun pre : List Int => pre.length) (fun pre => pre.map (Value.int .u32)) (fun _ _ => True)) _) (OwnFrom.and (ownFrom_below (Nat.le_refl _) (by omega)) (fun s A B row hs hg _ => Nat.le_trans hs hg.size))
  case hIb =>
    rintro s W u ⟨⟨v', hv, hr, _⟩, hB, hs⟩
    exact ⟨⟨v', hv.kept (grownBy_setCell' W _ u) (by simp), ownsRow_setCell_below hr (by show w3.heap.size + 1 < _; omega) u, trivial⟩, hB.setCell (p := ⟨w3.heap.size + 1, 0, none⟩) (by show _ ≤ w3.heap.size + 1; omega) u, Nat.le_trans hs (grownBy_setCell' W _ u).size⟩
  case h0 => exact ⟨⟨_, hbox, World.ownsRow_nil _ _ _ _, trivial⟩, hb4, Nat.le_refl _⟩
  case assign =>
    intro l x W K hK
    gi_wp2
    exact hK
  case body =>
    rintro l pre x W ⟨⟨v, hv, hr, _⟩, hB, hs⟩ ⟨rest, hpre⟩
    have hk : pre.length < 32 := by rw [hpre] at hlen; simp at hlen; omega
    have hc := hv.cell
    have hf := hv.frozen
    have HX := Aside0.mk hpre
    clear hpre
    gi_wp2_with (gi_at_builtin; refine wpListIn_append_own _ rfl _ _ 29 rfl W4.heap.size 26 i0 (.int .u32 0) 1 4 Try.underlying29 hi hz0 hz1 hz2 rfl (by decide) _ _ _ rfl (hr.alloc _) ⟨W.heap.size, 0, none⟩ 1 1 [.int .u32 x] rfl rfl (cell_one_new _ _ _) (by simp [Value.oneCell']) (by unfold maxLen; omega) (by omega) (by simp; omega) ?_; intro v' w1 hown' hgrow _; obtain ⟨g', cap', rfl⟩ := ownsRow_succ hown'; obtain ⟨hv1, hv2, hr2, hk2, hb2, hf2⟩ := appended2 (n0 := w.heap.size) hv (by decide) hr hs (by omega) (by omega) hown' hgrow; have hc1 := hv1.cell; have hf1 := hv1.frozen)
    refine ⟨hf2 _ (by omega) (by omega), ⟨_, hv2, hr2⟩, hB.trans hb2, Nat.le_trans hs (by have := hb2.size; simpa using this)⟩
  case done =>
    rintro D W hD ⟨⟨v, hv, hr, _⟩, hB, hs⟩ hK
    have hc := hv.cell
    go_wp2
    refine ⟨by simp, .inl ⟨_, _, rfl, run_takeDeferred hK, ?_⟩⟩
    have hr' : Kd.R (Kd.int .u32) 26 (W.putObj D (.deferred none)) W4.heap.size (fun _ => True) v (eachL 32 a2) := Kd.R_of_own (ownsRow_putObj hr (.deferred none) hK rfl) (fun _ _ => trivial)
    exact ⟨.tuple #[v, .int .i64 0], results_tmp2 (fn := Try.f12) (t := 6) (u := 7) rfl _ _ _, v, rfl, Kd.R_lower hr' (by omega), hB.grown (grownBy_putObj' W D (.deferred none)) (by omega) (fun k e => by cases e; omega)⟩
end Go.Proofs.Ytmkpddhnnejfhaa.P
