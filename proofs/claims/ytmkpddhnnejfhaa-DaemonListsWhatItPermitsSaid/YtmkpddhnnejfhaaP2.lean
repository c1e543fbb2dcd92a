-- By a program of this session (wip/tools/myprint.py over the kit's printer). Not trusted: Lean checks it.
import Derived.Test.YtmkpddhnnejfhaaP0
import Derived.Test.YtmkpddhnnejfhaaP1
namespace Go.Proofs.Ytmkpddhnnejfhaa.P
open Go.RowKit Go.Proofs.YtmkpddhnnejfhaaW.PrintWords Go.Proofs.YtmkpddhnnejfhaaW.PrintLast Go.Proofs.YtmkpddhnnejfhaaW.PrintMore
attribute [local go_sem] max2_int min2_int max_two min_two max_three min_three max_four min_four   -- for this text's walks alone
set_option linter.unusedVariables false
set_option linter.unusedSimpArgs false

/-! ### selfstabref01_Valid: function 35 -/
mutual
def selfstabref01_Valid.j0 : Nat → Int → Bool → List Int → List (List (S58)) → Option (Bool)
  | 0, _, _, _, _ => none
  | k + 1, x3, x22, x171000, x171001 => if x22 = true then (some false) else (selfstabref01_Valid.l0 k x3 0 x171000 x171001)
def selfstabref01_Valid.l0 : Nat → Int → Int → List Int → List (List (S58)) → Option (Bool)
  | 0, _, _, _, _ => none
  | k + 1, x3, x4, x171000, x171001 => if x4 < x3 then (if 0 ≤ x4 then (if x4 < (x171000.length : Int) then ((selfstabref01_In.f (rd x171000 x4) 0 255).bind fun t173 => (if t173 = true then (if x4 < (x171001.length : Int) then (if ((rd_L2 x171001 x4).length : Int) ≥ x3 then (selfstabref01_Valid.j2 k x3 x4 true x171000 x171001) else ((selfstabref01_linksValid.f k (rd_L2 x171001 x4) x4 x3).bind fun t176 => (selfstabref01_Valid.j2 k x3 x4 (!t176) x171000 x171001))) else (none)) else (selfstabref01_Valid.j2 k x3 x4 true x171000 x171001))) else (none)) else (none)) else (selfstabref01_Valid.l2 k x3 0 x171000 x171001)
def selfstabref01_Valid.j2 : Nat → Int → Int → Bool → List Int → List (List (S58)) → Option (Bool)
  | 0, _, _, _, _, _ => none
  | k + 1, x3, x4, x55, x171000, x171001 => if x55 = true then (some false) else (selfstabref01_Valid.l1 k x3 x4 0 x171000 x171001)
def selfstabref01_Valid.l1 : Nat → Int → Int → Int → List Int → List (List (S58)) → Option (Bool)
  | 0, _, _, _, _, _ => none
  | k + 1, x3, x4, x5, x171000, x171001 => if x5 < x4 then (if 0 ≤ x5 then (if x5 < (x171000.length : Int) then (if 0 ≤ x4 then (if x4 < (x171000.length : Int) then (if (rd x171000 x5) = (rd x171000 x4) then (some false) else (selfstabref01_Valid.l1 k x3 x4 (wrap64 (x5 + 1)) x171000 x171001)) else (none)) else (none)) else (none)) else (none)) else (selfstabref01_Valid.l0 k x3 (wrap64 (x4 + 1)) x171000 x171001)
def selfstabref01_Valid.l2 : Nat → Int → Int → List Int → List (List (S58)) → Option (Bool)
  | 0, _, _, _, _ => none
  | k + 1, x3, x6, x171000, x171001 => if x6 < x3 then (selfstabref01_Valid.l3 k x3 x6 0 x171000 x171001) else (some true)
def selfstabref01_Valid.l3 : Nat → Int → Int → Int → List Int → List (List (S58)) → Option (Bool)
  | 0, _, _, _, _, _ => none
  | k + 1, x3, x6, x7, x171000, x171001 => if 0 ≤ x6 then (if x6 < (x171001.length : Int) then (if x7 < ((rd_L2 x171001 x6).length : Int) then (if 0 ≤ x7 then ((selfstabref01_Port.f k x171000 x171001 ((rd_T58 (rd_L2 x171001 x6) x7).f0) x6).bind fun t183 => (if t183 < 0 then (some false) else (if 0 ≤ ((rd_T58 (rd_L2 x171001 x6) x7).f0) then (if ((rd_T58 (rd_L2 x171001 x6) x7).f0) < (x171001.length : Int) then (if 0 ≤ t183 then (if t183 < ((rd_L2 x171001 ((rd_T58 (rd_L2 x171001 x6) x7).f0)).length : Int) then (if ((rd_T58 (rd_L2 x171001 ((rd_T58 (rd_L2 x171001 x6) x7).f0)) t183).f1) = ((rd_T58 (rd_L2 x171001 x6) x7).f1) then (selfstabref01_Valid.l3 k x3 x6 (wrap64 (x7 + 1)) x171000 x171001) else (some false)) else (none)) else (none)) else (none)) else (none)))) else (none)) else (selfstabref01_Valid.l2 k x3 (wrap64 (x6 + 1)) x171000 x171001)) else (none)) else (none)
end
def selfstabref01_Valid.f (k : Nat) (l0_0 : List Int) (l0_1 : List (List (S58))) : Option (Bool) := (selfstabref01_In.f (l0_1.length : Int) 1 24).bind fun t171 => (if t171 = true then (selfstabref01_Valid.j0 k (l0_1.length : Int) ((l0_0.length : Int) != (l0_1.length : Int)) l0_0 l0_1) else (selfstabref01_Valid.j0 k (l0_1.length : Int) true l0_0 l0_1))
theorem selfstabref01_Valid.mono_l : ∀ k, (∀ y0 y1 y2 y3, LeO (selfstabref01_Valid.j0 k y0 y1 y2 y3) (selfstabref01_Valid.j0 (k + 1) y0 y1 y2 y3)) ∧ (∀ y0 y1 y2 y3, LeO (selfstabref01_Valid.l0 k y0 y1 y2 y3) (selfstabref01_Valid.l0 (k + 1) y0 y1 y2 y3)) ∧ (∀ y0 y1 y2 y3 y4, LeO (selfstabref01_Valid.j2 k y0 y1 y2 y3 y4) (selfstabref01_Valid.j2 (k + 1) y0 y1 y2 y3 y4)) ∧ (∀ y0 y1 y2 y3 y4, LeO (selfstabref01_Valid.l1 k y0 y1 y2 y3 y4) (selfstabref01_Valid.l1 (k + 1) y0 y1 y2 y3 y4)) ∧ (∀ y0 y1 y2 y3, LeO (selfstabref01_Valid.l2 k y0 y1 y2 y3) (selfstabref01_Valid.l2 (k + 1) y0 y1 y2 y3)) ∧ (∀ y0 y1 y2 y3 y4, LeO (selfstabref01_Valid.l3 k y0 y1 y2 y3 y4) (selfstabref01_Valid.l3 (k + 1) y0 y1 y2 y3 y4))
  | 0 => ⟨fun _ _ _ _ r h => by simp [selfstabref01_Valid.j0] at h, fun _ _ _ _ r h => by simp [selfstabref01_Valid.l0] at h, fun _ _ _ _ _ r h => by simp [selfstabref01_Valid.j2] at h, fun _ _ _ _ _ r h => by simp [selfstabref01_Valid.l1] at h, fun _ _ _ _ r h => by simp [selfstabref01_Valid.l2] at h, fun _ _ _ _ _ r h => by simp [selfstabref01_Valid.l3] at h⟩
  | k + 1 => by
    obtain ⟨ih0, ih1, ih2, ih3, ih4, ih5⟩ := selfstabref01_Valid.mono_l k
    refine ⟨?_, ?_, ?_, ?_, ?_, ?_⟩
    · intro y0 y1 y2 y3
      unfold selfstabref01_Valid.j0
      repeat' first
      | (with_reducible exact ih0 _ _ _ _)
      | (with_reducible exact ih1 _ _ _ _)
      | (with_reducible exact ih2 _ _ _ _ _)
      | (with_reducible exact ih3 _ _ _ _ _)
      | (with_reducible exact ih4 _ _ _ _)
      | (with_reducible exact ih5 _ _ _ _ _)
      | (with_reducible exact selfstabref01_Port.mono _ _ _ _ _)
      | (with_reducible exact selfstabref01_linksValid.mono _ _ _ _)
      | (with_reducible exact LeO.refl _)
      | (with_reducible exact LeO.none _)
      | (with_reducible refine LeO.ite ?_ ?_)
      | (with_reducible refine LeO.bind ?_ (fun _ => ?_))
      | exact ih0 _ _ _ _
      | exact ih1 _ _ _ _
      | exact ih2 _ _ _ _ _
      | exact ih3 _ _ _ _ _
      | exact ih4 _ _ _ _
      | exact ih5 _ _ _ _ _
      | exact selfstabref01_Port.mono _ _ _ _ _
      | exact selfstabref01_linksValid.mono _ _ _ _
      | exact LeO.none _
      | refine LeO.ite ?_ ?_
      | refine LeO.bind ?_ (fun _ => ?_)
    · intro y0 y1 y2 y3
      unfold selfstabref01_Valid.l0
      repeat' first
      | (with_reducible exact ih0 _ _ _ _)
      | (with_reducible exact ih1 _ _ _ _)
      | (with_reducible exact ih2 _ _ _ _ _)
      | (with_reducible exact ih3 _ _ _ _ _)
      | (with_reducible exact ih4 _ _ _ _)
      | (with_reducible exact ih5 _ _ _ _ _)
      | (with_reducible exact selfstabref01_Port.mono _ _ _ _ _)
      | (with_reducible exact selfstabref01_linksValid.mono _ _ _ _)
      | (with_reducible exact LeO.refl _)
      | (with_reducible exact LeO.none _)
      | (with_reducible refine LeO.ite ?_ ?_)
      | (with_reducible refine LeO.bind ?_ (fun _ => ?_))
      | exact ih0 _ _ _ _
      | exact ih1 _ _ _ _
      | exact ih2 _ _ _ _ _
      | exact ih3 _ _ _ _ _
      | exact ih4 _ _ _ _
      | exact ih5 _ _ _ _ _
      | exact selfstabref01_Port.mono _ _ _ _ _
      | exact selfstabref01_linksValid.mono _ _ _ _
      | exact LeO.none _
      | refine LeO.ite ?_ ?_
      | refine LeO.bind ?_ (fun _ => ?_)
    · intro y0 y1 y2 y3 y4
      unfold selfstabref01_Valid.j2
      repeat' first
      | (with_reducible exact ih0 _ _ _ _)
      | (with_reducible exact ih1 _ _ _ _)
      | (with_reducible exact ih2 _ _ _ _ _)
      | (with_reducible exact ih3 _ _ _ _ _)
      | (with_reducible exact ih4 _ _ _ _)
      | (with_reducible exact ih5 _ _ _ _ _)
      | (with_reducible exact selfstabref01_Port.mono _ _ _ _ _)
      | (with_reducible exact selfstabref01_linksValid.mono _ _ _ _)
      | (with_reducible exact LeO.refl _)
      | (with_reducible exact LeO.none _)
      | (with_reducible refine LeO.ite ?_ ?_)
      | (with_reducible refine LeO.bind ?_ (fun _ => ?_))
      | exact ih0 _ _ _ _
      | exact ih1 _ _ _ _
      | exact ih2 _ _ _ _ _
      | exact ih3 _ _ _ _ _
      | exact ih4 _ _ _ _
      | exact ih5 _ _ _ _ _
      | exact selfstabref01_Port.mono _ _ _ _ _
      | exact selfstabref01_linksValid.mono _ _ _ _
      | exact LeO.none _
      | refine LeO.ite ?_ ?_
      | refine LeO.bind ?_ (fun _ => ?_)
    · intro y0 y1 y2 y3 y4
      unfold selfstabref01_Valid.l1
      repeat' first
      | (with_reducible exact ih0 _ _ _ _)
      | (with_reducible exact ih1 _ _ _ _)
      | (with_reducible exact ih2 _ _ _ _ _)
      | (with_reducible exact ih3 _ _ _ _ _)
      | (with_reducible exact ih4 _ _ _ _)
      | (with_reducible exact ih5 _ _ _ _ _)
      | (with_reducible exact selfstabref01_Port.mono _ _ _ _ _)
      | (with_reducible exact selfstabref01_linksValid.mono _ _ _ _)
      | (with_reducible exact LeO.refl _)
      | (with_reducible exact LeO.none _)
      | (with_reducible refine LeO.ite ?_ ?_)
      | (with_reducible refine LeO.bind ?_ (fun _ => ?_))
      | exact ih0 _ _ _ _
      | exact ih1 _ _ _ _
      | exact ih2 _ _ _ _ _
      | exact ih3 _ _ _ _ _
      | exact ih4 _ _ _ _
      | exact ih5 _ _ _ _ _
      | exact selfstabref01_Port.mono _ _ _ _ _
      | exact selfstabref01_linksValid.mono _ _ _ _
      | exact LeO.none _
      | refine LeO.ite ?_ ?_
      | refine LeO.bind ?_ (fun _ => ?_)
    · intro y0 y1 y2 y3
      unfold selfstabref01_Valid.l2
      repeat' first
      | (with_reducible exact ih0 _ _ _ _)
      | (with_reducible exact ih1 _ _ _ _)
      | (with_reducible exact ih2 _ _ _ _ _)
      | (with_reducible exact ih3 _ _ _ _ _)
      | (with_reducible exact ih4 _ _ _ _)
      | (with_reducible exact ih5 _ _ _ _ _)
      | (with_reducible exact selfstabref01_Port.mono _ _ _ _ _)
      | (with_reducible exact selfstabref01_linksValid.mono _ _ _ _)
      | (with_reducible exact LeO.refl _)
      | (with_reducible exact LeO.none _)
      | (with_reducible refine LeO.ite ?_ ?_)
      | (with_reducible refine LeO.bind ?_ (fun _ => ?_))
      | exact ih0 _ _ _ _
      | exact ih1 _ _ _ _
      | exact ih2 _ _ _ _ _
      | exact ih3 _ _ _ _ _
      | exact ih4 _ _ _ _
      | exact ih5 _ _ _ _ _
      | exact selfstabref01_Port.mono _ _ _ _ _
      | exact selfstabref01_linksValid.mono _ _ _ _
      | exact LeO.none _
      | refine LeO.ite ?_ ?_
      | refine LeO.bind ?_ (fun _ => ?_)
    · intro y0 y1 y2 y3 y4
      unfold selfstabref01_Valid.l3
      repeat' first
      | (with_reducible exact ih0 _ _ _ _)
      | (with_reducible exact ih1 _ _ _ _)
      | (with_reducible exact ih2 _ _ _ _ _)
      | (with_reducible exact ih3 _ _ _ _ _)
      | (with_reducible exact ih4 _ _ _ _)
      | (with_reducible exact ih5 _ _ _ _ _)
      | (with_reducible exact selfstabref01_Port.mono _ _ _ _ _)
      | (with_reducible exact selfstabref01_linksValid.mono _ _ _ _)
      | (with_reducible exact LeO.refl _)
      | (with_reducible exact LeO.none _)
      | (with_reducible refine LeO.ite ?_ ?_)
      | (with_reducible refine LeO.bind ?_ (fun _ => ?_))
      | exact ih0 _ _ _ _
      | exact ih1 _ _ _ _
      | exact ih2 _ _ _ _ _
      | exact ih3 _ _ _ _ _
      | exact ih4 _ _ _ _
      | exact ih5 _ _ _ _ _
      | exact selfstabref01_Port.mono _ _ _ _ _
      | exact selfstabref01_linksValid.mono _ _ _ _
      | exact LeO.none _
      | refine LeO.ite ?_ ?_
      | refine LeO.bind ?_ (fun _ => ?_)
theorem selfstabref01_Valid.mono : ∀ a0 a1 k, LeO (selfstabref01_Valid.f k a0 a1) (selfstabref01_Valid.f (k + 1) a0 a1) := by
  intro a0 a1 k
  obtain ⟨ih0, ih1, ih2, ih3, ih4, ih5⟩ := selfstabref01_Valid.mono_l k
  unfold selfstabref01_Valid.f
  repeat' first
      | (with_reducible exact ih0 _ _ _ _)
      | (with_reducible exact ih1 _ _ _ _)
      | (with_reducible exact ih2 _ _ _ _ _)
      | (with_reducible exact ih3 _ _ _ _ _)
      | (with_reducible exact ih4 _ _ _ _)
      | (with_reducible exact ih5 _ _ _ _ _)
      | (with_reducible exact selfstabref01_Port.mono _ _ _ _ _)
      | (with_reducible exact selfstabref01_linksValid.mono _ _ _ _)
      | (with_reducible exact LeO.refl _)
      | (with_reducible exact LeO.none _)
      | (with_reducible refine LeO.ite ?_ ?_)
      | (with_reducible refine LeO.bind ?_ (fun _ => ?_))
      | exact ih0 _ _ _ _
      | exact ih1 _ _ _ _
      | exact ih2 _ _ _ _ _
      | exact ih3 _ _ _ _ _
      | exact ih4 _ _ _ _
      | exact ih5 _ _ _ _ _
      | exact selfstabref01_Port.mono _ _ _ _ _
      | exact selfstabref01_linksValid.mono _ _ _ _
      | exact LeO.none _
      | refine LeO.ite ?_ ?_
      | refine LeO.bind ?_ (fun _ => ?_)
set_option maxHeartbeats 8000000 in
set_option maxRecDepth 100000 in
theorem selfstabref01_Valid.calls (k : Nat) (A0_0 : Option Addr) (c0_0 : Nat) (l0_0 : List Int) (A0_1 : Option Addr) (c0_1 : Nat) (l0_1 : List (List (S58))) (r : Bool) (w : World) (hr0_0 : Kd.C (Kd.int .i64) w A0_0 l0_0.length l0_0) (hc0_0 : l0_0.length ≤ c0_0) (hr0_1 : Kd.C (Kd.slice 58 k58) w A0_1 l0_1.length l0_1) (hc0_1 : l0_1.length ≤ c0_1) (h : selfstabref01_Valid.f k l0_0 l0_1 = some r) :
    Calls Try.prog 35 #[.agg #[.slice A0_0 l0_0.length c0_0, .slice A0_1 l0_1.length c0_1]] w fun e w' => e = .returned (.bool r) ∧ Below w.heap.size w w' := by
  have hu25 := Try.underlying25
  have hu58 := Try.underlying58
  have HR0_0 := Aside0.mk hr0_0
  have HC0_0 := Aside0.mk hc0_0
  clear hr0_0 hc0_0
  have HR0_1 := Aside0.mk hr0_1
  have HC0_1 := Aside0.mk hc0_1
  clear hr0_1 hc0_1
  have HB := Aside0.mk (Below.refl w.heap.size w)
  have H : ((selfstabref01_In.f (l0_1.length : Int) 1 24).bind fun t171 => (if t171 = true then (selfstabref01_Valid.j0 k (l0_1.length : Int) ((l0_0.length : Int) != (l0_1.length : Int)) l0_0 l0_1) else (selfstabref01_Valid.j0 k (l0_1.length : Int) true l0_0 l0_1))) = some r := h
  clear h
  have HC2 := Aside0.mk H
  clear H
  go_enter Try.func35, Try.ntmps35
  go_upto_region 2 with (first | ((with_reducible refine gate_dst (N := 1) rfl ?_); (try (refine gate_guard (by rfl) ?_; dsimp only)); refine box_event ?hg (N := 1) ?hd (cs := #[.slice A0_0 l0_0.length c0_0, .slice A0_1 l0_1.length c0_1]) (t := 25) ?hr ?_; (case hd => rfl); (case hg => rfl); (case hr => first | (go_simp; done) | (go_simp; rfl)); intro gb170 hg w3 hbox hb; have n0_ := Aside0.mk (below_step (by repeat (first | (with_reducible first | exact HB.out | apply below_alloc | apply pw_below_drewN | apply below_drew1) | exact HB.out)) hb); have n1_ := Aside0.mk (hbox); have n2_ := Aside0.mk ((by rw [hg]; exact (below_size (by repeat (first | (with_reducible first | exact HB.out | apply below_alloc | apply pw_below_drewN | apply below_drew1) | exact HB.out))) : w.heap.size ≤ gb170)); have n3_ := Aside0.mk ((by rw [hg]; exact (below_size (by repeat (first | (with_reducible first | exact HB.out | apply below_alloc | apply pw_below_drewN | apply below_drew1) | exact HB.out))) : w.heap.size ≤ gb170)); clear HB; have HB := n0_; have BK170 := n1_; have GW170 := n2_; have GE170 := n3_; clear n0_ n1_ n2_ n3_; clear hb hbox hg; have hcz4_0 : w3.cell? ⟨gb170, 0, none⟩ = some (.slice A0_0 l0_0.length c0_0) := (blk_cell BK170.out 0).trans rfl; have hcz4_1 : w3.cell? ⟨gb170, 1, none⟩ = some (.slice A0_1 l0_1.length c0_1) := (blk_cell BK170.out 1).trans rfl; have hfz4_0 := blk_frozen BK170.out 0; have hfz4_1 := blk_frozen BK170.out 1))
  repeat (go_quiet (first | ((with_reducible refine gate_dst (N := 1) rfl ?_); (try (refine gate_guard (by rfl) ?_; dsimp only)); refine box_event ?hg (N := 1) ?hd (cs := #[.slice A0_0 l0_0.length c0_0, .slice A0_1 l0_1.length c0_1]) (t := 25) ?hr ?_; (case hd => rfl); (case hg => rfl); (case hr => first | (go_simp; done) | (go_simp; rfl)); intro gb170 hg w3 hbox hb; have n0_ := Aside0.mk (below_step (by repeat (first | (with_reducible first | exact HB.out | apply below_alloc | apply pw_below_drewN | apply below_drew1) | exact HB.out)) hb); have n1_ := Aside0.mk (hbox); have n2_ := Aside0.mk ((by rw [hg]; exact (below_size (by repeat (first | (with_reducible first | exact HB.out | apply below_alloc | apply pw_below_drewN | apply below_drew1) | exact HB.out))) : w.heap.size ≤ gb170)); have n3_ := Aside0.mk ((by rw [hg]; exact (below_size (by repeat (first | (with_reducible first | exact HB.out | apply below_alloc | apply pw_below_drewN | apply below_drew1) | exact HB.out))) : w.heap.size ≤ gb170)); clear HB; have HB := n0_; have BK170 := n1_; have GW170 := n2_; have GE170 := n3_; clear n0_ n1_ n2_ n3_; clear hb hbox hg; have hcz4_0 : w3.cell? ⟨gb170, 0, none⟩ = some (.slice A0_0 l0_0.length c0_0) := (blk_cell BK170.out 0).trans rfl; have hcz4_1 : w3.cell? ⟨gb170, 1, none⟩ = some (.slice A0_1 l0_1.length c0_1) := (blk_cell BK170.out 1).trans rfl; have hfz4_0 := blk_frozen BK170.out 0; have hfz4_1 := blk_frozen BK170.out 1)); go_upto_region 2 with (first | ((with_reducible refine gate_dst (N := 1) rfl ?_); (try (refine gate_guard (by rfl) ?_; dsimp only)); refine box_event ?hg (N := 1) ?hd (cs := #[.slice A0_0 l0_0.length c0_0, .slice A0_1 l0_1.length c0_1]) (t := 25) ?hr ?_; (case hd => rfl); (case hg => rfl); (case hr => first | (go_simp; done) | (go_simp; rfl)); intro gb170 hg w3 hbox hb; have n0_ := Aside0.mk (below_step (by repeat (first | (with_reducible first | exact HB.out | apply below_alloc | apply pw_below_drewN | apply below_drew1) | exact HB.out)) hb); have n1_ := Aside0.mk (hbox); have n2_ := Aside0.mk ((by rw [hg]; exact (below_size (by repeat (first | (with_reducible first | exact HB.out | apply below_alloc | apply pw_below_drewN | apply below_drew1) | exact HB.out))) : w.heap.size ≤ gb170)); have n3_ := Aside0.mk ((by rw [hg]; exact (below_size (by repeat (first | (with_reducible first | exact HB.out | apply below_alloc | apply pw_below_drewN | apply below_drew1) | exact HB.out))) : w.heap.size ≤ gb170)); clear HB; have HB := n0_; have BK170 := n1_; have GW170 := n2_; have GE170 := n3_; clear n0_ n1_ n2_ n3_; clear hb hbox hg; have hcz4_0 : w3.cell? ⟨gb170, 0, none⟩ = some (.slice A0_0 l0_0.length c0_0) := (blk_cell BK170.out 0).trans rfl; have hcz4_1 : w3.cell? ⟨gb170, 1, none⟩ = some (.slice A0_1 l0_1.length c0_1) := (blk_cell BK170.out 1).trans rfl; have hfz4_0 := blk_frozen BK170.out 0; have hfz4_1 := blk_frozen BK170.out 1)))
  (try simp only [Act.put, List.setIfInBounds_toArray, List.set_cons_zero, List.set_cons_succ])
  go_cut [22] (fun v22 wc => ∃ (kq : Nat) (x22_1 : Bool), v22 = .bool x22_1 ∧ Aside0 (selfstabref01_Valid.j0 kq (l0_1.length : Int) x22_1 l0_0 l0_1 = some r) ∧ Aside0 (kq ≤ k) ∧ Aside0 (wc.heap[gb170]? = some (.cells #[(.slice A0_0 l0_0.length c0_0), (.slice A0_1 l0_1.length c0_1)] 25 (0, 0))) ∧ Aside0 (Below w.heap.size w wc))
  case first =>
    have H := HC2.out
    clear HC2
    replace H := Option.bind_eq_some_iff.mp H
    obtain ⟨t171, A50, H⟩ := H
    replace H : (if t171 = true then (selfstabref01_Valid.j0 k (l0_1.length : Int) ((l0_0.length : Int) != (l0_1.length : Int)) l0_0 l0_1) else (selfstabref01_Valid.j0 k (l0_1.length : Int) true l0_0 l0_1)) = some r := H
    have A5 := Aside0.mk A50
    clear A50
    by_cases c6 : t171 = true
    · subst c6
      have H1 : (selfstabref01_Valid.j0 k (l0_1.length : Int) ((l0_0.length : Int) != (l0_1.length : Int)) l0_0 l0_1) = some r := by rw [if_pos rfl] at H; exact H
      clear H
      have H := H1
      clear H1
      have H' := Aside0.mk H
      clear H
      go_wp2_with (first | (go_at_call 46; (with_reducible refine (selfstabref01_In.calls (l0_1.length : Int) 1 24 true _ A5.out).mono ?_); rintro e w' ⟨rfl, ⟨nd, rfl⟩⟩; (try first | exact ⟨rfl, _, World.drewN_drewN _ _ _⟩ | exact ⟨rfl, _, Eq.trans (World.drewN_drewN _ _ _) (congrArg (World.drewN _) (Nat.add_assoc _ _ _))⟩); have hcz7_0 : w3.cell? ⟨gb170, 0, none⟩ = some (.slice A0_0 l0_0.length c0_0) := (blk_cell BK170.out 0).trans rfl; have hcz7_1 : w3.cell? ⟨gb170, 1, none⟩ = some (.slice A0_1 l0_1.length c0_1) := (blk_cell BK170.out 1).trans rfl; have hfz7_0 := blk_frozen BK170.out 0; have hfz7_1 := blk_frozen BK170.out 1))
      repeat (go_quiet (first | (go_at_call 46; (with_reducible refine (selfstabref01_In.calls (l0_1.length : Int) 1 24 true _ A5.out).mono ?_); rintro e w' ⟨rfl, ⟨nd, rfl⟩⟩; (try first | exact ⟨rfl, _, World.drewN_drewN _ _ _⟩ | exact ⟨rfl, _, Eq.trans (World.drewN_drewN _ _ _) (congrArg (World.drewN _) (Nat.add_assoc _ _ _))⟩); have hcz7_0 : w3.cell? ⟨gb170, 0, none⟩ = some (.slice A0_0 l0_0.length c0_0) := (blk_cell BK170.out 0).trans rfl; have hcz7_1 : w3.cell? ⟨gb170, 1, none⟩ = some (.slice A0_1 l0_1.length c0_1) := (blk_cell BK170.out 1).trans rfl; have hfz7_0 := blk_frozen BK170.out 0; have hfz7_1 := blk_frozen BK170.out 1)); try go_wp2_with (first | (go_at_call 46; (with_reducible refine (selfstabref01_In.calls (l0_1.length : Int) 1 24 true _ A5.out).mono ?_); rintro e w' ⟨rfl, ⟨nd, rfl⟩⟩; (try first | exact ⟨rfl, _, World.drewN_drewN _ _ _⟩ | exact ⟨rfl, _, Eq.trans (World.drewN_drewN _ _ _) (congrArg (World.drewN _) (Nat.add_assoc _ _ _))⟩); have hcz7_0 : w3.cell? ⟨gb170, 0, none⟩ = some (.slice A0_0 l0_0.length c0_0) := (blk_cell BK170.out 0).trans rfl; have hcz7_1 : w3.cell? ⟨gb170, 1, none⟩ = some (.slice A0_1 l0_1.length c0_1) := (blk_cell BK170.out 1).trans rfl; have hfz7_0 := blk_frozen BK170.out 0; have hfz7_1 := blk_frozen BK170.out 1)))
      go_meet
      case rel => exact ⟨_, (((l0_0.length : Int) != (l0_1.length : Int))), (by first | rfl | (simp; done) | (simp [*]; done)), H', ⟨by first | omega | exact Nat.le_refl _⟩, ⟨by (with_reducible repeat (first | refine blk_drewN ?_ _ | refine blk_drew ?_ | refine blk_alloc ?_ _)); exact BK170.out⟩, ⟨by repeat (first | (with_reducible first | exact HB.out | apply below_alloc | apply pw_below_drewN | apply below_drew1 | refine below_set ?_ GE170.out) | exact HB.out)⟩⟩
    · replace c6 := Bool.eq_false_iff.mpr c6
      subst c6
      have H1 : (selfstabref01_Valid.j0 k (l0_1.length : Int) true l0_0 l0_1) = some r := by rw [if_neg (show ¬ (false = true) by decide)] at H; exact H
      clear H
      have H := H1
      clear H1
      have H' := Aside0.mk H
      clear H
      go_wp2_with (first | (go_at_call 46; (with_reducible refine (selfstabref01_In.calls (l0_1.length : Int) 1 24 false _ A5.out).mono ?_); rintro e w' ⟨rfl, ⟨nd, rfl⟩⟩; (try first | exact ⟨rfl, _, World.drewN_drewN _ _ _⟩ | exact ⟨rfl, _, Eq.trans (World.drewN_drewN _ _ _) (congrArg (World.drewN _) (Nat.add_assoc _ _ _))⟩)))
      repeat (go_quiet (first | (go_at_call 46; (with_reducible refine (selfstabref01_In.calls (l0_1.length : Int) 1 24 false _ A5.out).mono ?_); rintro e w' ⟨rfl, ⟨nd, rfl⟩⟩; (try first | exact ⟨rfl, _, World.drewN_drewN _ _ _⟩ | exact ⟨rfl, _, Eq.trans (World.drewN_drewN _ _ _) (congrArg (World.drewN _) (Nat.add_assoc _ _ _))⟩))); try go_wp2_with (first | (go_at_call 46; (with_reducible refine (selfstabref01_In.calls (l0_1.length : Int) 1 24 false _ A5.out).mono ?_); rintro e w' ⟨rfl, ⟨nd, rfl⟩⟩; (try first | exact ⟨rfl, _, World.drewN_drewN _ _ _⟩ | exact ⟨rfl, _, Eq.trans (World.drewN_drewN _ _ _) (congrArg (World.drewN _) (Nat.add_assoc _ _ _))⟩))))
      go_meet
      case rel => exact ⟨_, (true), (by first | rfl | (simp; done) | (simp [*]; done)), H', ⟨by first | omega | exact Nat.le_refl _⟩, ⟨by (with_reducible repeat (first | refine blk_drewN ?_ _ | refine blk_drew ?_ | refine blk_alloc ?_ _)); exact BK170.out⟩, ⟨by repeat (first | (with_reducible first | exact HB.out | apply below_alloc | apply pw_below_drewN | apply below_drew1 | refine below_set ?_ GE170.out) | exact HB.out)⟩⟩
  case rest =>
    clear HC2
    try clear p2
    try clear c3
    try clear c6
    try clear hcz4_0
    try clear hcz4_1
    try clear hcz7_0
    try clear hcz7_1
    try clear hfz4_0
    try clear hfz4_1
    try clear hfz7_0
    try clear hfz7_1
    obtain ⟨kq, x22_1, rfl, HA, HJ1, BK170, HB⟩ := hcut
    cases kq with
    | zero => exact absurd HA.out (by simp [selfstabref01_Valid.j0])
    | succ kj1 =>
      have H := HA.out
      clear HA
      simp only [selfstabref01_Valid.j0] at H
      by_cases c8 : x22_1 = true
      · subst c8
        have H1 : (some false) = some r := by rw [if_pos rfl] at H; exact H
        clear H
        have H := H1
        clear H1
        obtain rfl := Option.some.inj H
        go_wp2
        repeat (go_quiet (fail); try go_wp2)
        go_ret
        exact ⟨by first | rfl | (simp [errW_none, errW_some] <;> rfl) | (simp [*, errW_none, errW_some] <;> rfl), by repeat (first | (with_reducible first | exact HB.out | apply below_alloc | apply pw_below_drewN | apply below_drew1 | refine below_set ?_ GE170.out) | exact HB.out)⟩
      · replace c8 := Bool.eq_false_iff.mpr c8
        subst c8
        have H1 : (selfstabref01_Valid.l0 kj1 (l0_1.length : Int) 0 l0_0 l0_1) = some r := by rw [if_neg (show ¬ (false = true) by decide)] at H; exact H
        clear H
        have H := H1
        clear H1
        have H' := Aside0.mk H
        clear H
        go_wp2
        repeat (go_quiet (fail); try go_wp2)
        go_loopg [4] kj1 (fun kq v4 w' => ∃ (x4_2 : Int), v4 = .int .i64 x4_2 ∧ Aside0 (selfstabref01_Valid.l0 kq (l0_1.length : Int) x4_2 l0_0 l0_1 = some r) ∧ Aside0 (kq ≤ kj1) ∧ Aside0 (w'.heap[gb170]? = some (.cells #[(.slice A0_0 l0_0.length c0_0), (.slice A0_1 l0_1.length c0_1)] 25 (0, 0))) ∧ Aside0 (Below w.heap.size w w'))
        case atStart => exact ⟨(0), (by first | rfl | (simp; done) | (simp [*]; done)), H', ⟨Nat.le_refl _⟩, ⟨by (with_reducible repeat (first | refine blk_drewN ?_ _ | refine blk_drew ?_ | refine blk_alloc ?_ _)); exact BK170.out⟩, ⟨by repeat (first | (with_reducible first | exact HB.out | apply below_alloc | apply pw_below_drewN | apply below_drew1 | refine below_set ?_ GE170.out) | exact HB.out)⟩⟩
        case round =>
          clear H'
          try clear p2
          try clear c3
          try clear c6
          try clear c8
          try clear hcz4_0
          try clear hcz4_1
          try clear hcz7_0
          try clear hcz7_1
          try clear hfz4_0
          try clear hfz4_1
          try clear hfz7_0
          try clear hfz7_1
          try clear p2
          obtain ⟨x4_2, rfl, HA, HK2, BK170, HB⟩ := hrel
          cases gk with
          | zero => exact absurd HA.out (by simp [selfstabref01_Valid.l0])
          | succ k2 =>
            have H := HA.out
            clear HA
            simp only [selfstabref01_Valid.l0] at H
            by_cases c9 : x4_2 < (l0_1.length : Int)
            · rw [if_pos c9] at H
              have c9b0 : decide (x4_2 < (l0_1.length : Int)) = true := decide_eq_true c9
              clear c9
              have HC10 := Aside0.mk H
              clear H
              go_upto_region 7 with (fail)
              repeat (go_quiet (fail); go_upto_region 7 with (fail))
              go_cut [55] (fun v55 wc => ∃ (kq : Nat) (x55_9 : Bool), v55 = .bool x55_9 ∧ Aside0 (selfstabref01_Valid.j2 kq (l0_1.length : Int) x4_2 x55_9 l0_0 l0_1 = some r) ∧ Aside0 (kq ≤ k2) ∧ Aside0 (wc.heap[gb170]? = some (.cells #[(.slice A0_0 l0_0.length c0_0), (.slice A0_1 l0_1.length c0_1)] 25 (0, 0))) ∧ Aside0 (Below w.heap.size w wc))
              case first =>
                have H := HC10.out
                clear HC10
                by_cases c11 : 0 ≤ x4_2
                · rw [if_pos c11] at H
                  have c11b0 : decide (0 ≤ x4_2) = true := decide_eq_true c11
                  clear c11
                  (first | rw [c11b0] | (simp only [i64_w, i32_w]; rw [c11b0]) | skip)
                  by_cases c12 : x4_2 < (l0_0.length : Int)
                  · rw [if_pos c12] at H
                    have c12b0 : decide (x4_2 < (l0_0.length : Int)) = true := decide_eq_true c12
                    clear c12
                    replace H := Option.bind_eq_some_iff.mp H
                    obtain ⟨t173, A130, H⟩ := H
                    replace H : (if t173 = true then (if x4_2 < (l0_1.length : Int) then (if ((rd_L2 l0_1 x4_2).length : Int) ≥ (l0_1.length : Int) then (selfstabref01_Valid.j2 k2 (l0_1.length : Int) x4_2 true l0_0 l0_1) else ((selfstabref01_linksValid.f k2 (rd_L2 l0_1 x4_2) x4_2 (l0_1.length : Int)).bind fun t176 => (selfstabref01_Valid.j2 k2 (l0_1.length : Int) x4_2 (!t176) l0_0 l0_1))) else (none)) else (selfstabref01_Valid.j2 k2 (l0_1.length : Int) x4_2 true l0_0 l0_1)) = some r := H
                    have A13 := Aside0.mk A130
                    clear A130
                    by_cases c14 : t173 = true
                    · subst c14
                      have H1 : (if x4_2 < (l0_1.length : Int) then (if ((rd_L2 l0_1 x4_2).length : Int) ≥ (l0_1.length : Int) then (selfstabref01_Valid.j2 k2 (l0_1.length : Int) x4_2 true l0_0 l0_1) else ((selfstabref01_linksValid.f k2 (rd_L2 l0_1 x4_2) x4_2 (l0_1.length : Int)).bind fun t176 => (selfstabref01_Valid.j2 k2 (l0_1.length : Int) x4_2 (!t176) l0_0 l0_1))) else (none)) = some r := by rw [if_pos rfl] at H; exact H
                      clear H
                      have H := H1
                      clear H1
                      by_cases c15 : x4_2 < (l0_1.length : Int)
                      · rw [if_pos c15] at H
                        have c15b0 : decide (x4_2 < (l0_1.length : Int)) = true := decide_eq_true c15
                        clear c15
                        by_cases c16 : ((rd_L2 l0_1 x4_2).length : Int) ≥ (l0_1.length : Int)
                        · rw [if_pos c16] at H
                          have c16b0 : decide ((l0_1.length : Int) ≤ ((rd_L2 l0_1 x4_2).length : Int)) = true := decide_eq_true c16
                          have c16b1 : decide (l0_1.length ≤ (rd_L2 l0_1 x4_2).length) = true := decide_eq_true (Int.ofNat_le.mp c16)
                          clear c16
                          have H' := Aside0.mk H
                          clear H
                          have hcz17_0 : wr.cell? ⟨gb170, 0, none⟩ = some (.slice A0_0 l0_0.length c0_0) := (blk_cell BK170.out 0).trans rfl
                          have hcz17_1 : wr.cell? ⟨gb170, 1, none⟩ = some (.slice A0_1 l0_1.length c0_1) := (blk_cell BK170.out 1).trans rfl
                          have hfz17_0 := blk_frozen BK170.out 0
                          have hfz17_1 := blk_frozen BK170.out 1
                          have p172 : 0 ≤ (x4_2 : Int) := of_decide_eq_true (by first | (with_reducible assumption) | assumption)
                          have q172 : x4_2 < (l0_0.length : Int) := of_decide_eq_true (by first | (with_reducible assumption) | assumption)
                          obtain ⟨ad172, e172, hx172_0⟩ := Kd.at_int HR0_0.out x4_2 p172 q172
                          cases e172
                          replace hx172_0 := (HB.out.cell (World.block_lt_of_cell? w _ hx172_0)).trans hx172_0
                          replace p172 := eq_true p172
                          replace q172 := eq_true q172
                          go_wp2_with (first | (go_at_call 46; (with_reducible refine (selfstabref01_In.calls (rd l0_0 x4_2) 0 255 true _ A13.out).mono ?_); rintro e w' ⟨rfl, ⟨nd, rfl⟩⟩; (try first | exact ⟨rfl, _, World.drewN_drewN _ _ _⟩ | exact ⟨rfl, _, Eq.trans (World.drewN_drewN _ _ _) (congrArg (World.drewN _) (Nat.add_assoc _ _ _))⟩); have p174 : 0 ≤ (x4_2 : Int) := of_decide_eq_true (by first | (with_reducible assumption) | assumption); have q174 : x4_2 < (l0_1.length : Int) := of_decide_eq_true (by first | (with_reducible assumption) | assumption); obtain ⟨ad174, A174_0, c174_0, e174, hx174_0, hl174_0, hi174_0⟩ := at_L2 HR0_1.out x4_2 p174 q174; cases e174; replace hx174_0 := (HB.out.cell (World.block_lt_of_cell? w _ hx174_0)).trans hx174_0; have HR174_0 := Aside0.mk hi174_0; have HC174_0 := Aside0.mk hl174_0; clear hi174_0 hl174_0; replace p174 := eq_true p174; replace q174 := eq_true q174))
                          repeat (go_quiet (first | (go_at_call 46; (with_reducible refine (selfstabref01_In.calls (rd l0_0 x4_2) 0 255 true _ A13.out).mono ?_); rintro e w' ⟨rfl, ⟨nd, rfl⟩⟩; (try first | exact ⟨rfl, _, World.drewN_drewN _ _ _⟩ | exact ⟨rfl, _, Eq.trans (World.drewN_drewN _ _ _) (congrArg (World.drewN _) (Nat.add_assoc _ _ _))⟩); have p174 : 0 ≤ (x4_2 : Int) := of_decide_eq_true (by first | (with_reducible assumption) | assumption); have q174 : x4_2 < (l0_1.length : Int) := of_decide_eq_true (by first | (with_reducible assumption) | assumption); obtain ⟨ad174, A174_0, c174_0, e174, hx174_0, hl174_0, hi174_0⟩ := at_L2 HR0_1.out x4_2 p174 q174; cases e174; replace hx174_0 := (HB.out.cell (World.block_lt_of_cell? w _ hx174_0)).trans hx174_0; have HR174_0 := Aside0.mk hi174_0; have HC174_0 := Aside0.mk hl174_0; clear hi174_0 hl174_0; replace p174 := eq_true p174; replace q174 := eq_true q174)); try go_wp2_with (first | (go_at_call 46; (with_reducible refine (selfstabref01_In.calls (rd l0_0 x4_2) 0 255 true _ A13.out).mono ?_); rintro e w' ⟨rfl, ⟨nd, rfl⟩⟩; (try first | exact ⟨rfl, _, World.drewN_drewN _ _ _⟩ | exact ⟨rfl, _, Eq.trans (World.drewN_drewN _ _ _) (congrArg (World.drewN _) (Nat.add_assoc _ _ _))⟩); have p174 : 0 ≤ (x4_2 : Int) := of_decide_eq_true (by first | (with_reducible assumption) | assumption); have q174 : x4_2 < (l0_1.length : Int) := of_decide_eq_true (by first | (with_reducible assumption) | assumption); obtain ⟨ad174, A174_0, c174_0, e174, hx174_0, hl174_0, hi174_0⟩ := at_L2 HR0_1.out x4_2 p174 q174; cases e174; replace hx174_0 := (HB.out.cell (World.block_lt_of_cell? w _ hx174_0)).trans hx174_0; have HR174_0 := Aside0.mk hi174_0; have HC174_0 := Aside0.mk hl174_0; clear hi174_0 hl174_0; replace p174 := eq_true p174; replace q174 := eq_true q174)))
                          go_meet
                          case rel => exact ⟨_, (true), (by first | rfl | (simp; done) | (simp [*]; done)), H', ⟨by have := HJ1.out; have := HK2.out; first | omega | exact Nat.le_refl _⟩, ⟨by (with_reducible repeat (first | refine blk_drewN ?_ _ | refine blk_drew ?_ | refine blk_alloc ?_ _)); exact BK170.out⟩, ⟨by repeat (first | (with_reducible first | exact HB.out | apply below_alloc | apply pw_below_drewN | apply below_drew1 | refine below_set ?_ GE170.out) | exact HB.out)⟩⟩
                        · rw [if_neg c16] at H
                          have c16b0 : decide ((l0_1.length : Int) ≤ ((rd_L2 l0_1 x4_2).length : Int)) = false := decide_eq_false c16
                          have c16b1 : decide (l0_1.length ≤ (rd_L2 l0_1 x4_2).length) = false := decide_eq_false (fun h => c16 (Int.ofNat_le.mpr h))
                          clear c16
                          replace H := Option.bind_eq_some_iff.mp H
                          obtain ⟨t176, A180, H⟩ := H
                          replace H : (selfstabref01_Valid.j2 k2 (l0_1.length : Int) x4_2 (!t176) l0_0 l0_1) = some r := H
                          have A18 := Aside0.mk A180
                          clear A180
                          have H' := Aside0.mk H
                          clear H
                          have hcz19_0 : wr.cell? ⟨gb170, 0, none⟩ = some (.slice A0_0 l0_0.length c0_0) := (blk_cell BK170.out 0).trans rfl
                          have hcz19_1 : wr.cell? ⟨gb170, 1, none⟩ = some (.slice A0_1 l0_1.length c0_1) := (blk_cell BK170.out 1).trans rfl
                          have hfz19_0 := blk_frozen BK170.out 0
                          have hfz19_1 := blk_frozen BK170.out 1
                          have p172 : 0 ≤ (x4_2 : Int) := of_decide_eq_true (by first | (with_reducible assumption) | assumption)
                          have q172 : x4_2 < (l0_0.length : Int) := of_decide_eq_true (by first | (with_reducible assumption) | assumption)
                          obtain ⟨ad172, e172, hx172_0⟩ := Kd.at_int HR0_0.out x4_2 p172 q172
                          cases e172
                          replace hx172_0 := (HB.out.cell (World.block_lt_of_cell? w _ hx172_0)).trans hx172_0
                          replace p172 := eq_true p172
                          replace q172 := eq_true q172
                          go_wp2_with (first | (go_at_call 46; (with_reducible refine (selfstabref01_In.calls (rd l0_0 x4_2) 0 255 true _ A13.out).mono ?_); rintro e w' ⟨rfl, ⟨nd, rfl⟩⟩; (try first | exact ⟨rfl, _, World.drewN_drewN _ _ _⟩ | exact ⟨rfl, _, Eq.trans (World.drewN_drewN _ _ _) (congrArg (World.drewN _) (Nat.add_assoc _ _ _))⟩); have p174 : 0 ≤ (x4_2 : Int) := of_decide_eq_true (by first | (with_reducible assumption) | assumption); have q174 : x4_2 < (l0_1.length : Int) := of_decide_eq_true (by first | (with_reducible assumption) | assumption); obtain ⟨ad174, A174_0, c174_0, e174, hx174_0, hl174_0, hi174_0⟩ := at_L2 HR0_1.out x4_2 p174 q174; cases e174; replace hx174_0 := (HB.out.cell (World.block_lt_of_cell? w _ hx174_0)).trans hx174_0; have HR174_0 := Aside0.mk hi174_0; have HC174_0 := Aside0.mk hl174_0; clear hi174_0 hl174_0; replace p174 := eq_true p174; replace q174 := eq_true q174; have p175 : 0 ≤ (x4_2 : Int) := of_decide_eq_true (by first | (with_reducible assumption) | assumption); have q175 : x4_2 < (l0_1.length : Int) := of_decide_eq_true (by first | (with_reducible assumption) | assumption); obtain ⟨ad175, A175_0, c175_0, e175, hx175_0, hl175_0, hi175_0⟩ := at_L2 HR0_1.out x4_2 p175 q175; obtain rfl : ad174 = ad175 := (by injection e175); replace hx175_0 := (HB.out.cell (World.block_lt_of_cell? w _ hx175_0)).trans hx175_0; have HR175_0 := Aside0.mk hi175_0; have HC175_0 := Aside0.mk hl175_0; clear hi175_0 hl175_0; replace p175 := eq_true p175; replace q175 := eq_true q175; have ea_ := Option.some.inj (hx174_0.symm.trans hx175_0); injection ea_ with ea_ en_ ec_; subst ea_; subst ec_; clear en_) | (go_at_call 47; (with_reducible refine (selfstabref01_linksValid.calls k2 _ _ (rd_L2 l0_1 x4_2) x4_2 (l0_1.length : Int) t176 _ ?side1 ?side2 A18.out).mono ?_); (case side1 => repeat (first | exact (Kd.C_below HR175_0.out (by repeat (first | (with_reducible first | exact HB.out | apply below_alloc | apply pw_below_drewN | apply below_drew1 | refine below_set ?_ GE170.out) | exact HB.out))) | (with_reducible refine Kd.C_alloc ?_ _) | (with_reducible refine Kd.C_drewN ?_ _) | (with_reducible refine Kd.C_drew ?_))); (case side2 => exact HC175_0.out); rintro e w' ⟨rfl, ⟨nd, rfl⟩⟩; (try first | exact ⟨rfl, _, World.drewN_drewN _ _ _⟩ | exact ⟨rfl, _, Eq.trans (World.drewN_drewN _ _ _) (congrArg (World.drewN _) (Nat.add_assoc _ _ _))⟩)))
                          repeat (go_quiet (first | (go_at_call 46; (with_reducible refine (selfstabref01_In.calls (rd l0_0 x4_2) 0 255 true _ A13.out).mono ?_); rintro e w' ⟨rfl, ⟨nd, rfl⟩⟩; (try first | exact ⟨rfl, _, World.drewN_drewN _ _ _⟩ | exact ⟨rfl, _, Eq.trans (World.drewN_drewN _ _ _) (congrArg (World.drewN _) (Nat.add_assoc _ _ _))⟩); have p174 : 0 ≤ (x4_2 : Int) := of_decide_eq_true (by first | (with_reducible assumption) | assumption); have q174 : x4_2 < (l0_1.length : Int) := of_decide_eq_true (by first | (with_reducible assumption) | assumption); obtain ⟨ad174, A174_0, c174_0, e174, hx174_0, hl174_0, hi174_0⟩ := at_L2 HR0_1.out x4_2 p174 q174; cases e174; replace hx174_0 := (HB.out.cell (World.block_lt_of_cell? w _ hx174_0)).trans hx174_0; have HR174_0 := Aside0.mk hi174_0; have HC174_0 := Aside0.mk hl174_0; clear hi174_0 hl174_0; replace p174 := eq_true p174; replace q174 := eq_true q174; have p175 : 0 ≤ (x4_2 : Int) := of_decide_eq_true (by first | (with_reducible assumption) | assumption); have q175 : x4_2 < (l0_1.length : Int) := of_decide_eq_true (by first | (with_reducible assumption) | assumption); obtain ⟨ad175, A175_0, c175_0, e175, hx175_0, hl175_0, hi175_0⟩ := at_L2 HR0_1.out x4_2 p175 q175; obtain rfl : ad174 = ad175 := (by injection e175); replace hx175_0 := (HB.out.cell (World.block_lt_of_cell? w _ hx175_0)).trans hx175_0; have HR175_0 := Aside0.mk hi175_0; have HC175_0 := Aside0.mk hl175_0; clear hi175_0 hl175_0; replace p175 := eq_true p175; replace q175 := eq_true q175; have ea_ := Option.some.inj (hx174_0.symm.trans hx175_0); injection ea_ with ea_ en_ ec_; subst ea_; subst ec_; clear en_) | (go_at_call 47; (with_reducible refine (selfstabref01_linksValid.calls k2 _ _ (rd_L2 l0_1 x4_2) x4_2 (l0_1.length : Int) t176 _ ?side1 ?side2 A18.out).mono ?_); (case side1 => repeat (first | exact (Kd.C_below HR175_0.out (by repeat (first | (with_reducible first | exact HB.out | apply below_alloc | apply pw_below_drewN | apply below_drew1 | refine below_set ?_ GE170.out) | exact HB.out))) | (with_reducible refine Kd.C_alloc ?_ _) | (with_reducible refine Kd.C_drewN ?_ _) | (with_reducible refine Kd.C_drew ?_))); (case side2 => exact HC175_0.out); rintro e w' ⟨rfl, ⟨nd, rfl⟩⟩; (try first | exact ⟨rfl, _, World.drewN_drewN _ _ _⟩ | exact ⟨rfl, _, Eq.trans (World.drewN_drewN _ _ _) (congrArg (World.drewN _) (Nat.add_assoc _ _ _))⟩))); try go_wp2_with (first | (go_at_call 46; (with_reducible refine (selfstabref01_In.calls (rd l0_0 x4_2) 0 255 true _ A13.out).mono ?_); rintro e w' ⟨rfl, ⟨nd, rfl⟩⟩; (try first | exact ⟨rfl, _, World.drewN_drewN _ _ _⟩ | exact ⟨rfl, _, Eq.trans (World.drewN_drewN _ _ _) (congrArg (World.drewN _) (Nat.add_assoc _ _ _))⟩); have p174 : 0 ≤ (x4_2 : Int) := of_decide_eq_true (by first | (with_reducible assumption) | assumption); have q174 : x4_2 < (l0_1.length : Int) := of_decide_eq_true (by first | (with_reducible assumption) | assumption); obtain ⟨ad174, A174_0, c174_0, e174, hx174_0, hl174_0, hi174_0⟩ := at_L2 HR0_1.out x4_2 p174 q174; cases e174; replace hx174_0 := (HB.out.cell (World.block_lt_of_cell? w _ hx174_0)).trans hx174_0; have HR174_0 := Aside0.mk hi174_0; have HC174_0 := Aside0.mk hl174_0; clear hi174_0 hl174_0; replace p174 := eq_true p174; replace q174 := eq_true q174; have p175 : 0 ≤ (x4_2 : Int) := of_decide_eq_true (by first | (with_reducible assumption) | assumption); have q175 : x4_2 < (l0_1.length : Int) := of_decide_eq_true (by first | (with_reducible assumption) | assumption); obtain ⟨ad175, A175_0, c175_0, e175, hx175_0, hl175_0, hi175_0⟩ := at_L2 HR0_1.out x4_2 p175 q175; obtain rfl : ad174 = ad175 := (by injection e175); replace hx175_0 := (HB.out.cell (World.block_lt_of_cell? w _ hx175_0)).trans hx175_0; have HR175_0 := Aside0.mk hi175_0; have HC175_0 := Aside0.mk hl175_0; clear hi175_0 hl175_0; replace p175 := eq_true p175; replace q175 := eq_true q175; have ea_ := Option.some.inj (hx174_0.symm.trans hx175_0); injection ea_ with ea_ en_ ec_; subst ea_; subst ec_; clear en_) | (go_at_call 47; (with_reducible refine (selfstabref01_linksValid.calls k2 _ _ (rd_L2 l0_1 x4_2) x4_2 (l0_1.length : Int) t176 _ ?side1 ?side2 A18.out).mono ?_); (case side1 => repeat (first | exact (Kd.C_below HR175_0.out (by repeat (first | (with_reducible first | exact HB.out | apply below_alloc | apply pw_below_drewN | apply below_drew1 | refine below_set ?_ GE170.out) | exact HB.out))) | (with_reducible refine Kd.C_alloc ?_ _) | (with_reducible refine Kd.C_drewN ?_ _) | (with_reducible refine Kd.C_drew ?_))); (case side2 => exact HC175_0.out); rintro e w' ⟨rfl, ⟨nd, rfl⟩⟩; (try first | exact ⟨rfl, _, World.drewN_drewN _ _ _⟩ | exact ⟨rfl, _, Eq.trans (World.drewN_drewN _ _ _) (congrArg (World.drewN _) (Nat.add_assoc _ _ _))⟩))))
                          go_meet
                          case rel => exact ⟨_, (!t176), (by first | rfl | (simp; done) | (simp [*]; done)), H', ⟨by have := HJ1.out; have := HK2.out; first | omega | exact Nat.le_refl _⟩, ⟨by (with_reducible repeat (first | refine blk_drewN ?_ _ | refine blk_drew ?_ | refine blk_alloc ?_ _)); exact BK170.out⟩, ⟨by repeat (first | (with_reducible first | exact HB.out | apply below_alloc | apply pw_below_drewN | apply below_drew1 | refine below_set ?_ GE170.out) | exact HB.out)⟩⟩
                      · rw [if_neg c15] at H
                        exact absurd H (by simp)
                    · replace c14 := Bool.eq_false_iff.mpr c14
                      subst c14
                      have H1 : (selfstabref01_Valid.j2 k2 (l0_1.length : Int) x4_2 true l0_0 l0_1) = some r := by rw [if_neg (show ¬ (false = true) by decide)] at H; exact H
                      clear H
                      have H := H1
                      clear H1
                      have H' := Aside0.mk H
                      clear H
                      have hcz20_0 : wr.cell? ⟨gb170, 0, none⟩ = some (.slice A0_0 l0_0.length c0_0) := (blk_cell BK170.out 0).trans rfl
                      have hcz20_1 : wr.cell? ⟨gb170, 1, none⟩ = some (.slice A0_1 l0_1.length c0_1) := (blk_cell BK170.out 1).trans rfl
                      have hfz20_0 := blk_frozen BK170.out 0
                      have hfz20_1 := blk_frozen BK170.out 1
                      have p172 : 0 ≤ (x4_2 : Int) := of_decide_eq_true (by first | (with_reducible assumption) | assumption)
                      have q172 : x4_2 < (l0_0.length : Int) := of_decide_eq_true (by first | (with_reducible assumption) | assumption)
                      obtain ⟨ad172, e172, hx172_0⟩ := Kd.at_int HR0_0.out x4_2 p172 q172
                      cases e172
                      replace hx172_0 := (HB.out.cell (World.block_lt_of_cell? w _ hx172_0)).trans hx172_0
                      replace p172 := eq_true p172
                      replace q172 := eq_true q172
                      go_wp2_with (first | (go_at_call 46; (with_reducible refine (selfstabref01_In.calls (rd l0_0 x4_2) 0 255 false _ A13.out).mono ?_); rintro e w' ⟨rfl, ⟨nd, rfl⟩⟩; (try first | exact ⟨rfl, _, World.drewN_drewN _ _ _⟩ | exact ⟨rfl, _, Eq.trans (World.drewN_drewN _ _ _) (congrArg (World.drewN _) (Nat.add_assoc _ _ _))⟩)))
                      repeat (go_quiet (first | (go_at_call 46; (with_reducible refine (selfstabref01_In.calls (rd l0_0 x4_2) 0 255 false _ A13.out).mono ?_); rintro e w' ⟨rfl, ⟨nd, rfl⟩⟩; (try first | exact ⟨rfl, _, World.drewN_drewN _ _ _⟩ | exact ⟨rfl, _, Eq.trans (World.drewN_drewN _ _ _) (congrArg (World.drewN _) (Nat.add_assoc _ _ _))⟩))); try go_wp2_with (first | (go_at_call 46; (with_reducible refine (selfstabref01_In.calls (rd l0_0 x4_2) 0 255 false _ A13.out).mono ?_); rintro e w' ⟨rfl, ⟨nd, rfl⟩⟩; (try first | exact ⟨rfl, _, World.drewN_drewN _ _ _⟩ | exact ⟨rfl, _, Eq.trans (World.drewN_drewN _ _ _) (congrArg (World.drewN _) (Nat.add_assoc _ _ _))⟩))))
                      go_meet
                      case rel => exact ⟨_, (true), (by first | rfl | (simp; done) | (simp [*]; done)), H', ⟨by have := HJ1.out; have := HK2.out; first | omega | exact Nat.le_refl _⟩, ⟨by (with_reducible repeat (first | refine blk_drewN ?_ _ | refine blk_drew ?_ | refine blk_alloc ?_ _)); exact BK170.out⟩, ⟨by repeat (first | (with_reducible first | exact HB.out | apply below_alloc | apply pw_below_drewN | apply below_drew1 | refine below_set ?_ GE170.out) | exact HB.out)⟩⟩
                  · rw [if_neg c12] at H
                    exact absurd H (by simp)
                · rw [if_neg c11] at H
                  exact absurd H (by simp)
              case rest =>
                clear HC10
                try clear c1
                try clear p1
                try clear q1
                try clear hx1
                try clear p2
                try clear c3
                try clear c6
                try clear c8
                try clear c9
                try clear c9b0
                try clear c11
                try clear c11b0
                try clear c12
                try clear c12b0
                try clear c14
                try clear c15
                try clear c15b0
                try clear c16
                try clear c16b0
                try clear c16b1
                try clear c17
                try clear p17
                try clear q17
                try clear hx17
                try clear hcz17_0
                try clear hcz17_1
                try clear hcz19_0
                try clear hcz19_1
                try clear hcz20_0
                try clear hcz20_1
                try clear hcz4_0
                try clear hcz4_1
                try clear hcz7_0
                try clear hcz7_1
                try clear hfz17_0
                try clear hfz17_1
                try clear hfz19_0
                try clear hfz19_1
                try clear hfz20_0
                try clear hfz20_1
                try clear hfz4_0
                try clear hfz4_1
                try clear hfz7_0
                try clear hfz7_1
                try clear hx172_0
                try clear hx174_0
                try clear hx175_0
                try clear p172
                try clear p174
                try clear p175
                try clear p2
                try clear q172
                try clear q174
                try clear q175
                obtain ⟨kq, x55_9, rfl, HA, HJ9, BK170, HB⟩ := hcut
                cases kq with
                | zero => exact absurd HA.out (by simp [selfstabref01_Valid.j2])
                | succ kj9 =>
                  have H := HA.out
                  clear HA
                  simp only [selfstabref01_Valid.j2] at H
                  by_cases c21 : x55_9 = true
                  · subst c21
                    have H1 : (some false) = some r := by rw [if_pos rfl] at H; exact H
                    clear H
                    have H := H1
                    clear H1
                    obtain rfl := Option.some.inj H
                    go_wp2
                    repeat (go_quiet (fail); try go_wp2)
                    go_ret
                    exact ⟨by first | rfl | (simp [errW_none, errW_some] <;> rfl) | (simp [*, errW_none, errW_some] <;> rfl), by repeat (first | (with_reducible first | exact HB.out | apply below_alloc | apply pw_below_drewN | apply below_drew1 | refine below_set ?_ GE170.out) | exact HB.out)⟩
                  · replace c21 := Bool.eq_false_iff.mpr c21
                    subst c21
                    have H1 : (selfstabref01_Valid.l1 kj9 (l0_1.length : Int) x4_2 0 l0_0 l0_1) = some r := by rw [if_neg (show ¬ (false = true) by decide)] at H; exact H
                    clear H
                    have H := H1
                    clear H1
                    have H' := Aside0.mk H
                    clear H
                    go_wp2
                    repeat (go_quiet (fail); try go_wp2)
                    go_loopg [5] kj9 (fun kq v5 w' => ∃ (x5_4 : Int), v5 = .int .i64 x5_4 ∧ Aside0 (selfstabref01_Valid.l1 kq (l0_1.length : Int) x4_2 x5_4 l0_0 l0_1 = some r) ∧ Aside0 (kq ≤ kj9) ∧ Aside0 (w'.heap[gb170]? = some (.cells #[(.slice A0_0 l0_0.length c0_0), (.slice A0_1 l0_1.length c0_1)] 25 (0, 0))) ∧ Aside0 (Below w.heap.size w w'))
                    case atStart => exact ⟨(0), (by first | rfl | (simp; done) | (simp [*]; done)), H', ⟨Nat.le_refl _⟩, ⟨by (with_reducible repeat (first | refine blk_drewN ?_ _ | refine blk_drew ?_ | refine blk_alloc ?_ _)); exact BK170.out⟩, ⟨by repeat (first | (with_reducible first | exact HB.out | apply below_alloc | apply pw_below_drewN | apply below_drew1 | refine below_set ?_ GE170.out) | exact HB.out)⟩⟩
                    case round =>
                      clear H'
                      try clear c1
                      try clear p1
                      try clear q1
                      try clear hx1
                      try clear c2
                      try clear p2
                      try clear c3
                      try clear c6
                      try clear c8
                      try clear c9
                      try clear c9b0
                      try clear c11
                      try clear c11b0
                      try clear c12
                      try clear c12b0
                      try clear c14
                      try clear c15
                      try clear c15b0
                      try clear c16
                      try clear c16b0
                      try clear c16b1
                      try clear c17
                      try clear p17
                      try clear q17
                      try clear hx17
                      try clear c21
                      try clear hcz17_0
                      try clear hcz17_1
                      try clear hcz19_0
                      try clear hcz19_1
                      try clear hcz20_0
                      try clear hcz20_1
                      try clear hcz4_0
                      try clear hcz4_1
                      try clear hcz7_0
                      try clear hcz7_1
                      try clear hfz17_0
                      try clear hfz17_1
                      try clear hfz19_0
                      try clear hfz19_1
                      try clear hfz20_0
                      try clear hfz20_1
                      try clear hfz4_0
                      try clear hfz4_1
                      try clear hfz7_0
                      try clear hfz7_1
                      try clear hx172_0
                      try clear hx174_0
                      try clear hx175_0
                      try clear p1
                      try clear p17
                      try clear p172
                      try clear p174
                      try clear p175
                      try clear p2
                      try clear q1
                      try clear q17
                      try clear q172
                      try clear q174
                      try clear q175
                      obtain ⟨x5_4, rfl, HA, HK4, BK170, HB⟩ := hrel
                      cases gk with
                      | zero => exact absurd HA.out (by simp [selfstabref01_Valid.l1])
                      | succ k4 =>
                        have H := HA.out
                        clear HA
                        simp only [selfstabref01_Valid.l1] at H
                        by_cases c22 : x5_4 < x4_2
                        · rw [if_pos c22] at H
                          have c22b0 : decide (x5_4 < x4_2) = true := decide_eq_true c22
                          clear c22
                          by_cases c23 : 0 ≤ x5_4
                          · rw [if_pos c23] at H
                            have c23b0 : decide (0 ≤ x5_4) = true := decide_eq_true c23
                            clear c23
                            by_cases c24 : x5_4 < (l0_0.length : Int)
                            · rw [if_pos c24] at H
                              have c24b0 : decide (x5_4 < (l0_0.length : Int)) = true := decide_eq_true c24
                              clear c24
                              by_cases c25 : 0 ≤ x4_2
                              · rw [if_pos c25] at H
                                have c25b0 : decide (0 ≤ x4_2) = true := decide_eq_true c25
                                clear c25
                                by_cases c26 : x4_2 < (l0_0.length : Int)
                                · rw [if_pos c26] at H
                                  have c26b0 : decide (x4_2 < (l0_0.length : Int)) = true := decide_eq_true c26
                                  clear c26
                                  by_cases c27 : (rd l0_0 x5_4) = (rd l0_0 x4_2)
                                  · rw [if_pos c27] at H
                                    have c27b0 : ((rd l0_0 x5_4) == (rd l0_0 x4_2)) = true := beq_iff_eq.mpr c27
                                    have c27b1 : ((rd l0_0 x5_4) != (rd l0_0 x4_2)) = false := bne_eq_false_iff_eq.mpr c27
                                    clear c27
                                    obtain rfl := Option.some.inj H
                                    have hcz28_0 : wr.cell? ⟨gb170, 0, none⟩ = some (.slice A0_0 l0_0.length c0_0) := (blk_cell BK170.out 0).trans rfl
                                    have hcz28_1 : wr.cell? ⟨gb170, 1, none⟩ = some (.slice A0_1 l0_1.length c0_1) := (blk_cell BK170.out 1).trans rfl
                                    have hfz28_0 := blk_frozen BK170.out 0
                                    have hfz28_1 := blk_frozen BK170.out 1
                                    have p177 : 0 ≤ (x5_4 : Int) := of_decide_eq_true (by first | (with_reducible assumption) | assumption)
                                    have q177 : x5_4 < (l0_0.length : Int) := of_decide_eq_true (by first | (with_reducible assumption) | assumption)
                                    obtain ⟨ad177, e177, hx177_0⟩ := Kd.at_int HR0_0.out x5_4 p177 q177
                                    cases e177
                                    replace hx177_0 := (HB.out.cell (World.block_lt_of_cell? w _ hx177_0)).trans hx177_0
                                    replace p177 := eq_true p177
                                    replace q177 := eq_true q177
                                    have p178 : 0 ≤ (x4_2 : Int) := of_decide_eq_true (by first | (with_reducible assumption) | assumption)
                                    have q178 : x4_2 < (l0_0.length : Int) := of_decide_eq_true (by first | (with_reducible assumption) | assumption)
                                    obtain ⟨ad178, e178, hx178_0⟩ := Kd.at_int HR0_0.out x4_2 p178 q178
                                    obtain rfl : ad177 = ad178 := (by injection e178)
                                    replace hx178_0 := (HB.out.cell (World.block_lt_of_cell? w _ hx178_0)).trans hx178_0
                                    replace p178 := eq_true p178
                                    replace q178 := eq_true q178
                                    go_wp2
                                    repeat (go_quiet (fail); try go_wp2)
                                    go_ret
                                    exact ⟨by first | rfl | (simp [errW_none, errW_some] <;> rfl) | (simp [*, errW_none, errW_some] <;> rfl), by repeat (first | (with_reducible first | exact HB.out | apply below_alloc | apply pw_below_drewN | apply below_drew1 | refine below_set ?_ GE170.out) | exact HB.out)⟩
                                  · rw [if_neg c27] at H
                                    have c27b0 : ((rd l0_0 x5_4) == (rd l0_0 x4_2)) = false := beq_eq_false_iff_ne.mpr c27
                                    have c27b1 : ((rd l0_0 x5_4) != (rd l0_0 x4_2)) = true := bne_iff_ne.mpr c27
                                    have H' := Aside0.mk H
                                    clear H
                                    have hcz29_0 : wr.cell? ⟨gb170, 0, none⟩ = some (.slice A0_0 l0_0.length c0_0) := (blk_cell BK170.out 0).trans rfl
                                    have hcz29_1 : wr.cell? ⟨gb170, 1, none⟩ = some (.slice A0_1 l0_1.length c0_1) := (blk_cell BK170.out 1).trans rfl
                                    have hfz29_0 := blk_frozen BK170.out 0
                                    have hfz29_1 := blk_frozen BK170.out 1
                                    have p177 : 0 ≤ (x5_4 : Int) := of_decide_eq_true (by first | (with_reducible assumption) | assumption)
                                    have q177 : x5_4 < (l0_0.length : Int) := of_decide_eq_true (by first | (with_reducible assumption) | assumption)
                                    obtain ⟨ad177, e177, hx177_0⟩ := Kd.at_int HR0_0.out x5_4 p177 q177
                                    cases e177
                                    replace hx177_0 := (HB.out.cell (World.block_lt_of_cell? w _ hx177_0)).trans hx177_0
                                    replace p177 := eq_true p177
                                    replace q177 := eq_true q177
                                    have p178 : 0 ≤ (x4_2 : Int) := of_decide_eq_true (by first | (with_reducible assumption) | assumption)
                                    have q178 : x4_2 < (l0_0.length : Int) := of_decide_eq_true (by first | (with_reducible assumption) | assumption)
                                    obtain ⟨ad178, e178, hx178_0⟩ := Kd.at_int HR0_0.out x4_2 p178 q178
                                    obtain rfl : ad177 = ad178 := (by injection e178)
                                    replace hx178_0 := (HB.out.cell (World.block_lt_of_cell? w _ hx178_0)).trans hx178_0
                                    replace p178 := eq_true p178
                                    replace q178 := eq_true q178
                                    go_wp2
                                    repeat (go_quiet (fail); try go_wp2)
                                    go_roundg k4
                                    case measure => have := HJ1.out; have := HK2.out; have := HJ9.out; have := HK4.out; omega
                                    case rel => exact ⟨(wrap64 (x5_4 + 1)), (by first | rfl | (simp; done) | (simp [*]; done)), H', ⟨by have := HJ1.out; have := HK2.out; have := HJ9.out; have := HK4.out; omega⟩, ⟨by (with_reducible repeat (first | refine blk_drewN ?_ _ | refine blk_drew ?_ | refine blk_alloc ?_ _)); exact BK170.out⟩, ⟨by repeat (first | (with_reducible first | exact HB.out | apply below_alloc | apply pw_below_drewN | apply below_drew1 | refine below_set ?_ GE170.out) | exact HB.out)⟩⟩
                                · rw [if_neg c26] at H
                                  exact absurd H (by simp)
                              · rw [if_neg c25] at H
                                exact absurd H (by simp)
                            · rw [if_neg c24] at H
                              exact absurd H (by simp)
                          · rw [if_neg c23] at H
                            exact absurd H (by simp)
                        · rw [if_neg c22] at H
                          have c22b0 : decide (x5_4 < x4_2) = false := decide_eq_false c22
                          clear c22
                          have H' := Aside0.mk H
                          clear H
                          go_wp2
                          repeat (go_quiet (fail); try go_wp2)
                          go_roundg k4
                          case measure => have := HJ1.out; have := HK2.out; have := HJ9.out; have := HK4.out; omega
                          case rel => exact ⟨(wrap64 (x4_2 + 1)), (by first | rfl | (simp; done) | (simp [*]; done)), H', ⟨by have := HJ1.out; have := HK2.out; have := HJ9.out; have := HK4.out; omega⟩, ⟨by (with_reducible repeat (first | refine blk_drewN ?_ _ | refine blk_drew ?_ | refine blk_alloc ?_ _)); exact BK170.out⟩, ⟨by repeat (first | (with_reducible first | exact HB.out | apply below_alloc | apply pw_below_drewN | apply below_drew1 | refine below_set ?_ GE170.out) | exact HB.out)⟩⟩
            · rw [if_neg c9] at H
              have c9b0 : decide (x4_2 < (l0_1.length : Int)) = false := decide_eq_false c9
              clear c9
              have H' := Aside0.mk H
              clear H
              go_wp2
              repeat (go_quiet (fail); try go_wp2)
              go_loopg [6] k2 (fun kq v6 w' => ∃ (x6_3 : Int), v6 = .int .i64 x6_3 ∧ Aside0 (selfstabref01_Valid.l2 kq (l0_1.length : Int) x6_3 l0_0 l0_1 = some r) ∧ Aside0 (kq ≤ k2) ∧ Aside0 (w'.heap[gb170]? = some (.cells #[(.slice A0_0 l0_0.length c0_0), (.slice A0_1 l0_1.length c0_1)] 25 (0, 0))) ∧ Aside0 (Below w.heap.size w w'))
              case atStart => exact ⟨(0), (by first | rfl | (simp; done) | (simp [*]; done)), H', ⟨Nat.le_refl _⟩, ⟨by (with_reducible repeat (first | refine blk_drewN ?_ _ | refine blk_drew ?_ | refine blk_alloc ?_ _)); exact BK170.out⟩, ⟨by repeat (first | (with_reducible first | exact HB.out | apply below_alloc | apply pw_below_drewN | apply below_drew1 | refine below_set ?_ GE170.out) | exact HB.out)⟩⟩
              case round =>
                clear H'
                try clear c1
                try clear p1
                try clear q1
                try clear hx1
                try clear c2
                try clear p2
                try clear c3
                try clear c6
                try clear p6
                try clear c8
                try clear c9
                try clear c9b0
                try clear c11
                try clear c11b0
                try clear c12
                try clear c12b0
                try clear c14
                try clear c15
                try clear c15b0
                try clear c16
                try clear c16b0
                try clear c16b1
                try clear c17
                try clear p17
                try clear q17
                try clear hx17
                try clear c21
                try clear c22
                try clear c22b0
                try clear c23
                try clear c23b0
                try clear c24
                try clear c24b0
                try clear c25
                try clear c25b0
                try clear c26
                try clear c26b0
                try clear c27
                try clear c27b0
                try clear c27b1
                try clear hcz17_0
                try clear hcz17_1
                try clear hcz19_0
                try clear hcz19_1
                try clear hcz20_0
                try clear hcz20_1
                try clear hcz28_0
                try clear hcz28_1
                try clear hcz29_0
                try clear hcz29_1
                try clear hcz4_0
                try clear hcz4_1
                try clear hcz7_0
                try clear hcz7_1
                try clear hfz17_0
                try clear hfz17_1
                try clear hfz19_0
                try clear hfz19_1
                try clear hfz20_0
                try clear hfz20_1
                try clear hfz28_0
                try clear hfz28_1
                try clear hfz29_0
                try clear hfz29_1
                try clear hfz4_0
                try clear hfz4_1
                try clear hfz7_0
                try clear hfz7_1
                try clear hx172_0
                try clear hx174_0
                try clear hx175_0
                try clear hx177_0
                try clear hx178_0
                try clear p1
                try clear p17
                try clear p172
                try clear p174
                try clear p175
                try clear p177
                try clear p178
                try clear p2
                try clear q1
                try clear q17
                try clear q172
                try clear q174
                try clear q175
                try clear q177
                try clear q178
                obtain ⟨x6_3, rfl, HA, HK3, BK170, HB⟩ := hrel
                cases gk with
                | zero => exact absurd HA.out (by simp [selfstabref01_Valid.l2])
                | succ k3 =>
                  have H := HA.out
                  clear HA
                  simp only [selfstabref01_Valid.l2] at H
                  by_cases c30 : x6_3 < (l0_1.length : Int)
                  · rw [if_pos c30] at H
                    have c30b0 : decide (x6_3 < (l0_1.length : Int)) = true := decide_eq_true c30
                    clear c30
                    have H' := Aside0.mk H
                    clear H
                    go_wp2
                    repeat (go_quiet (fail); try go_wp2)
                    go_loopg [7] k3 (fun kq v7 w' => ∃ (x7_4 : Int), v7 = .int .i64 x7_4 ∧ Aside0 (selfstabref01_Valid.l3 kq (l0_1.length : Int) x6_3 x7_4 l0_0 l0_1 = some r) ∧ Aside0 (kq ≤ k3) ∧ Aside0 (w'.heap[gb170]? = some (.cells #[(.slice A0_0 l0_0.length c0_0), (.slice A0_1 l0_1.length c0_1)] 25 (0, 0))) ∧ Aside0 (Below w.heap.size w w'))
                    case atStart => exact ⟨(0), (by first | rfl | (simp; done) | (simp [*]; done)), H', ⟨Nat.le_refl _⟩, ⟨by (with_reducible repeat (first | refine blk_drewN ?_ _ | refine blk_drew ?_ | refine blk_alloc ?_ _)); exact BK170.out⟩, ⟨by repeat (first | (with_reducible first | exact HB.out | apply below_alloc | apply pw_below_drewN | apply below_drew1 | refine below_set ?_ GE170.out) | exact HB.out)⟩⟩
                    case round =>
                      clear H'
                      try clear c1
                      try clear p1
                      try clear q1
                      try clear hx1
                      try clear c2
                      try clear p2
                      try clear c3
                      try clear c6
                      try clear p6
                      try clear c8
                      try clear c9
                      try clear c9b0
                      try clear c11
                      try clear c11b0
                      try clear c12
                      try clear c12b0
                      try clear c14
                      try clear c15
                      try clear c15b0
                      try clear c16
                      try clear c16b0
                      try clear c16b1
                      try clear c17
                      try clear p17
                      try clear q17
                      try clear hx17
                      try clear c21
                      try clear c22
                      try clear c22b0
                      try clear c23
                      try clear c23b0
                      try clear c24
                      try clear c24b0
                      try clear c25
                      try clear c25b0
                      try clear c26
                      try clear c26b0
                      try clear c27
                      try clear c27b0
                      try clear c27b1
                      try clear c30
                      try clear c30b0
                      try clear hcz17_0
                      try clear hcz17_1
                      try clear hcz19_0
                      try clear hcz19_1
                      try clear hcz20_0
                      try clear hcz20_1
                      try clear hcz28_0
                      try clear hcz28_1
                      try clear hcz29_0
                      try clear hcz29_1
                      try clear hcz4_0
                      try clear hcz4_1
                      try clear hcz7_0
                      try clear hcz7_1
                      try clear hfz17_0
                      try clear hfz17_1
                      try clear hfz19_0
                      try clear hfz19_1
                      try clear hfz20_0
                      try clear hfz20_1
                      try clear hfz28_0
                      try clear hfz28_1
                      try clear hfz29_0
                      try clear hfz29_1
                      try clear hfz4_0
                      try clear hfz4_1
                      try clear hfz7_0
                      try clear hfz7_1
                      try clear hx172_0
                      try clear hx174_0
                      try clear hx175_0
                      try clear hx177_0
                      try clear hx178_0
                      try clear p1
                      try clear p17
                      try clear p172
                      try clear p174
                      try clear p175
                      try clear p177
                      try clear p178
                      try clear p2
                      try clear p6
                      try clear q1
                      try clear q17
                      try clear q172
                      try clear q174
                      try clear q175
                      try clear q177
                      try clear q178
                      obtain ⟨x7_4, rfl, HA, HK4, BK170, HB⟩ := hrel
                      cases gk with
                      | zero => exact absurd HA.out (by simp [selfstabref01_Valid.l3])
                      | succ k4 =>
                        have H := HA.out
                        clear HA
                        simp only [selfstabref01_Valid.l3] at H
                        by_cases c31 : 0 ≤ x6_3
                        · rw [if_pos c31] at H
                          have c31b0 : decide (0 ≤ x6_3) = true := decide_eq_true c31
                          clear c31
                          by_cases c32 : x6_3 < (l0_1.length : Int)
                          · rw [if_pos c32] at H
                            have c32b0 : decide (x6_3 < (l0_1.length : Int)) = true := decide_eq_true c32
                            clear c32
                            by_cases c33 : x7_4 < ((rd_L2 l0_1 x6_3).length : Int)
                            · rw [if_pos c33] at H
                              have c33b0 : decide (x7_4 < ((rd_L2 l0_1 x6_3).length : Int)) = true := decide_eq_true c33
                              clear c33
                              by_cases c34 : 0 ≤ x7_4
                              · rw [if_pos c34] at H
                                have c34b0 : decide (0 ≤ x7_4) = true := decide_eq_true c34
                                clear c34
                                replace H := Option.bind_eq_some_iff.mp H
                                obtain ⟨t183, A350, H⟩ := H
                                replace H : (if t183 < 0 then (some false) else (if 0 ≤ ((rd_T58 (rd_L2 l0_1 x6_3) x7_4).f0) then (if ((rd_T58 (rd_L2 l0_1 x6_3) x7_4).f0) < (l0_1.length : Int) then (if 0 ≤ t183 then (if t183 < ((rd_L2 l0_1 ((rd_T58 (rd_L2 l0_1 x6_3) x7_4).f0)).length : Int) then (if ((rd_T58 (rd_L2 l0_1 ((rd_T58 (rd_L2 l0_1 x6_3) x7_4).f0)) t183).f1) = ((rd_T58 (rd_L2 l0_1 x6_3) x7_4).f1) then (selfstabref01_Valid.l3 k4 (l0_1.length : Int) x6_3 (wrap64 (x7_4 + 1)) l0_0 l0_1) else (some false)) else (none)) else (none)) else (none)) else (none))) = some r := H
                                have A35 := Aside0.mk A350
                                clear A350
                                by_cases c36 : t183 < 0
                                · rw [if_pos c36] at H
                                  have c36b0 : decide (t183 < 0) = true := decide_eq_true c36
                                  clear c36
                                  obtain rfl := Option.some.inj H
                                  have hcz37_0 : wr.cell? ⟨gb170, 0, none⟩ = some (.slice A0_0 l0_0.length c0_0) := (blk_cell BK170.out 0).trans rfl
                                  have hcz37_1 : wr.cell? ⟨gb170, 1, none⟩ = some (.slice A0_1 l0_1.length c0_1) := (blk_cell BK170.out 1).trans rfl
                                  have hfz37_0 := blk_frozen BK170.out 0
                                  have hfz37_1 := blk_frozen BK170.out 1
                                  have p179 : 0 ≤ (x6_3 : Int) := of_decide_eq_true (by first | (with_reducible assumption) | assumption)
                                  have q179 : x6_3 < (l0_1.length : Int) := of_decide_eq_true (by first | (with_reducible assumption) | assumption)
                                  obtain ⟨ad179, A179_0, c179_0, e179, hx179_0, hl179_0, hi179_0⟩ := at_L2 HR0_1.out x6_3 p179 q179
                                  cases e179
                                  replace hx179_0 := (HB.out.cell (World.block_lt_of_cell? w _ hx179_0)).trans hx179_0
                                  have HR179_0 := Aside0.mk hi179_0
                                  have HC179_0 := Aside0.mk hl179_0
                                  clear hi179_0 hl179_0
                                  replace p179 := eq_true p179
                                  replace q179 := eq_true q179
                                  have p180 : 0 ≤ (x6_3 : Int) := of_decide_eq_true (by first | (with_reducible assumption) | assumption)
                                  have q180 : x6_3 < (l0_1.length : Int) := of_decide_eq_true (by first | (with_reducible assumption) | assumption)
                                  obtain ⟨ad180, A180_0, c180_0, e180, hx180_0, hl180_0, hi180_0⟩ := at_L2 HR0_1.out x6_3 p180 q180
                                  obtain rfl : ad179 = ad180 := (by injection e180)
                                  replace hx180_0 := (HB.out.cell (World.block_lt_of_cell? w _ hx180_0)).trans hx180_0
                                  have HR180_0 := Aside0.mk hi180_0
                                  have HC180_0 := Aside0.mk hl180_0
                                  clear hi180_0 hl180_0
                                  replace p180 := eq_true p180
                                  replace q180 := eq_true q180
                                  have ea_ := Option.some.inj (hx179_0.symm.trans hx180_0)
                                  injection ea_ with ea_ en_ ec_
                                  subst ea_
                                  subst ec_
                                  clear en_
                                  have p181 : 0 ≤ (x7_4 : Int) := of_decide_eq_true (by first | (with_reducible assumption) | assumption)
                                  have q181 : x7_4 < ((rd_L2 l0_1 x6_3).length : Int) := of_decide_eq_true (by first | (with_reducible assumption) | assumption)
                                  obtain ⟨ad181, e181, hx181_0, hx181_1⟩ := at_T58 HR180_0.out x7_4 p181 q181
                                  cases e181
                                  replace hx181_0 := (HB.out.cell (World.block_lt_of_cell? w _ hx181_0)).trans hx181_0
                                  replace hx181_1 := (HB.out.cell (World.block_lt_of_cell? w _ hx181_1)).trans hx181_1
                                  replace p181 := eq_true p181
                                  replace q181 := eq_true q181
                                  go_wp2_with (first | ((with_reducible refine gate_dst (N := 8) rfl ?_); (try (refine gate_guard (by rfl) ?_; dsimp only)); refine box_event ?hg (N := 8) ?hd (cs := #[.int .i64 0, .int .i64 0]) (t := 58) ?hr ?_; (case hd => rfl); (case hg => rfl); (case hr => first | (go_simp; done) | (go_simp; rfl)); intro gb182 hg w38 hbox hb; have n0_ := Aside0.mk (blk_below (g := gb170) (o := .cells #[.slice A0_0 l0_0.length c0_0, .slice (some ad179) l0_1.length c0_1] 25 (0, 0)) (by (with_reducible repeat (first | refine blk_drewN ?_ _ | refine blk_drew ?_ | refine blk_alloc ?_ _)); exact BK170.out) hb); have n1_ := Aside0.mk (below_step (by repeat (first | (with_reducible first | exact HB.out | apply below_alloc | apply pw_below_drewN | apply below_drew1 | refine below_set ?_ GE170.out) | exact HB.out)) hb); have n2_ := Aside0.mk (hbox); have n3_ := Aside0.mk ((by rw [hg]; exact (below_size (by repeat (first | (with_reducible first | exact HB.out | apply below_alloc | apply pw_below_drewN | apply below_drew1 | refine below_set ?_ GE170.out) | exact HB.out))) : w.heap.size ≤ gb182)); have n4_ := Aside0.mk ((by rw [hg]; exact (below_size (by repeat (first | (with_reducible first | exact HB.out | apply below_alloc | apply pw_below_drewN | apply below_drew1 | refine below_set ?_ GE170.out) | exact HB.out))) : w.heap.size ≤ gb182)); have n5_ := Aside0.mk ((by rw [hg]; exact Nat.ne_of_lt (blk_lt (g := gb170) (o := .cells #[.slice A0_0 l0_0.length c0_0, .slice (some ad179) l0_1.length c0_1] 25 (0, 0)) (by (with_reducible repeat (first | refine blk_drewN ?_ _ | refine blk_drew ?_ | refine blk_alloc ?_ _)); exact BK170.out)) : gb170 ≠ gb182)); have n6_ := Aside0.mk ((by rw [hg]; exact Nat.ne_of_gt (blk_lt (g := gb170) (o := .cells #[.slice A0_0 l0_0.length c0_0, .slice (some ad179) l0_1.length c0_1] 25 (0, 0)) (by (with_reducible repeat (first | refine blk_drewN ?_ _ | refine blk_drew ?_ | refine blk_alloc ?_ _)); exact BK170.out)) : gb182 ≠ gb170)); clear BK170; clear HB; have BK170 := n0_; have HB := n1_; have BK182 := n2_; have GW182 := n3_; have GE182 := n4_; have NB170_182 := n5_; have NB182_170 := n6_; clear n0_ n1_ n2_ n3_ n4_ n5_ n6_; clear hb hbox hg; have hnb39 := NB182_170.out; have hnc39 := NB170_182.out; have hcz40_0 : w38.cell? ⟨gb182, 0, none⟩ = some (.int .i64 0) := (blk_cell BK182.out 0).trans rfl; have hcz40_1 : w38.cell? ⟨gb182, 1, none⟩ = some (.int .i64 0) := (blk_cell BK182.out 1).trans rfl; have hfz40_0 := blk_frozen BK182.out 0; have hfz40_1 := blk_frozen BK182.out 1; have hcz41_0 : w38.cell? ⟨gb170, 0, none⟩ = some (.slice A0_0 l0_0.length c0_0) := (blk_cell BK170.out 0).trans rfl; have hcz41_1 : w38.cell? ⟨gb170, 1, none⟩ = some (.slice (some ad179) l0_1.length c0_1) := (blk_cell BK170.out 1).trans rfl; have hfz41_0 := blk_frozen BK170.out 0; have hfz41_1 := blk_frozen BK170.out 1) | (go_at_call 48; (with_reducible refine (selfstabref01_Port.calls k4 _ _ l0_0 _ _ l0_1 ((rd_T58 (rd_L2 l0_1 x6_3) x7_4).f0) x6_3 t183 _ ?side1 ?side2 ?side3 ?side4 A35.out).mono ?_); (case side1 => exact Kd.C_below HR0_0.out (by repeat (first | (with_reducible first | exact HB.out | apply below_alloc | apply pw_below_drewN | apply below_drew1 | refine below_set ?_ GE170.out | refine below_set ?_ GE182.out) | exact HB.out))); (case side2 => exact HC0_0.out); (case side3 => exact Kd.C_below HR0_1.out (by repeat (first | (with_reducible first | exact HB.out | apply below_alloc | apply pw_below_drewN | apply below_drew1 | refine below_set ?_ GE170.out | refine below_set ?_ GE182.out) | exact HB.out))); (case side4 => exact HC0_1.out); rintro e w42 ⟨rfl, hb⟩; have n0_ := Aside0.mk (blk_below (g := gb170) (o := .cells #[.slice A0_0 l0_0.length c0_0, .slice (some ad179) l0_1.length c0_1] 25 (0, 0)) (by (with_reducible repeat (first | refine blk_drewN ?_ _ | refine blk_drew ?_ | refine blk_alloc ?_ _)); refine blk_far ?_ NB170_182.out _; (with_reducible repeat (first | refine blk_drewN ?_ _ | refine blk_drew ?_ | refine blk_alloc ?_ _)); refine blk_far ?_ NB170_182.out _; (with_reducible repeat (first | refine blk_drewN ?_ _ | refine blk_drew ?_ | refine blk_alloc ?_ _)); exact BK170.out) hb); have n1_ := Aside0.mk (blk_below (g := gb182) (o := .cells #[.int .i64 ((rd_T58 (rd_L2 l0_1 x6_3) x7_4).f0), .int .i64 ((rd_T58 (rd_L2 l0_1 x6_3) x7_4).f1)] 58 (0, 0)) (by (with_reducible repeat (first | refine blk_drewN ?_ _ | refine blk_drew ?_ | refine blk_alloc ?_ _)); refine blk_put (cs := #[.int .i64 ((rd_T58 (rd_L2 l0_1 x6_3) x7_4).f0), .int .i64 0]) ?_ 1 _ rfl; (with_reducible repeat (first | refine blk_drewN ?_ _ | refine blk_drew ?_ | refine blk_alloc ?_ _)); refine blk_put (cs := #[.int .i64 0, .int .i64 0]) ?_ 0 _ rfl; (with_reducible repeat (first | refine blk_drewN ?_ _ | refine blk_drew ?_ | refine blk_alloc ?_ _)); exact BK182.out) hb); have n2_ := Aside0.mk (below_step (by repeat (first | (with_reducible first | exact HB.out | apply below_alloc | apply pw_below_drewN | apply below_drew1 | refine below_set ?_ GE170.out | refine below_set ?_ GE182.out) | exact HB.out)) hb); clear BK170; clear BK182; clear HB; have BK170 := n0_; have BK182 := n1_; have HB := n2_; clear n0_ n1_ n2_; (try clear hb); (try clear hb2); (try clear hk); (try clear hi)))
                                  repeat (go_quiet (first | ((with_reducible refine gate_dst (N := 8) rfl ?_); (try (refine gate_guard (by rfl) ?_; dsimp only)); refine box_event ?hg (N := 8) ?hd (cs := #[.int .i64 0, .int .i64 0]) (t := 58) ?hr ?_; (case hd => rfl); (case hg => rfl); (case hr => first | (go_simp; done) | (go_simp; rfl)); intro gb182 hg w38 hbox hb; have n0_ := Aside0.mk (blk_below (g := gb170) (o := .cells #[.slice A0_0 l0_0.length c0_0, .slice (some ad179) l0_1.length c0_1] 25 (0, 0)) (by (with_reducible repeat (first | refine blk_drewN ?_ _ | refine blk_drew ?_ | refine blk_alloc ?_ _)); exact BK170.out) hb); have n1_ := Aside0.mk (below_step (by repeat (first | (with_reducible first | exact HB.out | apply below_alloc | apply pw_below_drewN | apply below_drew1 | refine below_set ?_ GE170.out) | exact HB.out)) hb); have n2_ := Aside0.mk (hbox); have n3_ := Aside0.mk ((by rw [hg]; exact (below_size (by repeat (first | (with_reducible first | exact HB.out | apply below_alloc | apply pw_below_drewN | apply below_drew1 | refine below_set ?_ GE170.out) | exact HB.out))) : w.heap.size ≤ gb182)); have n4_ := Aside0.mk ((by rw [hg]; exact (below_size (by repeat (first | (with_reducible first | exact HB.out | apply below_alloc | apply pw_below_drewN | apply below_drew1 | refine below_set ?_ GE170.out) | exact HB.out))) : w.heap.size ≤ gb182)); have n5_ := Aside0.mk ((by rw [hg]; exact Nat.ne_of_lt (blk_lt (g := gb170) (o := .cells #[.slice A0_0 l0_0.length c0_0, .slice (some ad179) l0_1.length c0_1] 25 (0, 0)) (by (with_reducible repeat (first | refine blk_drewN ?_ _ | refine blk_drew ?_ | refine blk_alloc ?_ _)); exact BK170.out)) : gb170 ≠ gb182)); have n6_ := Aside0.mk ((by rw [hg]; exact Nat.ne_of_gt (blk_lt (g := gb170) (o := .cells #[.slice A0_0 l0_0.length c0_0, .slice (some ad179) l0_1.length c0_1] 25 (0, 0)) (by (with_reducible repeat (first | refine blk_drewN ?_ _ | refine blk_drew ?_ | refine blk_alloc ?_ _)); exact BK170.out)) : gb182 ≠ gb170)); clear BK170; clear HB; have BK170 := n0_; have HB := n1_; have BK182 := n2_; have GW182 := n3_; have GE182 := n4_; have NB170_182 := n5_; have NB182_170 := n6_; clear n0_ n1_ n2_ n3_ n4_ n5_ n6_; clear hb hbox hg; have hnb39 := NB182_170.out; have hnc39 := NB170_182.out; have hcz40_0 : w38.cell? ⟨gb182, 0, none⟩ = some (.int .i64 0) := (blk_cell BK182.out 0).trans rfl; have hcz40_1 : w38.cell? ⟨gb182, 1, none⟩ = some (.int .i64 0) := (blk_cell BK182.out 1).trans rfl; have hfz40_0 := blk_frozen BK182.out 0; have hfz40_1 := blk_frozen BK182.out 1; have hcz41_0 : w38.cell? ⟨gb170, 0, none⟩ = some (.slice A0_0 l0_0.length c0_0) := (blk_cell BK170.out 0).trans rfl; have hcz41_1 : w38.cell? ⟨gb170, 1, none⟩ = some (.slice (some ad179) l0_1.length c0_1) := (blk_cell BK170.out 1).trans rfl; have hfz41_0 := blk_frozen BK170.out 0; have hfz41_1 := blk_frozen BK170.out 1) | (go_at_call 48; (with_reducible refine (selfstabref01_Port.calls k4 _ _ l0_0 _ _ l0_1 ((rd_T58 (rd_L2 l0_1 x6_3) x7_4).f0) x6_3 t183 _ ?side1 ?side2 ?side3 ?side4 A35.out).mono ?_); (case side1 => exact Kd.C_below HR0_0.out (by repeat (first | (with_reducible first | exact HB.out | apply below_alloc | apply pw_below_drewN | apply below_drew1 | refine below_set ?_ GE170.out | refine below_set ?_ GE182.out) | exact HB.out))); (case side2 => exact HC0_0.out); (case side3 => exact Kd.C_below HR0_1.out (by repeat (first | (with_reducible first | exact HB.out | apply below_alloc | apply pw_below_drewN | apply below_drew1 | refine below_set ?_ GE170.out | refine below_set ?_ GE182.out) | exact HB.out))); (case side4 => exact HC0_1.out); rintro e w42 ⟨rfl, hb⟩; have n0_ := Aside0.mk (blk_below (g := gb170) (o := .cells #[.slice A0_0 l0_0.length c0_0, .slice (some ad179) l0_1.length c0_1] 25 (0, 0)) (by (with_reducible repeat (first | refine blk_drewN ?_ _ | refine blk_drew ?_ | refine blk_alloc ?_ _)); refine blk_far ?_ NB170_182.out _; (with_reducible repeat (first | refine blk_drewN ?_ _ | refine blk_drew ?_ | refine blk_alloc ?_ _)); refine blk_far ?_ NB170_182.out _; (with_reducible repeat (first | refine blk_drewN ?_ _ | refine blk_drew ?_ | refine blk_alloc ?_ _)); exact BK170.out) hb); have n1_ := Aside0.mk (blk_below (g := gb182) (o := .cells #[.int .i64 ((rd_T58 (rd_L2 l0_1 x6_3) x7_4).f0), .int .i64 ((rd_T58 (rd_L2 l0_1 x6_3) x7_4).f1)] 58 (0, 0)) (by (with_reducible repeat (first | refine blk_drewN ?_ _ | refine blk_drew ?_ | refine blk_alloc ?_ _)); refine blk_put (cs := #[.int .i64 ((rd_T58 (rd_L2 l0_1 x6_3) x7_4).f0), .int .i64 0]) ?_ 1 _ rfl; (with_reducible repeat (first | refine blk_drewN ?_ _ | refine blk_drew ?_ | refine blk_alloc ?_ _)); refine blk_put (cs := #[.int .i64 0, .int .i64 0]) ?_ 0 _ rfl; (with_reducible repeat (first | refine blk_drewN ?_ _ | refine blk_drew ?_ | refine blk_alloc ?_ _)); exact BK182.out) hb); have n2_ := Aside0.mk (below_step (by repeat (first | (with_reducible first | exact HB.out | apply below_alloc | apply pw_below_drewN | apply below_drew1 | refine below_set ?_ GE170.out | refine below_set ?_ GE182.out) | exact HB.out)) hb); clear BK170; clear BK182; clear HB; have BK170 := n0_; have BK182 := n1_; have HB := n2_; clear n0_ n1_ n2_; (try clear hb); (try clear hb2); (try clear hk); (try clear hi))); try go_wp2_with (first | ((with_reducible refine gate_dst (N := 8) rfl ?_); (try (refine gate_guard (by rfl) ?_; dsimp only)); refine box_event ?hg (N := 8) ?hd (cs := #[.int .i64 0, .int .i64 0]) (t := 58) ?hr ?_; (case hd => rfl); (case hg => rfl); (case hr => first | (go_simp; done) | (go_simp; rfl)); intro gb182 hg w38 hbox hb; have n0_ := Aside0.mk (blk_below (g := gb170) (o := .cells #[.slice A0_0 l0_0.length c0_0, .slice (some ad179) l0_1.length c0_1] 25 (0, 0)) (by (with_reducible repeat (first | refine blk_drewN ?_ _ | refine blk_drew ?_ | refine blk_alloc ?_ _)); exact BK170.out) hb); have n1_ := Aside0.mk (below_step (by repeat (first | (with_reducible first | exact HB.out | apply below_alloc | apply pw_below_drewN | apply below_drew1 | refine below_set ?_ GE170.out) | exact HB.out)) hb); have n2_ := Aside0.mk (hbox); have n3_ := Aside0.mk ((by rw [hg]; exact (below_size (by repeat (first | (with_reducible first | exact HB.out | apply below_alloc | apply pw_below_drewN | apply below_drew1 | refine below_set ?_ GE170.out) | exact HB.out))) : w.heap.size ≤ gb182)); have n4_ := Aside0.mk ((by rw [hg]; exact (below_size (by repeat (first | (with_reducible first | exact HB.out | apply below_alloc | apply pw_below_drewN | apply below_drew1 | refine below_set ?_ GE170.out) | exact HB.out))) : w.heap.size ≤ gb182)); have n5_ := Aside0.mk ((by rw [hg]; exact Nat.ne_of_lt (blk_lt (g := gb170) (o := .cells #[.slice A0_0 l0_0.length c0_0, .slice (some ad179) l0_1.length c0_1] 25 (0, 0)) (by (with_reducible repeat (first | refine blk_drewN ?_ _ | refine blk_drew ?_ | refine blk_alloc ?_ _)); exact BK170.out)) : gb170 ≠ gb182)); have n6_ := Aside0.mk ((by rw [hg]; exact Nat.ne_of_gt (blk_lt (g := gb170) (o := .cells #[.slice A0_0 l0_0.length c0_0, .slice (some ad179) l0_1.length c0_1] 25 (0, 0)) (by (with_reducible repeat (first | refine blk_drewN ?_ _ | refine blk_drew ?_ | refine blk_alloc ?_ _)); exact BK170.out)) : gb182 ≠ gb170)); clear BK170; clear HB; have BK170 := n0_; have HB := n1_; have BK182 := n2_; have GW182 := n3_; have GE182 := n4_; have NB170_182 := n5_; have NB182_170 := n6_; clear n0_ n1_ n2_ n3_ n4_ n5_ n6_; clear hb hbox hg; have hnb39 := NB182_170.out; have hnc39 := NB170_182.out; have hcz40_0 : w38.cell? ⟨gb182, 0, none⟩ = some (.int .i64 0) := (blk_cell BK182.out 0).trans rfl; have hcz40_1 : w38.cell? ⟨gb182, 1, none⟩ = some (.int .i64 0) := (blk_cell BK182.out 1).trans rfl; have hfz40_0 := blk_frozen BK182.out 0; have hfz40_1 := blk_frozen BK182.out 1; have hcz41_0 : w38.cell? ⟨gb170, 0, none⟩ = some (.slice A0_0 l0_0.length c0_0) := (blk_cell BK170.out 0).trans rfl; have hcz41_1 : w38.cell? ⟨gb170, 1, none⟩ = some (.slice (some ad179) l0_1.length c0_1) := (blk_cell BK170.out 1).trans rfl; have hfz41_0 := blk_frozen BK170.out 0; have hfz41_1 := blk_frozen BK170.out 1) | (go_at_call 48; (with_reducible refine (selfstabref01_Port.calls k4 _ _ l0_0 _ _ l0_1 ((rd_T58 (rd_L2 l0_1 x6_3) x7_4).f0) x6_3 t183 _ ?side1 ?side2 ?side3 ?side4 A35.out).mono ?_); (case side1 => exact Kd.C_below HR0_0.out (by repeat (first | (with_reducible first | exact HB.out | apply below_alloc | apply pw_below_drewN | apply below_drew1 | refine below_set ?_ GE170.out | refine below_set ?_ GE182.out) | exact HB.out))); (case side2 => exact HC0_0.out); (case side3 => exact Kd.C_below HR0_1.out (by repeat (first | (with_reducible first | exact HB.out | apply below_alloc | apply pw_below_drewN | apply below_drew1 | refine below_set ?_ GE170.out | refine below_set ?_ GE182.out) | exact HB.out))); (case side4 => exact HC0_1.out); rintro e w42 ⟨rfl, hb⟩; have n0_ := Aside0.mk (blk_below (g := gb170) (o := .cells #[.slice A0_0 l0_0.length c0_0, .slice (some ad179) l0_1.length c0_1] 25 (0, 0)) (by (with_reducible repeat (first | refine blk_drewN ?_ _ | refine blk_drew ?_ | refine blk_alloc ?_ _)); refine blk_far ?_ NB170_182.out _; (with_reducible repeat (first | refine blk_drewN ?_ _ | refine blk_drew ?_ | refine blk_alloc ?_ _)); refine blk_far ?_ NB170_182.out _; (with_reducible repeat (first | refine blk_drewN ?_ _ | refine blk_drew ?_ | refine blk_alloc ?_ _)); exact BK170.out) hb); have n1_ := Aside0.mk (blk_below (g := gb182) (o := .cells #[.int .i64 ((rd_T58 (rd_L2 l0_1 x6_3) x7_4).f0), .int .i64 ((rd_T58 (rd_L2 l0_1 x6_3) x7_4).f1)] 58 (0, 0)) (by (with_reducible repeat (first | refine blk_drewN ?_ _ | refine blk_drew ?_ | refine blk_alloc ?_ _)); refine blk_put (cs := #[.int .i64 ((rd_T58 (rd_L2 l0_1 x6_3) x7_4).f0), .int .i64 0]) ?_ 1 _ rfl; (with_reducible repeat (first | refine blk_drewN ?_ _ | refine blk_drew ?_ | refine blk_alloc ?_ _)); refine blk_put (cs := #[.int .i64 0, .int .i64 0]) ?_ 0 _ rfl; (with_reducible repeat (first | refine blk_drewN ?_ _ | refine blk_drew ?_ | refine blk_alloc ?_ _)); exact BK182.out) hb); have n2_ := Aside0.mk (below_step (by repeat (first | (with_reducible first | exact HB.out | apply below_alloc | apply pw_below_drewN | apply below_drew1 | refine below_set ?_ GE170.out | refine below_set ?_ GE182.out) | exact HB.out)) hb); clear BK170; clear BK182; clear HB; have BK170 := n0_; have BK182 := n1_; have HB := n2_; clear n0_ n1_ n2_; (try clear hb); (try clear hb2); (try clear hk); (try clear hi))))
                                  go_ret
                                  exact ⟨by first | rfl | (simp [errW_none, errW_some] <;> rfl) | (simp [*, errW_none, errW_some] <;> rfl), by repeat (first | (with_reducible first | exact HB.out | apply below_alloc | apply pw_below_drewN | apply below_drew1 | refine below_set ?_ GE170.out | refine below_set ?_ GE182.out) | exact HB.out)⟩
                                · rw [if_neg c36] at H
                                  have c36b0 : decide (t183 < 0) = false := decide_eq_false c36
                                  clear c36
                                  by_cases c43 : 0 ≤ ((rd_T58 (rd_L2 l0_1 x6_3) x7_4).f0)
                                  · rw [if_pos c43] at H
                                    have c43b0 : decide (0 ≤ ((rd_T58 (rd_L2 l0_1 x6_3) x7_4).f0)) = true := decide_eq_true c43
                                    clear c43
                                    by_cases c44 : ((rd_T58 (rd_L2 l0_1 x6_3) x7_4).f0) < (l0_1.length : Int)
                                    · rw [if_pos c44] at H
                                      have c44b0 : decide (((rd_T58 (rd_L2 l0_1 x6_3) x7_4).f0) < (l0_1.length : Int)) = true := decide_eq_true c44
                                      clear c44
                                      by_cases c45 : 0 ≤ t183
                                      · rw [if_pos c45] at H
                                        have c45b0 : decide (0 ≤ t183) = true := decide_eq_true c45
                                        clear c45
                                        by_cases c46 : t183 < ((rd_L2 l0_1 ((rd_T58 (rd_L2 l0_1 x6_3) x7_4).f0)).length : Int)
                                        · rw [if_pos c46] at H
                                          have c46b0 : decide (t183 < ((rd_L2 l0_1 ((rd_T58 (rd_L2 l0_1 x6_3) x7_4).f0)).length : Int)) = true := decide_eq_true c46
                                          clear c46
                                          by_cases c47 : ((rd_T58 (rd_L2 l0_1 ((rd_T58 (rd_L2 l0_1 x6_3) x7_4).f0)) t183).f1) = ((rd_T58 (rd_L2 l0_1 x6_3) x7_4).f1)
                                          · rw [if_pos c47] at H
                                            have c47b0 : (((rd_T58 (rd_L2 l0_1 ((rd_T58 (rd_L2 l0_1 x6_3) x7_4).f0)) t183).f1) == ((rd_T58 (rd_L2 l0_1 x6_3) x7_4).f1)) = true := beq_iff_eq.mpr c47
                                            have c47b1 : (((rd_T58 (rd_L2 l0_1 ((rd_T58 (rd_L2 l0_1 x6_3) x7_4).f0)) t183).f1) != ((rd_T58 (rd_L2 l0_1 x6_3) x7_4).f1)) = false := bne_eq_false_iff_eq.mpr c47
                                            clear c47
                                            have H' := Aside0.mk H
                                            clear H
                                            have hcz48_0 : wr.cell? ⟨gb170, 0, none⟩ = some (.slice A0_0 l0_0.length c0_0) := (blk_cell BK170.out 0).trans rfl
                                            have hcz48_1 : wr.cell? ⟨gb170, 1, none⟩ = some (.slice A0_1 l0_1.length c0_1) := (blk_cell BK170.out 1).trans rfl
                                            have hfz48_0 := blk_frozen BK170.out 0
                                            have hfz48_1 := blk_frozen BK170.out 1
                                            have p179 : 0 ≤ (x6_3 : Int) := of_decide_eq_true (by first | (with_reducible assumption) | assumption)
                                            have q179 : x6_3 < (l0_1.length : Int) := of_decide_eq_true (by first | (with_reducible assumption) | assumption)
                                            obtain ⟨ad179, A179_0, c179_0, e179, hx179_0, hl179_0, hi179_0⟩ := at_L2 HR0_1.out x6_3 p179 q179
                                            cases e179
                                            replace hx179_0 := (HB.out.cell (World.block_lt_of_cell? w _ hx179_0)).trans hx179_0
                                            have HR179_0 := Aside0.mk hi179_0
                                            have HC179_0 := Aside0.mk hl179_0
                                            clear hi179_0 hl179_0
                                            replace p179 := eq_true p179
                                            replace q179 := eq_true q179
                                            have p180 : 0 ≤ (x6_3 : Int) := of_decide_eq_true (by first | (with_reducible assumption) | assumption)
                                            have q180 : x6_3 < (l0_1.length : Int) := of_decide_eq_true (by first | (with_reducible assumption) | assumption)
                                            obtain ⟨ad180, A180_0, c180_0, e180, hx180_0, hl180_0, hi180_0⟩ := at_L2 HR0_1.out x6_3 p180 q180
                                            obtain rfl : ad179 = ad180 := (by injection e180)
                                            replace hx180_0 := (HB.out.cell (World.block_lt_of_cell? w _ hx180_0)).trans hx180_0
                                            have HR180_0 := Aside0.mk hi180_0
                                            have HC180_0 := Aside0.mk hl180_0
                                            clear hi180_0 hl180_0
                                            replace p180 := eq_true p180
                                            replace q180 := eq_true q180
                                            have ea_ := Option.some.inj (hx179_0.symm.trans hx180_0)
                                            injection ea_ with ea_ en_ ec_
                                            subst ea_
                                            subst ec_
                                            clear en_
                                            have p181 : 0 ≤ (x7_4 : Int) := of_decide_eq_true (by first | (with_reducible assumption) | assumption)
                                            have q181 : x7_4 < ((rd_L2 l0_1 x6_3).length : Int) := of_decide_eq_true (by first | (with_reducible assumption) | assumption)
                                            obtain ⟨ad181, e181, hx181_0, hx181_1⟩ := at_T58 HR180_0.out x7_4 p181 q181
                                            cases e181
                                            replace hx181_0 := (HB.out.cell (World.block_lt_of_cell? w _ hx181_0)).trans hx181_0
                                            replace hx181_1 := (HB.out.cell (World.block_lt_of_cell? w _ hx181_1)).trans hx181_1
                                            replace p181 := eq_true p181
                                            replace q181 := eq_true q181
                                            go_wp2_with (first | ((with_reducible refine gate_dst (N := 8) rfl ?_); (try (refine gate_guard (by rfl) ?_; dsimp only)); refine box_event ?hg (N := 8) ?hd (cs := #[.int .i64 0, .int .i64 0]) (t := 58) ?hr ?_; (case hd => rfl); (case hg => rfl); (case hr => first | (go_simp; done) | (go_simp; rfl)); intro gb182 hg w49 hbox hb; have n0_ := Aside0.mk (blk_below (g := gb170) (o := .cells #[.slice A0_0 l0_0.length c0_0, .slice (some ad179) l0_1.length c0_1] 25 (0, 0)) (by (with_reducible repeat (first | refine blk_drewN ?_ _ | refine blk_drew ?_ | refine blk_alloc ?_ _)); exact BK170.out) hb); have n1_ := Aside0.mk (below_step (by repeat (first | (with_reducible first | exact HB.out | apply below_alloc | apply pw_below_drewN | apply below_drew1 | refine below_set ?_ GE170.out) | exact HB.out)) hb); have n2_ := Aside0.mk (hbox); have n3_ := Aside0.mk ((by rw [hg]; exact (below_size (by repeat (first | (with_reducible first | exact HB.out | apply below_alloc | apply pw_below_drewN | apply below_drew1 | refine below_set ?_ GE170.out) | exact HB.out))) : w.heap.size ≤ gb182)); have n4_ := Aside0.mk ((by rw [hg]; exact (below_size (by repeat (first | (with_reducible first | exact HB.out | apply below_alloc | apply pw_below_drewN | apply below_drew1 | refine below_set ?_ GE170.out) | exact HB.out))) : w.heap.size ≤ gb182)); have n5_ := Aside0.mk ((by rw [hg]; exact Nat.ne_of_lt (blk_lt (g := gb170) (o := .cells #[.slice A0_0 l0_0.length c0_0, .slice (some ad179) l0_1.length c0_1] 25 (0, 0)) (by (with_reducible repeat (first | refine blk_drewN ?_ _ | refine blk_drew ?_ | refine blk_alloc ?_ _)); exact BK170.out)) : gb170 ≠ gb182)); have n6_ := Aside0.mk ((by rw [hg]; exact Nat.ne_of_gt (blk_lt (g := gb170) (o := .cells #[.slice A0_0 l0_0.length c0_0, .slice (some ad179) l0_1.length c0_1] 25 (0, 0)) (by (with_reducible repeat (first | refine blk_drewN ?_ _ | refine blk_drew ?_ | refine blk_alloc ?_ _)); exact BK170.out)) : gb182 ≠ gb170)); clear BK170; clear HB; have BK170 := n0_; have HB := n1_; have BK182 := n2_; have GW182 := n3_; have GE182 := n4_; have NB170_182 := n5_; have NB182_170 := n6_; clear n0_ n1_ n2_ n3_ n4_ n5_ n6_; clear hb hbox hg; have hnb50 := NB182_170.out; have hnc50 := NB170_182.out; have hcz51_0 : w49.cell? ⟨gb182, 0, none⟩ = some (.int .i64 0) := (blk_cell BK182.out 0).trans rfl; have hcz51_1 : w49.cell? ⟨gb182, 1, none⟩ = some (.int .i64 0) := (blk_cell BK182.out 1).trans rfl; have hfz51_0 := blk_frozen BK182.out 0; have hfz51_1 := blk_frozen BK182.out 1; have hcz52_0 : w49.cell? ⟨gb170, 0, none⟩ = some (.slice A0_0 l0_0.length c0_0) := (blk_cell BK170.out 0).trans rfl; have hcz52_1 : w49.cell? ⟨gb170, 1, none⟩ = some (.slice (some ad179) l0_1.length c0_1) := (blk_cell BK170.out 1).trans rfl; have hfz52_0 := blk_frozen BK170.out 0; have hfz52_1 := blk_frozen BK170.out 1) | (go_at_call 48; (with_reducible refine (selfstabref01_Port.calls k4 _ _ l0_0 _ _ l0_1 ((rd_T58 (rd_L2 l0_1 x6_3) x7_4).f0) x6_3 t183 _ ?side1 ?side2 ?side3 ?side4 A35.out).mono ?_); (case side1 => exact Kd.C_below HR0_0.out (by repeat (first | (with_reducible first | exact HB.out | apply below_alloc | apply pw_below_drewN | apply below_drew1 | refine below_set ?_ GE170.out | refine below_set ?_ GE182.out) | exact HB.out))); (case side2 => exact HC0_0.out); (case side3 => exact Kd.C_below HR0_1.out (by repeat (first | (with_reducible first | exact HB.out | apply below_alloc | apply pw_below_drewN | apply below_drew1 | refine below_set ?_ GE170.out | refine below_set ?_ GE182.out) | exact HB.out))); (case side4 => exact HC0_1.out); rintro e w53 ⟨rfl, hb⟩; have n0_ := Aside0.mk (blk_below (g := gb170) (o := .cells #[.slice A0_0 l0_0.length c0_0, .slice (some ad179) l0_1.length c0_1] 25 (0, 0)) (by (with_reducible repeat (first | refine blk_drewN ?_ _ | refine blk_drew ?_ | refine blk_alloc ?_ _)); refine blk_far ?_ NB170_182.out _; (with_reducible repeat (first | refine blk_drewN ?_ _ | refine blk_drew ?_ | refine blk_alloc ?_ _)); refine blk_far ?_ NB170_182.out _; (with_reducible repeat (first | refine blk_drewN ?_ _ | refine blk_drew ?_ | refine blk_alloc ?_ _)); exact BK170.out) hb); have n1_ := Aside0.mk (blk_below (g := gb182) (o := .cells #[.int .i64 ((rd_T58 (rd_L2 l0_1 x6_3) x7_4).f0), .int .i64 ((rd_T58 (rd_L2 l0_1 x6_3) x7_4).f1)] 58 (0, 0)) (by (with_reducible repeat (first | refine blk_drewN ?_ _ | refine blk_drew ?_ | refine blk_alloc ?_ _)); refine blk_put (cs := #[.int .i64 ((rd_T58 (rd_L2 l0_1 x6_3) x7_4).f0), .int .i64 0]) ?_ 1 _ rfl; (with_reducible repeat (first | refine blk_drewN ?_ _ | refine blk_drew ?_ | refine blk_alloc ?_ _)); refine blk_put (cs := #[.int .i64 0, .int .i64 0]) ?_ 0 _ rfl; (with_reducible repeat (first | refine blk_drewN ?_ _ | refine blk_drew ?_ | refine blk_alloc ?_ _)); exact BK182.out) hb); have n2_ := Aside0.mk (below_step (by repeat (first | (with_reducible first | exact HB.out | apply below_alloc | apply pw_below_drewN | apply below_drew1 | refine below_set ?_ GE170.out | refine below_set ?_ GE182.out) | exact HB.out)) hb); clear BK170; clear BK182; clear HB; have BK170 := n0_; have BK182 := n1_; have HB := n2_; clear n0_ n1_ n2_; (try clear hb); (try clear hb2); (try clear hk); (try clear hi); have hcz54_0 : w53.cell? ⟨gb170, 0, none⟩ = some (.slice A0_0 l0_0.length c0_0) := (blk_cell BK170.out 0).trans rfl; have hcz54_1 : w53.cell? ⟨gb170, 1, none⟩ = some (.slice (some ad179) l0_1.length c0_1) := (blk_cell BK170.out 1).trans rfl; have hfz54_0 := blk_frozen BK170.out 0; have hfz54_1 := blk_frozen BK170.out 1; have hcz55_0 : w53.cell? ⟨gb182, 0, none⟩ = some (.int .i64 ((rd_T58 (rd_L2 l0_1 x6_3) x7_4).f0)) := (blk_cell BK182.out 0).trans rfl; have hcz55_1 : w53.cell? ⟨gb182, 1, none⟩ = some (.int .i64 ((rd_T58 (rd_L2 l0_1 x6_3) x7_4).f1)) := (blk_cell BK182.out 1).trans rfl; have hfz55_0 := blk_frozen BK182.out 0; have hfz55_1 := blk_frozen BK182.out 1; have p184 : 0 ≤ (((rd_T58 (rd_L2 l0_1 x6_3) x7_4).f0) : Int) := of_decide_eq_true (by first | (with_reducible assumption) | assumption); have q184 : ((rd_T58 (rd_L2 l0_1 x6_3) x7_4).f0) < (l0_1.length : Int) := of_decide_eq_true (by first | (with_reducible assumption) | assumption); obtain ⟨ad184, A184_0, c184_0, e184, hx184_0, hl184_0, hi184_0⟩ := at_L2 HR0_1.out ((rd_T58 (rd_L2 l0_1 x6_3) x7_4).f0) p184 q184; obtain rfl : ad179 = ad184 := (by injection e184); replace hx184_0 := (HB.out.cell (World.block_lt_of_cell? w _ hx184_0)).trans hx184_0; have HR184_0 := Aside0.mk hi184_0; have HC184_0 := Aside0.mk hl184_0; clear hi184_0 hl184_0; replace p184 := eq_true p184; replace q184 := eq_true q184; have p185 : 0 ≤ (t183 : Int) := of_decide_eq_true (by first | (with_reducible assumption) | assumption); have q185 : t183 < ((rd_L2 l0_1 ((rd_T58 (rd_L2 l0_1 x6_3) x7_4).f0)).length : Int) := of_decide_eq_true (by first | (with_reducible assumption) | assumption); obtain ⟨ad185, e185, hx185_0, hx185_1⟩ := at_T58 HR184_0.out t183 p185 q185; cases e185; replace hx185_0 := (HB.out.cell (World.block_lt_of_cell? w _ hx185_0)).trans hx185_0; replace hx185_1 := (HB.out.cell (World.block_lt_of_cell? w _ hx185_1)).trans hx185_1; replace p185 := eq_true p185; replace q185 := eq_true q185))
                                            repeat (go_quiet (first | ((with_reducible refine gate_dst (N := 8) rfl ?_); (try (refine gate_guard (by rfl) ?_; dsimp only)); refine box_event ?hg (N := 8) ?hd (cs := #[.int .i64 0, .int .i64 0]) (t := 58) ?hr ?_; (case hd => rfl); (case hg => rfl); (case hr => first | (go_simp; done) | (go_simp; rfl)); intro gb182 hg w49 hbox hb; have n0_ := Aside0.mk (blk_below (g := gb170) (o := .cells #[.slice A0_0 l0_0.length c0_0, .slice (some ad179) l0_1.length c0_1] 25 (0, 0)) (by (with_reducible repeat (first | refine blk_drewN ?_ _ | refine blk_drew ?_ | refine blk_alloc ?_ _)); exact BK170.out) hb); have n1_ := Aside0.mk (below_step (by repeat (first | (with_reducible first | exact HB.out | apply below_alloc | apply pw_below_drewN | apply below_drew1 | refine below_set ?_ GE170.out) | exact HB.out)) hb); have n2_ := Aside0.mk (hbox); have n3_ := Aside0.mk ((by rw [hg]; exact (below_size (by repeat (first | (with_reducible first | exact HB.out | apply below_alloc | apply pw_below_drewN | apply below_drew1 | refine below_set ?_ GE170.out) | exact HB.out))) : w.heap.size ≤ gb182)); have n4_ := Aside0.mk ((by rw [hg]; exact (below_size (by repeat (first | (with_reducible first | exact HB.out | apply below_alloc | apply pw_below_drewN | apply below_drew1 | refine below_set ?_ GE170.out) | exact HB.out))) : w.heap.size ≤ gb182)); have n5_ := Aside0.mk ((by rw [hg]; exact Nat.ne_of_lt (blk_lt (g := gb170) (o := .cells #[.slice A0_0 l0_0.length c0_0, .slice (some ad179) l0_1.length c0_1] 25 (0, 0)) (by (with_reducible repeat (first | refine blk_drewN ?_ _ | refine blk_drew ?_ | refine blk_alloc ?_ _)); exact BK170.out)) : gb170 ≠ gb182)); have n6_ := Aside0.mk ((by rw [hg]; exact Nat.ne_of_gt (blk_lt (g := gb170) (o := .cells #[.slice A0_0 l0_0.length c0_0, .slice (some ad179) l0_1.length c0_1] 25 (0, 0)) (by (with_reducible repeat (first | refine blk_drewN ?_ _ | refine blk_drew ?_ | refine blk_alloc ?_ _)); exact BK170.out)) : gb182 ≠ gb170)); clear BK170; clear HB; have BK170 := n0_; have HB := n1_; have BK182 := n2_; have GW182 := n3_; have GE182 := n4_; have NB170_182 := n5_; have NB182_170 := n6_; clear n0_ n1_ n2_ n3_ n4_ n5_ n6_; clear hb hbox hg; have hnb50 := NB182_170.out; have hnc50 := NB170_182.out; have hcz51_0 : w49.cell? ⟨gb182, 0, none⟩ = some (.int .i64 0) := (blk_cell BK182.out 0).trans rfl; have hcz51_1 : w49.cell? ⟨gb182, 1, none⟩ = some (.int .i64 0) := (blk_cell BK182.out 1).trans rfl; have hfz51_0 := blk_frozen BK182.out 0; have hfz51_1 := blk_frozen BK182.out 1; have hcz52_0 : w49.cell? ⟨gb170, 0, none⟩ = some (.slice A0_0 l0_0.length c0_0) := (blk_cell BK170.out 0).trans rfl; have hcz52_1 : w49.cell? ⟨gb170, 1, none⟩ = some (.slice (some ad179) l0_1.length c0_1) := (blk_cell BK170.out 1).trans rfl; have hfz52_0 := blk_frozen BK170.out 0; have hfz52_1 := blk_frozen BK170.out 1) | (go_at_call 48; (with_reducible refine (selfstabref01_Port.calls k4 _ _ l0_0 _ _ l0_1 ((rd_T58 (rd_L2 l0_1 x6_3) x7_4).f0) x6_3 t183 _ ?side1 ?side2 ?side3 ?side4 A35.out).mono ?_); (case side1 => exact Kd.C_below HR0_0.out (by repeat (first | (with_reducible first | exact HB.out | apply below_alloc | apply pw_below_drewN | apply below_drew1 | refine below_set ?_ GE170.out | refine below_set ?_ GE182.out) | exact HB.out))); (case side2 => exact HC0_0.out); (case side3 => exact Kd.C_below HR0_1.out (by repeat (first | (with_reducible first | exact HB.out | apply below_alloc | apply pw_below_drewN | apply below_drew1 | refine below_set ?_ GE170.out | refine below_set ?_ GE182.out) | exact HB.out))); (case side4 => exact HC0_1.out); rintro e w53 ⟨rfl, hb⟩; have n0_ := Aside0.mk (blk_below (g := gb170) (o := .cells #[.slice A0_0 l0_0.length c0_0, .slice (some ad179) l0_1.length c0_1] 25 (0, 0)) (by (with_reducible repeat (first | refine blk_drewN ?_ _ | refine blk_drew ?_ | refine blk_alloc ?_ _)); refine blk_far ?_ NB170_182.out _; (with_reducible repeat (first | refine blk_drewN ?_ _ | refine blk_drew ?_ | refine blk_alloc ?_ _)); refine blk_far ?_ NB170_182.out _; (with_reducible repeat (first | refine blk_drewN ?_ _ | refine blk_drew ?_ | refine blk_alloc ?_ _)); exact BK170.out) hb); have n1_ := Aside0.mk (blk_below (g := gb182) (o := .cells #[.int .i64 ((rd_T58 (rd_L2 l0_1 x6_3) x7_4).f0), .int .i64 ((rd_T58 (rd_L2 l0_1 x6_3) x7_4).f1)] 58 (0, 0)) (by (with_reducible repeat (first | refine blk_drewN ?_ _ | refine blk_drew ?_ | refine blk_alloc ?_ _)); refine blk_put (cs := #[.int .i64 ((rd_T58 (rd_L2 l0_1 x6_3) x7_4).f0), .int .i64 0]) ?_ 1 _ rfl; (with_reducible repeat (first | refine blk_drewN ?_ _ | refine blk_drew ?_ | refine blk_alloc ?_ _)); refine blk_put (cs := #[.int .i64 0, .int .i64 0]) ?_ 0 _ rfl; (with_reducible repeat (first | refine blk_drewN ?_ _ | refine blk_drew ?_ | refine blk_alloc ?_ _)); exact BK182.out) hb); have n2_ := Aside0.mk (below_step (by repeat (first | (with_reducible first | exact HB.out | apply below_alloc | apply pw_below_drewN | apply below_drew1 | refine below_set ?_ GE170.out | refine below_set ?_ GE182.out) | exact HB.out)) hb); clear BK170; clear BK182; clear HB; have BK170 := n0_; have BK182 := n1_; have HB := n2_; clear n0_ n1_ n2_; (try clear hb); (try clear hb2); (try clear hk); (try clear hi); have hcz54_0 : w53.cell? ⟨gb170, 0, none⟩ = some (.slice A0_0 l0_0.length c0_0) := (blk_cell BK170.out 0).trans rfl; have hcz54_1 : w53.cell? ⟨gb170, 1, none⟩ = some (.slice (some ad179) l0_1.length c0_1) := (blk_cell BK170.out 1).trans rfl; have hfz54_0 := blk_frozen BK170.out 0; have hfz54_1 := blk_frozen BK170.out 1; have hcz55_0 : w53.cell? ⟨gb182, 0, none⟩ = some (.int .i64 ((rd_T58 (rd_L2 l0_1 x6_3) x7_4).f0)) := (blk_cell BK182.out 0).trans rfl; have hcz55_1 : w53.cell? ⟨gb182, 1, none⟩ = some (.int .i64 ((rd_T58 (rd_L2 l0_1 x6_3) x7_4).f1)) := (blk_cell BK182.out 1).trans rfl; have hfz55_0 := blk_frozen BK182.out 0; have hfz55_1 := blk_frozen BK182.out 1; have p184 : 0 ≤ (((rd_T58 (rd_L2 l0_1 x6_3) x7_4).f0) : Int) := of_decide_eq_true (by first | (with_reducible assumption) | assumption); have q184 : ((rd_T58 (rd_L2 l0_1 x6_3) x7_4).f0) < (l0_1.length : Int) := of_decide_eq_true (by first | (with_reducible assumption) | assumption); obtain ⟨ad184, A184_0, c184_0, e184, hx184_0, hl184_0, hi184_0⟩ := at_L2 HR0_1.out ((rd_T58 (rd_L2 l0_1 x6_3) x7_4).f0) p184 q184; obtain rfl : ad179 = ad184 := (by injection e184); replace hx184_0 := (HB.out.cell (World.block_lt_of_cell? w _ hx184_0)).trans hx184_0; have HR184_0 := Aside0.mk hi184_0; have HC184_0 := Aside0.mk hl184_0; clear hi184_0 hl184_0; replace p184 := eq_true p184; replace q184 := eq_true q184; have p185 : 0 ≤ (t183 : Int) := of_decide_eq_true (by first | (with_reducible assumption) | assumption); have q185 : t183 < ((rd_L2 l0_1 ((rd_T58 (rd_L2 l0_1 x6_3) x7_4).f0)).length : Int) := of_decide_eq_true (by first | (with_reducible assumption) | assumption); obtain ⟨ad185, e185, hx185_0, hx185_1⟩ := at_T58 HR184_0.out t183 p185 q185; cases e185; replace hx185_0 := (HB.out.cell (World.block_lt_of_cell? w _ hx185_0)).trans hx185_0; replace hx185_1 := (HB.out.cell (World.block_lt_of_cell? w _ hx185_1)).trans hx185_1; replace p185 := eq_true p185; replace q185 := eq_true q185)); try go_wp2_with (first | ((with_reducible refine gate_dst (N := 8) rfl ?_); (try (refine gate_guard (by rfl) ?_; dsimp only)); refine box_event ?hg (N := 8) ?hd (cs := #[.int .i64 0, .int .i64 0]) (t := 58) ?hr ?_; (case hd => rfl); (case hg => rfl); (case hr => first | (go_simp; done) | (go_simp; rfl)); intro gb182 hg w49 hbox hb; have n0_ := Aside0.mk (blk_below (g := gb170) (o := .cells #[.slice A0_0 l0_0.length c0_0, .slice (some ad179) l0_1.length c0_1] 25 (0, 0)) (by (with_reducible repeat (first | refine blk_drewN ?_ _ | refine blk_drew ?_ | refine blk_alloc ?_ _)); exact BK170.out) hb); have n1_ := Aside0.mk (below_step (by repeat (first | (with_reducible first | exact HB.out | apply below_alloc | apply pw_below_drewN | apply below_drew1 | refine below_set ?_ GE170.out) | exact HB.out)) hb); have n2_ := Aside0.mk (hbox); have n3_ := Aside0.mk ((by rw [hg]; exact (below_size (by repeat (first | (with_reducible first | exact HB.out | apply below_alloc | apply pw_below_drewN | apply below_drew1 | refine below_set ?_ GE170.out) | exact HB.out))) : w.heap.size ≤ gb182)); have n4_ := Aside0.mk ((by rw [hg]; exact (below_size (by repeat (first | (with_reducible first | exact HB.out | apply below_alloc | apply pw_below_drewN | apply below_drew1 | refine below_set ?_ GE170.out) | exact HB.out))) : w.heap.size ≤ gb182)); have n5_ := Aside0.mk ((by rw [hg]; exact Nat.ne_of_lt (blk_lt (g := gb170) (o := .cells #[.slice A0_0 l0_0.length c0_0, .slice (some ad179) l0_1.length c0_1] 25 (0, 0)) (by (with_reducible repeat (first | refine blk_drewN ?_ _ | refine blk_drew ?_ | refine blk_alloc ?_ _)); exact BK170.out)) : gb170 ≠ gb182)); have n6_ := Aside0.mk ((by rw [hg]; exact Nat.ne_of_gt (blk_lt (g := gb170) (o := .cells #[.slice A0_0 l0_0.length c0_0, .slice (some ad179) l0_1.length c0_1] 25 (0, 0)) (by (with_reducible repeat (first | refine blk_drewN ?_ _ | refine blk_drew ?_ | refine blk_alloc ?_ _)); exact BK170.out)) : gb182 ≠ gb170)); clear BK170; clear HB; have BK170 := n0_; have HB := n1_; have BK182 := n2_; have GW182 := n3_; have GE182 := n4_; have NB170_182 := n5_; have NB182_170 := n6_; clear n0_ n1_ n2_ n3_ n4_ n5_ n6_; clear hb hbox hg; have hnb50 := NB182_170.out; have hnc50 := NB170_182.out; have hcz51_0 : w49.cell? ⟨gb182, 0, none⟩ = some (.int .i64 0) := (blk_cell BK182.out 0).trans rfl; have hcz51_1 : w49.cell? ⟨gb182, 1, none⟩ = some (.int .i64 0) := (blk_cell BK182.out 1).trans rfl; have hfz51_0 := blk_frozen BK182.out 0; have hfz51_1 := blk_frozen BK182.out 1; have hcz52_0 : w49.cell? ⟨gb170, 0, none⟩ = some (.slice A0_0 l0_0.length c0_0) := (blk_cell BK170.out 0).trans rfl; have hcz52_1 : w49.cell? ⟨gb170, 1, none⟩ = some (.slice (some ad179) l0_1.length c0_1) := (blk_cell BK170.out 1).trans rfl; have hfz52_0 := blk_frozen BK170.out 0; have hfz52_1 := blk_frozen BK170.out 1) | (go_at_call 48; (with_reducible refine (selfstabref01_Port.calls k4 _ _ l0_0 _ _ l0_1 ((rd_T58 (rd_L2 l0_1 x6_3) x7_4).f0) x6_3 t183 _ ?side1 ?side2 ?side3 ?side4 A35.out).mono ?_); (case side1 => exact Kd.C_below HR0_0.out (by repeat (first | (with_reducible first | exact HB.out | apply below_alloc | apply pw_below_drewN | apply below_drew1 | refine below_set ?_ GE170.out | refine below_set ?_ GE182.out) | exact HB.out))); (case side2 => exact HC0_0.out); (case side3 => exact Kd.C_below HR0_1.out (by repeat (first | (with_reducible first | exact HB.out | apply below_alloc | apply pw_below_drewN | apply below_drew1 | refine below_set ?_ GE170.out | refine below_set ?_ GE182.out) | exact HB.out))); (case side4 => exact HC0_1.out); rintro e w53 ⟨rfl, hb⟩; have n0_ := Aside0.mk (blk_below (g := gb170) (o := .cells #[.slice A0_0 l0_0.length c0_0, .slice (some ad179) l0_1.length c0_1] 25 (0, 0)) (by (with_reducible repeat (first | refine blk_drewN ?_ _ | refine blk_drew ?_ | refine blk_alloc ?_ _)); refine blk_far ?_ NB170_182.out _; (with_reducible repeat (first | refine blk_drewN ?_ _ | refine blk_drew ?_ | refine blk_alloc ?_ _)); refine blk_far ?_ NB170_182.out _; (with_reducible repeat (first | refine blk_drewN ?_ _ | refine blk_drew ?_ | refine blk_alloc ?_ _)); exact BK170.out) hb); have n1_ := Aside0.mk (blk_below (g := gb182) (o := .cells #[.int .i64 ((rd_T58 (rd_L2 l0_1 x6_3) x7_4).f0), .int .i64 ((rd_T58 (rd_L2 l0_1 x6_3) x7_4).f1)] 58 (0, 0)) (by (with_reducible repeat (first | refine blk_drewN ?_ _ | refine blk_drew ?_ | refine blk_alloc ?_ _)); refine blk_put (cs := #[.int .i64 ((rd_T58 (rd_L2 l0_1 x6_3) x7_4).f0), .int .i64 0]) ?_ 1 _ rfl; (with_reducible repeat (first | refine blk_drewN ?_ _ | refine blk_drew ?_ | refine blk_alloc ?_ _)); refine blk_put (cs := #[.int .i64 0, .int .i64 0]) ?_ 0 _ rfl; (with_reducible repeat (first | refine blk_drewN ?_ _ | refine blk_drew ?_ | refine blk_alloc ?_ _)); exact BK182.out) hb); have n2_ := Aside0.mk (below_step (by repeat (first | (with_reducible first | exact HB.out | apply below_alloc | apply pw_below_drewN | apply below_drew1 | refine below_set ?_ GE170.out | refine below_set ?_ GE182.out) | exact HB.out)) hb); clear BK170; clear BK182; clear HB; have BK170 := n0_; have BK182 := n1_; have HB := n2_; clear n0_ n1_ n2_; (try clear hb); (try clear hb2); (try clear hk); (try clear hi); have hcz54_0 : w53.cell? ⟨gb170, 0, none⟩ = some (.slice A0_0 l0_0.length c0_0) := (blk_cell BK170.out 0).trans rfl; have hcz54_1 : w53.cell? ⟨gb170, 1, none⟩ = some (.slice (some ad179) l0_1.length c0_1) := (blk_cell BK170.out 1).trans rfl; have hfz54_0 := blk_frozen BK170.out 0; have hfz54_1 := blk_frozen BK170.out 1; have hcz55_0 : w53.cell? ⟨gb182, 0, none⟩ = some (.int .i64 ((rd_T58 (rd_L2 l0_1 x6_3) x7_4).f0)) := (blk_cell BK182.out 0).trans rfl; have hcz55_1 : w53.cell? ⟨gb182, 1, none⟩ = some (.int .i64 ((rd_T58 (rd_L2 l0_1 x6_3) x7_4).f1)) := (blk_cell BK182.out 1).trans rfl; have hfz55_0 := blk_frozen BK182.out 0; have hfz55_1 := blk_frozen BK182.out 1; have p184 : 0 ≤ (((rd_T58 (rd_L2 l0_1 x6_3) x7_4).f0) : Int) := of_decide_eq_true (by first | (with_reducible assumption) | assumption); have q184 : ((rd_T58 (rd_L2 l0_1 x6_3) x7_4).f0) < (l0_1.length : Int) := of_decide_eq_true (by first | (with_reducible assumption) | assumption); obtain ⟨ad184, A184_0, c184_0, e184, hx184_0, hl184_0, hi184_0⟩ := at_L2 HR0_1.out ((rd_T58 (rd_L2 l0_1 x6_3) x7_4).f0) p184 q184; obtain rfl : ad179 = ad184 := (by injection e184); replace hx184_0 := (HB.out.cell (World.block_lt_of_cell? w _ hx184_0)).trans hx184_0; have HR184_0 := Aside0.mk hi184_0; have HC184_0 := Aside0.mk hl184_0; clear hi184_0 hl184_0; replace p184 := eq_true p184; replace q184 := eq_true q184; have p185 : 0 ≤ (t183 : Int) := of_decide_eq_true (by first | (with_reducible assumption) | assumption); have q185 : t183 < ((rd_L2 l0_1 ((rd_T58 (rd_L2 l0_1 x6_3) x7_4).f0)).length : Int) := of_decide_eq_true (by first | (with_reducible assumption) | assumption); obtain ⟨ad185, e185, hx185_0, hx185_1⟩ := at_T58 HR184_0.out t183 p185 q185; cases e185; replace hx185_0 := (HB.out.cell (World.block_lt_of_cell? w _ hx185_0)).trans hx185_0; replace hx185_1 := (HB.out.cell (World.block_lt_of_cell? w _ hx185_1)).trans hx185_1; replace p185 := eq_true p185; replace q185 := eq_true q185)))
                                            go_roundg k4
                                            case measure => have := HJ1.out; have := HK2.out; have := HK3.out; have := HK4.out; omega
                                            case rel => exact ⟨(wrap64 (x7_4 + 1)), (by first | rfl | (simp; done) | (simp [*]; done)), H', ⟨by have := HJ1.out; have := HK2.out; have := HK3.out; have := HK4.out; omega⟩, ⟨by (with_reducible repeat (first | refine blk_drewN ?_ _ | refine blk_drew ?_ | refine blk_alloc ?_ _)); exact BK170.out⟩, ⟨by repeat (first | (with_reducible first | exact HB.out | apply below_alloc | apply pw_below_drewN | apply below_drew1 | refine below_set ?_ GE170.out | refine below_set ?_ GE182.out) | exact HB.out)⟩⟩
                                          · rw [if_neg c47] at H
                                            have c47b0 : (((rd_T58 (rd_L2 l0_1 ((rd_T58 (rd_L2 l0_1 x6_3) x7_4).f0)) t183).f1) == ((rd_T58 (rd_L2 l0_1 x6_3) x7_4).f1)) = false := beq_eq_false_iff_ne.mpr c47
                                            have c47b1 : (((rd_T58 (rd_L2 l0_1 ((rd_T58 (rd_L2 l0_1 x6_3) x7_4).f0)) t183).f1) != ((rd_T58 (rd_L2 l0_1 x6_3) x7_4).f1)) = true := bne_iff_ne.mpr c47
                                            obtain rfl := Option.some.inj H
                                            have hcz56_0 : wr.cell? ⟨gb170, 0, none⟩ = some (.slice A0_0 l0_0.length c0_0) := (blk_cell BK170.out 0).trans rfl
                                            have hcz56_1 : wr.cell? ⟨gb170, 1, none⟩ = some (.slice A0_1 l0_1.length c0_1) := (blk_cell BK170.out 1).trans rfl
                                            have hfz56_0 := blk_frozen BK170.out 0
                                            have hfz56_1 := blk_frozen BK170.out 1
                                            have p179 : 0 ≤ (x6_3 : Int) := of_decide_eq_true (by first | (with_reducible assumption) | assumption)
                                            have q179 : x6_3 < (l0_1.length : Int) := of_decide_eq_true (by first | (with_reducible assumption) | assumption)
                                            obtain ⟨ad179, A179_0, c179_0, e179, hx179_0, hl179_0, hi179_0⟩ := at_L2 HR0_1.out x6_3 p179 q179
                                            cases e179
                                            replace hx179_0 := (HB.out.cell (World.block_lt_of_cell? w _ hx179_0)).trans hx179_0
                                            have HR179_0 := Aside0.mk hi179_0
                                            have HC179_0 := Aside0.mk hl179_0
                                            clear hi179_0 hl179_0
                                            replace p179 := eq_true p179
                                            replace q179 := eq_true q179
                                            have p180 : 0 ≤ (x6_3 : Int) := of_decide_eq_true (by first | (with_reducible assumption) | assumption)
                                            have q180 : x6_3 < (l0_1.length : Int) := of_decide_eq_true (by first | (with_reducible assumption) | assumption)
                                            obtain ⟨ad180, A180_0, c180_0, e180, hx180_0, hl180_0, hi180_0⟩ := at_L2 HR0_1.out x6_3 p180 q180
                                            obtain rfl : ad179 = ad180 := (by injection e180)
                                            replace hx180_0 := (HB.out.cell (World.block_lt_of_cell? w _ hx180_0)).trans hx180_0
                                            have HR180_0 := Aside0.mk hi180_0
                                            have HC180_0 := Aside0.mk hl180_0
                                            clear hi180_0 hl180_0
                                            replace p180 := eq_true p180
                                            replace q180 := eq_true q180
                                            have ea_ := Option.some.inj (hx179_0.symm.trans hx180_0)
                                            injection ea_ with ea_ en_ ec_
                                            subst ea_
                                            subst ec_
                                            clear en_
                                            have p181 : 0 ≤ (x7_4 : Int) := of_decide_eq_true (by first | (with_reducible assumption) | assumption)
                                            have q181 : x7_4 < ((rd_L2 l0_1 x6_3).length : Int) := of_decide_eq_true (by first | (with_reducible assumption) | assumption)
                                            obtain ⟨ad181, e181, hx181_0, hx181_1⟩ := at_T58 HR180_0.out x7_4 p181 q181
                                            cases e181
                                            replace hx181_0 := (HB.out.cell (World.block_lt_of_cell? w _ hx181_0)).trans hx181_0
                                            replace hx181_1 := (HB.out.cell (World.block_lt_of_cell? w _ hx181_1)).trans hx181_1
                                            replace p181 := eq_true p181
                                            replace q181 := eq_true q181
                                            go_wp2_with (first | ((with_reducible refine gate_dst (N := 8) rfl ?_); (try (refine gate_guard (by rfl) ?_; dsimp only)); refine box_event ?hg (N := 8) ?hd (cs := #[.int .i64 0, .int .i64 0]) (t := 58) ?hr ?_; (case hd => rfl); (case hg => rfl); (case hr => first | (go_simp; done) | (go_simp; rfl)); intro gb182 hg w57 hbox hb; have n0_ := Aside0.mk (blk_below (g := gb170) (o := .cells #[.slice A0_0 l0_0.length c0_0, .slice (some ad179) l0_1.length c0_1] 25 (0, 0)) (by (with_reducible repeat (first | refine blk_drewN ?_ _ | refine blk_drew ?_ | refine blk_alloc ?_ _)); exact BK170.out) hb); have n1_ := Aside0.mk (below_step (by repeat (first | (with_reducible first | exact HB.out | apply below_alloc | apply pw_below_drewN | apply below_drew1 | refine below_set ?_ GE170.out) | exact HB.out)) hb); have n2_ := Aside0.mk (hbox); have n3_ := Aside0.mk ((by rw [hg]; exact (below_size (by repeat (first | (with_reducible first | exact HB.out | apply below_alloc | apply pw_below_drewN | apply below_drew1 | refine below_set ?_ GE170.out) | exact HB.out))) : w.heap.size ≤ gb182)); have n4_ := Aside0.mk ((by rw [hg]; exact (below_size (by repeat (first | (with_reducible first | exact HB.out | apply below_alloc | apply pw_below_drewN | apply below_drew1 | refine below_set ?_ GE170.out) | exact HB.out))) : w.heap.size ≤ gb182)); have n5_ := Aside0.mk ((by rw [hg]; exact Nat.ne_of_lt (blk_lt (g := gb170) (o := .cells #[.slice A0_0 l0_0.length c0_0, .slice (some ad179) l0_1.length c0_1] 25 (0, 0)) (by (with_reducible repeat (first | refine blk_drewN ?_ _ | refine blk_drew ?_ | refine blk_alloc ?_ _)); exact BK170.out)) : gb170 ≠ gb182)); have n6_ := Aside0.mk ((by rw [hg]; exact Nat.ne_of_gt (blk_lt (g := gb170) (o := .cells #[.slice A0_0 l0_0.length c0_0, .slice (some ad179) l0_1.length c0_1] 25 (0, 0)) (by (with_reducible repeat (first | refine blk_drewN ?_ _ | refine blk_drew ?_ | refine blk_alloc ?_ _)); exact BK170.out)) : gb182 ≠ gb170)); clear BK170; clear HB; have BK170 := n0_; have HB := n1_; have BK182 := n2_; have GW182 := n3_; have GE182 := n4_; have NB170_182 := n5_; have NB182_170 := n6_; clear n0_ n1_ n2_ n3_ n4_ n5_ n6_; clear hb hbox hg; have hnb58 := NB182_170.out; have hnc58 := NB170_182.out; have hcz59_0 : w57.cell? ⟨gb182, 0, none⟩ = some (.int .i64 0) := (blk_cell BK182.out 0).trans rfl; have hcz59_1 : w57.cell? ⟨gb182, 1, none⟩ = some (.int .i64 0) := (blk_cell BK182.out 1).trans rfl; have hfz59_0 := blk_frozen BK182.out 0; have hfz59_1 := blk_frozen BK182.out 1; have hcz60_0 : w57.cell? ⟨gb170, 0, none⟩ = some (.slice A0_0 l0_0.length c0_0) := (blk_cell BK170.out 0).trans rfl; have hcz60_1 : w57.cell? ⟨gb170, 1, none⟩ = some (.slice (some ad179) l0_1.length c0_1) := (blk_cell BK170.out 1).trans rfl; have hfz60_0 := blk_frozen BK170.out 0; have hfz60_1 := blk_frozen BK170.out 1) | (go_at_call 48; (with_reducible refine (selfstabref01_Port.calls k4 _ _ l0_0 _ _ l0_1 ((rd_T58 (rd_L2 l0_1 x6_3) x7_4).f0) x6_3 t183 _ ?side1 ?side2 ?side3 ?side4 A35.out).mono ?_); (case side1 => exact Kd.C_below HR0_0.out (by repeat (first | (with_reducible first | exact HB.out | apply below_alloc | apply pw_below_drewN | apply below_drew1 | refine below_set ?_ GE170.out | refine below_set ?_ GE182.out) | exact HB.out))); (case side2 => exact HC0_0.out); (case side3 => exact Kd.C_below HR0_1.out (by repeat (first | (with_reducible first | exact HB.out | apply below_alloc | apply pw_below_drewN | apply below_drew1 | refine below_set ?_ GE170.out | refine below_set ?_ GE182.out) | exact HB.out))); (case side4 => exact HC0_1.out); rintro e w61 ⟨rfl, hb⟩; have n0_ := Aside0.mk (blk_below (g := gb170) (o := .cells #[.slice A0_0 l0_0.length c0_0, .slice (some ad179) l0_1.length c0_1] 25 (0, 0)) (by (with_reducible repeat (first | refine blk_drewN ?_ _ | refine blk_drew ?_ | refine blk_alloc ?_ _)); refine blk_far ?_ NB170_182.out _; (with_reducible repeat (first | refine blk_drewN ?_ _ | refine blk_drew ?_ | refine blk_alloc ?_ _)); refine blk_far ?_ NB170_182.out _; (with_reducible repeat (first | refine blk_drewN ?_ _ | refine blk_drew ?_ | refine blk_alloc ?_ _)); exact BK170.out) hb); have n1_ := Aside0.mk (blk_below (g := gb182) (o := .cells #[.int .i64 ((rd_T58 (rd_L2 l0_1 x6_3) x7_4).f0), .int .i64 ((rd_T58 (rd_L2 l0_1 x6_3) x7_4).f1)] 58 (0, 0)) (by (with_reducible repeat (first | refine blk_drewN ?_ _ | refine blk_drew ?_ | refine blk_alloc ?_ _)); refine blk_put (cs := #[.int .i64 ((rd_T58 (rd_L2 l0_1 x6_3) x7_4).f0), .int .i64 0]) ?_ 1 _ rfl; (with_reducible repeat (first | refine blk_drewN ?_ _ | refine blk_drew ?_ | refine blk_alloc ?_ _)); refine blk_put (cs := #[.int .i64 0, .int .i64 0]) ?_ 0 _ rfl; (with_reducible repeat (first | refine blk_drewN ?_ _ | refine blk_drew ?_ | refine blk_alloc ?_ _)); exact BK182.out) hb); have n2_ := Aside0.mk (below_step (by repeat (first | (with_reducible first | exact HB.out | apply below_alloc | apply pw_below_drewN | apply below_drew1 | refine below_set ?_ GE170.out | refine below_set ?_ GE182.out) | exact HB.out)) hb); clear BK170; clear BK182; clear HB; have BK170 := n0_; have BK182 := n1_; have HB := n2_; clear n0_ n1_ n2_; (try clear hb); (try clear hb2); (try clear hk); (try clear hi); have hcz62_0 : w61.cell? ⟨gb170, 0, none⟩ = some (.slice A0_0 l0_0.length c0_0) := (blk_cell BK170.out 0).trans rfl; have hcz62_1 : w61.cell? ⟨gb170, 1, none⟩ = some (.slice (some ad179) l0_1.length c0_1) := (blk_cell BK170.out 1).trans rfl; have hfz62_0 := blk_frozen BK170.out 0; have hfz62_1 := blk_frozen BK170.out 1; have hcz63_0 : w61.cell? ⟨gb182, 0, none⟩ = some (.int .i64 ((rd_T58 (rd_L2 l0_1 x6_3) x7_4).f0)) := (blk_cell BK182.out 0).trans rfl; have hcz63_1 : w61.cell? ⟨gb182, 1, none⟩ = some (.int .i64 ((rd_T58 (rd_L2 l0_1 x6_3) x7_4).f1)) := (blk_cell BK182.out 1).trans rfl; have hfz63_0 := blk_frozen BK182.out 0; have hfz63_1 := blk_frozen BK182.out 1; have p184 : 0 ≤ (((rd_T58 (rd_L2 l0_1 x6_3) x7_4).f0) : Int) := of_decide_eq_true (by first | (with_reducible assumption) | assumption); have q184 : ((rd_T58 (rd_L2 l0_1 x6_3) x7_4).f0) < (l0_1.length : Int) := of_decide_eq_true (by first | (with_reducible assumption) | assumption); obtain ⟨ad184, A184_0, c184_0, e184, hx184_0, hl184_0, hi184_0⟩ := at_L2 HR0_1.out ((rd_T58 (rd_L2 l0_1 x6_3) x7_4).f0) p184 q184; obtain rfl : ad179 = ad184 := (by injection e184); replace hx184_0 := (HB.out.cell (World.block_lt_of_cell? w _ hx184_0)).trans hx184_0; have HR184_0 := Aside0.mk hi184_0; have HC184_0 := Aside0.mk hl184_0; clear hi184_0 hl184_0; replace p184 := eq_true p184; replace q184 := eq_true q184; have p185 : 0 ≤ (t183 : Int) := of_decide_eq_true (by first | (with_reducible assumption) | assumption); have q185 : t183 < ((rd_L2 l0_1 ((rd_T58 (rd_L2 l0_1 x6_3) x7_4).f0)).length : Int) := of_decide_eq_true (by first | (with_reducible assumption) | assumption); obtain ⟨ad185, e185, hx185_0, hx185_1⟩ := at_T58 HR184_0.out t183 p185 q185; cases e185; replace hx185_0 := (HB.out.cell (World.block_lt_of_cell? w _ hx185_0)).trans hx185_0; replace hx185_1 := (HB.out.cell (World.block_lt_of_cell? w _ hx185_1)).trans hx185_1; replace p185 := eq_true p185; replace q185 := eq_true q185))
                                            repeat (go_quiet (first | ((with_reducible refine gate_dst (N := 8) rfl ?_); (try (refine gate_guard (by rfl) ?_; dsimp only)); refine box_event ?hg (N := 8) ?hd (cs := #[.int .i64 0, .int .i64 0]) (t := 58) ?hr ?_; (case hd => rfl); (case hg => rfl); (case hr => first | (go_simp; done) | (go_simp; rfl)); intro gb182 hg w57 hbox hb; have n0_ := Aside0.mk (blk_below (g := gb170) (o := .cells #[.slice A0_0 l0_0.length c0_0, .slice (some ad179) l0_1.length c0_1] 25 (0, 0)) (by (with_reducible repeat (first | refine blk_drewN ?_ _ | refine blk_drew ?_ | refine blk_alloc ?_ _)); exact BK170.out) hb); have n1_ := Aside0.mk (below_step (by repeat (first | (with_reducible first | exact HB.out | apply below_alloc | apply pw_below_drewN | apply below_drew1 | refine below_set ?_ GE170.out) | exact HB.out)) hb); have n2_ := Aside0.mk (hbox); have n3_ := Aside0.mk ((by rw [hg]; exact (below_size (by repeat (first | (with_reducible first | exact HB.out | apply below_alloc | apply pw_below_drewN | apply below_drew1 | refine below_set ?_ GE170.out) | exact HB.out))) : w.heap.size ≤ gb182)); have n4_ := Aside0.mk ((by rw [hg]; exact (below_size (by repeat (first | (with_reducible first | exact HB.out | apply below_alloc | apply pw_below_drewN | apply below_drew1 | refine below_set ?_ GE170.out) | exact HB.out))) : w.heap.size ≤ gb182)); have n5_ := Aside0.mk ((by rw [hg]; exact Nat.ne_of_lt (blk_lt (g := gb170) (o := .cells #[.slice A0_0 l0_0.length c0_0, .slice (some ad179) l0_1.length c0_1] 25 (0, 0)) (by (with_reducible repeat (first | refine blk_drewN ?_ _ | refine blk_drew ?_ | refine blk_alloc ?_ _)); exact BK170.out)) : gb170 ≠ gb182)); have n6_ := Aside0.mk ((by rw [hg]; exact Nat.ne_of_gt (blk_lt (g := gb170) (o := .cells #[.slice A0_0 l0_0.length c0_0, .slice (some ad179) l0_1.length c0_1] 25 (0, 0)) (by (with_reducible repeat (first | refine blk_drewN ?_ _ | refine blk_drew ?_ | refine blk_alloc ?_ _)); exact BK170.out)) : gb182 ≠ gb170)); clear BK170; clear HB; have BK170 := n0_; have HB := n1_; have BK182 := n2_; have GW182 := n3_; have GE182 := n4_; have NB170_182 := n5_; have NB182_170 := n6_; clear n0_ n1_ n2_ n3_ n4_ n5_ n6_; clear hb hbox hg; have hnb58 := NB182_170.out; have hnc58 := NB170_182.out; have hcz59_0 : w57.cell? ⟨gb182, 0, none⟩ = some (.int .i64 0) := (blk_cell BK182.out 0).trans rfl; have hcz59_1 : w57.cell? ⟨gb182, 1, none⟩ = some (.int .i64 0) := (blk_cell BK182.out 1).trans rfl; have hfz59_0 := blk_frozen BK182.out 0; have hfz59_1 := blk_frozen BK182.out 1; have hcz60_0 : w57.cell? ⟨gb170, 0, none⟩ = some (.slice A0_0 l0_0.length c0_0) := (blk_cell BK170.out 0).trans rfl; have hcz60_1 : w57.cell? ⟨gb170, 1, none⟩ = some (.slice (some ad179) l0_1.length c0_1) := (blk_cell BK170.out 1).trans rfl; have hfz60_0 := blk_frozen BK170.out 0; have hfz60_1 := blk_frozen BK170.out 1) | (go_at_call 48; (with_reducible refine (selfstabref01_Port.calls k4 _ _ l0_0 _ _ l0_1 ((rd_T58 (rd_L2 l0_1 x6_3) x7_4).f0) x6_3 t183 _ ?side1 ?side2 ?side3 ?side4 A35.out).mono ?_); (case side1 => exact Kd.C_below HR0_0.out (by repeat (first | (with_reducible first | exact HB.out | apply below_alloc | apply pw_below_drewN | apply below_drew1 | refine below_set ?_ GE170.out | refine below_set ?_ GE182.out) | exact HB.out))); (case side2 => exact HC0_0.out); (case side3 => exact Kd.C_below HR0_1.out (by repeat (first | (with_reducible first | exact HB.out | apply below_alloc | apply pw_below_drewN | apply below_drew1 | refine below_set ?_ GE170.out | refine below_set ?_ GE182.out) | exact HB.out))); (case side4 => exact HC0_1.out); rintro e w61 ⟨rfl, hb⟩; have n0_ := Aside0.mk (blk_below (g := gb170) (o := .cells #[.slice A0_0 l0_0.length c0_0, .slice (some ad179) l0_1.length c0_1] 25 (0, 0)) (by (with_reducible repeat (first | refine blk_drewN ?_ _ | refine blk_drew ?_ | refine blk_alloc ?_ _)); refine blk_far ?_ NB170_182.out _; (with_reducible repeat (first | refine blk_drewN ?_ _ | refine blk_drew ?_ | refine blk_alloc ?_ _)); refine blk_far ?_ NB170_182.out _; (with_reducible repeat (first | refine blk_drewN ?_ _ | refine blk_drew ?_ | refine blk_alloc ?_ _)); exact BK170.out) hb); have n1_ := Aside0.mk (blk_below (g := gb182) (o := .cells #[.int .i64 ((rd_T58 (rd_L2 l0_1 x6_3) x7_4).f0), .int .i64 ((rd_T58 (rd_L2 l0_1 x6_3) x7_4).f1)] 58 (0, 0)) (by (with_reducible repeat (first | refine blk_drewN ?_ _ | refine blk_drew ?_ | refine blk_alloc ?_ _)); refine blk_put (cs := #[.int .i64 ((rd_T58 (rd_L2 l0_1 x6_3) x7_4).f0), .int .i64 0]) ?_ 1 _ rfl; (with_reducible repeat (first | refine blk_drewN ?_ _ | refine blk_drew ?_ | refine blk_alloc ?_ _)); refine blk_put (cs := #[.int .i64 0, .int .i64 0]) ?_ 0 _ rfl; (with_reducible repeat (first | refine blk_drewN ?_ _ | refine blk_drew ?_ | refine blk_alloc ?_ _)); exact BK182.out) hb); have n2_ := Aside0.mk (below_step (by repeat (first | (with_reducible first | exact HB.out | apply below_alloc | apply pw_below_drewN | apply below_drew1 | refine below_set ?_ GE170.out | refine below_set ?_ GE182.out) | exact HB.out)) hb); clear BK170; clear BK182; clear HB; have BK170 := n0_; have BK182 := n1_; have HB := n2_; clear n0_ n1_ n2_; (try clear hb); (try clear hb2); (try clear hk); (try clear hi); have hcz62_0 : w61.cell? ⟨gb170, 0, none⟩ = some (.slice A0_0 l0_0.length c0_0) := (blk_cell BK170.out 0).trans rfl; have hcz62_1 : w61.cell? ⟨gb170, 1, none⟩ = some (.slice (some ad179) l0_1.length c0_1) := (blk_cell BK170.out 1).trans rfl; have hfz62_0 := blk_frozen BK170.out 0; have hfz62_1 := blk_frozen BK170.out 1; have hcz63_0 : w61.cell? ⟨gb182, 0, none⟩ = some (.int .i64 ((rd_T58 (rd_L2 l0_1 x6_3) x7_4).f0)) := (blk_cell BK182.out 0).trans rfl; have hcz63_1 : w61.cell? ⟨gb182, 1, none⟩ = some (.int .i64 ((rd_T58 (rd_L2 l0_1 x6_3) x7_4).f1)) := (blk_cell BK182.out 1).trans rfl; have hfz63_0 := blk_frozen BK182.out 0; have hfz63_1 := blk_frozen BK182.out 1; have p184 : 0 ≤ (((rd_T58 (rd_L2 l0_1 x6_3) x7_4).f0) : Int) := of_decide_eq_true (by first | (with_reducible assumption) | assumption); have q184 : ((rd_T58 (rd_L2 l0_1 x6_3) x7_4).f0) < (l0_1.length : Int) := of_decide_eq_true (by first | (with_reducible assumption) | assumption); obtain ⟨ad184, A184_0, c184_0, e184, hx184_0, hl184_0, hi184_0⟩ := at_L2 HR0_1.out ((rd_T58 (rd_L2 l0_1 x6_3) x7_4).f0) p184 q184; obtain rfl : ad179 = ad184 := (by injection e184); replace hx184_0 := (HB.out.cell (World.block_lt_of_cell? w _ hx184_0)).trans hx184_0; have HR184_0 := Aside0.mk hi184_0; have HC184_0 := Aside0.mk hl184_0; clear hi184_0 hl184_0; replace p184 := eq_true p184; replace q184 := eq_true q184; have p185 : 0 ≤ (t183 : Int) := of_decide_eq_true (by first | (with_reducible assumption) | assumption); have q185 : t183 < ((rd_L2 l0_1 ((rd_T58 (rd_L2 l0_1 x6_3) x7_4).f0)).length : Int) := of_decide_eq_true (by first | (with_reducible assumption) | assumption); obtain ⟨ad185, e185, hx185_0, hx185_1⟩ := at_T58 HR184_0.out t183 p185 q185; cases e185; replace hx185_0 := (HB.out.cell (World.block_lt_of_cell? w _ hx185_0)).trans hx185_0; replace hx185_1 := (HB.out.cell (World.block_lt_of_cell? w _ hx185_1)).trans hx185_1; replace p185 := eq_true p185; replace q185 := eq_true q185)); try go_wp2_with (first | ((with_reducible refine gate_dst (N := 8) rfl ?_); (try (refine gate_guard (by rfl) ?_; dsimp only)); refine box_event ?hg (N := 8) ?hd (cs := #[.int .i64 0, .int .i64 0]) (t := 58) ?hr ?_; (case hd => rfl); (case hg => rfl); (case hr => first | (go_simp; done) | (go_simp; rfl)); intro gb182 hg w57 hbox hb; have n0_ := Aside0.mk (blk_below (g := gb170) (o := .cells #[.slice A0_0 l0_0.length c0_0, .slice (some ad179) l0_1.length c0_1] 25 (0, 0)) (by (with_reducible repeat (first | refine blk_drewN ?_ _ | refine blk_drew ?_ | refine blk_alloc ?_ _)); exact BK170.out) hb); have n1_ := Aside0.mk (below_step (by repeat (first | (with_reducible first | exact HB.out | apply below_alloc | apply pw_below_drewN | apply below_drew1 | refine below_set ?_ GE170.out) | exact HB.out)) hb); have n2_ := Aside0.mk (hbox); have n3_ := Aside0.mk ((by rw [hg]; exact (below_size (by repeat (first | (with_reducible first | exact HB.out | apply below_alloc | apply pw_below_drewN | apply below_drew1 | refine below_set ?_ GE170.out) | exact HB.out))) : w.heap.size ≤ gb182)); have n4_ := Aside0.mk ((by rw [hg]; exact (below_size (by repeat (first | (with_reducible first | exact HB.out | apply below_alloc | apply pw_below_drewN | apply below_drew1 | refine below_set ?_ GE170.out) | exact HB.out))) : w.heap.size ≤ gb182)); have n5_ := Aside0.mk ((by rw [hg]; exact Nat.ne_of_lt (blk_lt (g := gb170) (o := .cells #[.slice A0_0 l0_0.length c0_0, .slice (some ad179) l0_1.length c0_1] 25 (0, 0)) (by (with_reducible repeat (first | refine blk_drewN ?_ _ | refine blk_drew ?_ | refine blk_alloc ?_ _)); exact BK170.out)) : gb170 ≠ gb182)); have n6_ := Aside0.mk ((by rw [hg]; exact Nat.ne_of_gt (blk_lt (g := gb170) (o := .cells #[.slice A0_0 l0_0.length c0_0, .slice (some ad179) l0_1.length c0_1] 25 (0, 0)) (by (with_reducible repeat (first | refine blk_drewN ?_ _ | refine blk_drew ?_ | refine blk_alloc ?_ _)); exact BK170.out)) : gb182 ≠ gb170)); clear BK170; clear HB; have BK170 := n0_; have HB := n1_; have BK182 := n2_; have GW182 := n3_; have GE182 := n4_; have NB170_182 := n5_; have NB182_170 := n6_; clear n0_ n1_ n2_ n3_ n4_ n5_ n6_; clear hb hbox hg; have hnb58 := NB182_170.out; have hnc58 := NB170_182.out; have hcz59_0 : w57.cell? ⟨gb182, 0, none⟩ = some (.int .i64 0) := (blk_cell BK182.out 0).trans rfl; have hcz59_1 : w57.cell? ⟨gb182, 1, none⟩ = some (.int .i64 0) := (blk_cell BK182.out 1).trans rfl; have hfz59_0 := blk_frozen BK182.out 0; have hfz59_1 := blk_frozen BK182.out 1; have hcz60_0 : w57.cell? ⟨gb170, 0, none⟩ = some (.slice A0_0 l0_0.length c0_0) := (blk_cell BK170.out 0).trans rfl; have hcz60_1 : w57.cell? ⟨gb170, 1, none⟩ = some (.slice (some ad179) l0_1.length c0_1) := (blk_cell BK170.out 1).trans rfl; have hfz60_0 := blk_frozen BK170.out 0; have hfz60_1 := blk_frozen BK170.out 1) | (go_at_call 48; (with_reducible refine (selfstabref01_Port.calls k4 _ _ l0_0 _ _ l0_1 ((rd_T58 (rd_L2 l0_1 x6_3) x7_4).f0) x6_3 t183 _ ?side1 ?side2 ?side3 ?side4 A35.out).mono ?_); (case side1 => exact Kd.C_below HR0_0.out (by repeat (first | (with_reducible first | exact HB.out | apply below_alloc | apply pw_below_drewN | apply below_drew1 | refine below_set ?_ GE170.out | refine below_set ?_ GE182.out) | exact HB.out))); (case side2 => exact HC0_0.out); (case side3 => exact Kd.C_below HR0_1.out (by repeat (first | (with_reducible first | exact HB.out | apply below_alloc | apply pw_below_drewN | apply below_drew1 | refine below_set ?_ GE170.out | refine below_set ?_ GE182.out) | exact HB.out))); (case side4 => exact HC0_1.out); rintro e w61 ⟨rfl, hb⟩; have n0_ := Aside0.mk (blk_below (g := gb170) (o := .cells #[.slice A0_0 l0_0.length c0_0, .slice (some ad179) l0_1.length c0_1] 25 (0, 0)) (by (with_reducible repeat (first | refine blk_drewN ?_ _ | refine blk_drew ?_ | refine blk_alloc ?_ _)); refine blk_far ?_ NB170_182.out _; (with_reducible repeat (first | refine blk_drewN ?_ _ | refine blk_drew ?_ | refine blk_alloc ?_ _)); refine blk_far ?_ NB170_182.out _; (with_reducible repeat (first | refine blk_drewN ?_ _ | refine blk_drew ?_ | refine blk_alloc ?_ _)); exact BK170.out) hb); have n1_ := Aside0.mk (blk_below (g := gb182) (o := .cells #[.int .i64 ((rd_T58 (rd_L2 l0_1 x6_3) x7_4).f0), .int .i64 ((rd_T58 (rd_L2 l0_1 x6_3) x7_4).f1)] 58 (0, 0)) (by (with_reducible repeat (first | refine blk_drewN ?_ _ | refine blk_drew ?_ | refine blk_alloc ?_ _)); refine blk_put (cs := #[.int .i64 ((rd_T58 (rd_L2 l0_1 x6_3) x7_4).f0), .int .i64 0]) ?_ 1 _ rfl; (with_reducible repeat (first | refine blk_drewN ?_ _ | refine blk_drew ?_ | refine blk_alloc ?_ _)); refine blk_put (cs := #[.int .i64 0, .int .i64 0]) ?_ 0 _ rfl; (with_reducible repeat (first | refine blk_drewN ?_ _ | refine blk_drew ?_ | refine blk_alloc ?_ _)); exact BK182.out) hb); have n2_ := Aside0.mk (below_step (by repeat (first | (with_reducible first | exact HB.out | apply below_alloc | apply pw_below_drewN | apply below_drew1 | refine below_set ?_ GE170.out | refine below_set ?_ GE182.out) | exact HB.out)) hb); clear BK170; clear BK182; clear HB; have BK170 := n0_; have BK182 := n1_; have HB := n2_; clear n0_ n1_ n2_; (try clear hb); (try clear hb2); (try clear hk); (try clear hi); have hcz62_0 : w61.cell? ⟨gb170, 0, none⟩ = some (.slice A0_0 l0_0.length c0_0) := (blk_cell BK170.out 0).trans rfl; have hcz62_1 : w61.cell? ⟨gb170, 1, none⟩ = some (.slice (some ad179) l0_1.length c0_1) := (blk_cell BK170.out 1).trans rfl; have hfz62_0 := blk_frozen BK170.out 0; have hfz62_1 := blk_frozen BK170.out 1; have hcz63_0 : w61.cell? ⟨gb182, 0, none⟩ = some (.int .i64 ((rd_T58 (rd_L2 l0_1 x6_3) x7_4).f0)) := (blk_cell BK182.out 0).trans rfl; have hcz63_1 : w61.cell? ⟨gb182, 1, none⟩ = some (.int .i64 ((rd_T58 (rd_L2 l0_1 x6_3) x7_4).f1)) := (blk_cell BK182.out 1).trans rfl; have hfz63_0 := blk_frozen BK182.out 0; have hfz63_1 := blk_frozen BK182.out 1; have p184 : 0 ≤ (((rd_T58 (rd_L2 l0_1 x6_3) x7_4).f0) : Int) := of_decide_eq_true (by first | (with_reducible assumption) | assumption); have q184 : ((rd_T58 (rd_L2 l0_1 x6_3) x7_4).f0) < (l0_1.length : Int) := of_decide_eq_true (by first | (with_reducible assumption) | assumption); obtain ⟨ad184, A184_0, c184_0, e184, hx184_0, hl184_0, hi184_0⟩ := at_L2 HR0_1.out ((rd_T58 (rd_L2 l0_1 x6_3) x7_4).f0) p184 q184; obtain rfl : ad179 = ad184 := (by injection e184); replace hx184_0 := (HB.out.cell (World.block_lt_of_cell? w _ hx184_0)).trans hx184_0; have HR184_0 := Aside0.mk hi184_0; have HC184_0 := Aside0.mk hl184_0; clear hi184_0 hl184_0; replace p184 := eq_true p184; replace q184 := eq_true q184; have p185 : 0 ≤ (t183 : Int) := of_decide_eq_true (by first | (with_reducible assumption) | assumption); have q185 : t183 < ((rd_L2 l0_1 ((rd_T58 (rd_L2 l0_1 x6_3) x7_4).f0)).length : Int) := of_decide_eq_true (by first | (with_reducible assumption) | assumption); obtain ⟨ad185, e185, hx185_0, hx185_1⟩ := at_T58 HR184_0.out t183 p185 q185; cases e185; replace hx185_0 := (HB.out.cell (World.block_lt_of_cell? w _ hx185_0)).trans hx185_0; replace hx185_1 := (HB.out.cell (World.block_lt_of_cell? w _ hx185_1)).trans hx185_1; replace p185 := eq_true p185; replace q185 := eq_true q185)))
                                            go_ret
                                            exact ⟨by first | rfl | (simp [errW_none, errW_some] <;> rfl) | (simp [*, errW_none, errW_some] <;> rfl), by repeat (first | (with_reducible first | exact HB.out | apply below_alloc | apply pw_below_drewN | apply below_drew1 | refine below_set ?_ GE170.out | refine below_set ?_ GE182.out) | exact HB.out)⟩
                                        · rw [if_neg c46] at H
                                          exact absurd H (by simp)
                                      · rw [if_neg c45] at H
                                        exact absurd H (by simp)
                                    · rw [if_neg c44] at H
                                      exact absurd H (by simp)
                                  · rw [if_neg c43] at H
                                    exact absurd H (by simp)
                              · rw [if_neg c34] at H
                                exact absurd H (by simp)
                            · rw [if_neg c33] at H
                              have c33b0 : decide (x7_4 < ((rd_L2 l0_1 x6_3).length : Int)) = false := decide_eq_false c33
                              clear c33
                              have H' := Aside0.mk H
                              clear H
                              have hcz64_0 : wr.cell? ⟨gb170, 0, none⟩ = some (.slice A0_0 l0_0.length c0_0) := (blk_cell BK170.out 0).trans rfl
                              have hcz64_1 : wr.cell? ⟨gb170, 1, none⟩ = some (.slice A0_1 l0_1.length c0_1) := (blk_cell BK170.out 1).trans rfl
                              have hfz64_0 := blk_frozen BK170.out 0
                              have hfz64_1 := blk_frozen BK170.out 1
                              have p179 : 0 ≤ (x6_3 : Int) := of_decide_eq_true (by first | (with_reducible assumption) | assumption)
                              have q179 : x6_3 < (l0_1.length : Int) := of_decide_eq_true (by first | (with_reducible assumption) | assumption)
                              obtain ⟨ad179, A179_0, c179_0, e179, hx179_0, hl179_0, hi179_0⟩ := at_L2 HR0_1.out x6_3 p179 q179
                              cases e179
                              replace hx179_0 := (HB.out.cell (World.block_lt_of_cell? w _ hx179_0)).trans hx179_0
                              have HR179_0 := Aside0.mk hi179_0
                              have HC179_0 := Aside0.mk hl179_0
                              clear hi179_0 hl179_0
                              replace p179 := eq_true p179
                              replace q179 := eq_true q179
                              go_wp2
                              repeat (go_quiet (fail); try go_wp2)
                              go_roundg k4
                              case measure => have := HJ1.out; have := HK2.out; have := HK3.out; have := HK4.out; omega
                              case rel => exact ⟨(wrap64 (x6_3 + 1)), (by first | rfl | (simp; done) | (simp [*]; done)), H', ⟨by have := HJ1.out; have := HK2.out; have := HK3.out; have := HK4.out; omega⟩, ⟨by (with_reducible repeat (first | refine blk_drewN ?_ _ | refine blk_drew ?_ | refine blk_alloc ?_ _)); exact BK170.out⟩, ⟨by repeat (first | (with_reducible first | exact HB.out | apply below_alloc | apply pw_below_drewN | apply below_drew1 | refine below_set ?_ GE170.out) | exact HB.out)⟩⟩
                          · rw [if_neg c32] at H
                            exact absurd H (by simp)
                        · rw [if_neg c31] at H
                          exact absurd H (by simp)
                  · rw [if_neg c30] at H
                    have c30b0 : decide (x6_3 < (l0_1.length : Int)) = false := decide_eq_false c30
                    clear c30
                    obtain rfl := Option.some.inj H
                    go_wp2
                    repeat (go_quiet (fail); try go_wp2)
                    go_ret
                    exact ⟨by first | rfl | (simp [errW_none, errW_some] <;> rfl) | (simp [*, errW_none, errW_some] <;> rfl), by repeat (first | (with_reducible first | exact HB.out | apply below_alloc | apply pw_below_drewN | apply below_drew1 | refine below_set ?_ GE170.out) | exact HB.out)⟩

end Go.Proofs.Ytmkpddhnnejfhaa.P
