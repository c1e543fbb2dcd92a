/- family.related and sized, at whatever closure. -/
import Derived.Test.YtilmpkoklkgjeaaP0
import Derived.Test.YtilmpkoklkgjeaaP2
import Derived.Test.YtilmpkoklkgjeaaGAre
namespace Go.Proofs.Ytilmpkoklkgjeaa.P
open Go.RowKit Go.Proofs.YtilmpkoklkgjeaaW.PrintWords Go.Proofs.YtilmpkoklkgjeaaW.PrintLast Go.Proofs.YtilmpkoklkgjeaaW.PrintMore
attribute [local go_sem] max2_int min2_int max_two min_two max_three min_three max_four min_four
set_option linter.unusedVariables false
set_option linter.unusedSimpArgs false

/-! ### family_related: function 67 -/
mutual
def family_related.l0 : Nat → Int → Are → Int → Int → List Int → List (List (S50)) → Option (List Int × (List (List (S50))))
  | 0, _, _, _, _, _, _ => none
  | k + 1, x0, x1, x10, x11, x176000, x176001 => if x11 < x10 then (family_related.l1 k x0 x1 x11 x10 x11 x0 0 x176000 x176001) else (some (x176000, x176001))
def family_related.l1 : Nat → Int → Are → Int → Int → Int → Int → Int → List Int → List (List (S50)) → Option (List Int × (List (List (S50))))
  | 0, _, _, _, _, _, _, _, _, _ => none
  | k + 1, x0, x1, x6, x10, x11, x14, x15, x176000, x176001 => if x15 < x14 then (if x15 = x6 then (family_related.l1 k x0 x1 x6 x10 x11 x14 (wrap64 (x15 + 1)) x176000 x176001) else ((x1 (mn x15 x6) (mx x15 x6)).bind fun t176 => (if t176 = true then (if 0 ≤ x6 then (if x6 < (x176001.length : Int) then (if (rd_L2 x176001 x6).length < 8796093022208 then (family_related.l1 k x0 x1 x6 x10 x11 x14 (wrap64 (x15 + 1)) x176000 (x176001.set (x6 : Int).toNat ((rd_L2 x176001 x6) ++ [(⟨x15, 1⟩ : S50)]))) else (none)) else (none)) else (none)) else (family_related.l1 k x0 x1 x6 x10 x11 x14 (wrap64 (x15 + 1)) x176000 x176001)))) else (family_related.l0 k x0 x1 x10 (wrap64 (x11 + 1)) x176000 x176001)
end
def family_related.f (k : Nat) (a0 : Int) (a1 : Are) : Option (List Int × (List (List (S50)))) := (family_empty.f k a0).bind fun bt169 => (family_related.l0 k a0 a1 a0 0 bt169.1 bt169.2)
theorem family_related.mono_l : ∀ k, (∀ y0 y1 y2 y3 y4 y5, LeO (family_related.l0 k y0 y1 y2 y3 y4 y5) (family_related.l0 (k + 1) y0 y1 y2 y3 y4 y5)) ∧ (∀ y0 y1 y2 y3 y4 y5 y6 y7 y8, LeO (family_related.l1 k y0 y1 y2 y3 y4 y5 y6 y7 y8) (family_related.l1 (k + 1) y0 y1 y2 y3 y4 y5 y6 y7 y8))
  | 0 => ⟨fun _ _ _ _ _ _ r h => by simp [family_related.l0] at h, fun _ _ _ _ _ _ _ _ _ r h => by simp [family_related.l1] at h⟩
  | k + 1 => by
    obtain ⟨ih0, ih1⟩ := family_related.mono_l k
    refine ⟨?_, ?_⟩
    · intro y0 y1 y2 y3 y4 y5
      unfold family_related.l0
      repeat' first
      | (with_reducible exact ih0 _ _ _ _ _ _)
      | (with_reducible exact ih1 _ _ _ _ _ _ _ _ _)
      | (with_reducible exact family_empty.mono _ _)
      | (with_reducible exact LeO.refl _)
      | (with_reducible exact LeO.none _)
      | (with_reducible refine LeO.ite ?_ ?_)
      | (with_reducible refine LeO.bind ?_ (fun _ => ?_))
      | exact ih0 _ _ _ _ _ _
      | exact ih1 _ _ _ _ _ _ _ _ _
      | exact family_empty.mono _ _
      | exact LeO.none _
      | refine LeO.ite ?_ ?_
      | refine LeO.bind ?_ (fun _ => ?_)
    · intro y0 y1 y2 y3 y4 y5 y6 y7 y8
      unfold family_related.l1
      repeat' first
      | (with_reducible exact ih0 _ _ _ _ _ _)
      | (with_reducible exact ih1 _ _ _ _ _ _ _ _ _)
      | (with_reducible exact family_empty.mono _ _)
      | (with_reducible exact LeO.refl _)
      | (with_reducible exact LeO.none _)
      | (with_reducible refine LeO.ite ?_ ?_)
      | (with_reducible refine LeO.bind ?_ (fun _ => ?_))
      | exact ih0 _ _ _ _ _ _
      | exact ih1 _ _ _ _ _ _ _ _ _
      | exact family_empty.mono _ _
      | exact LeO.none _
      | refine LeO.ite ?_ ?_
      | refine LeO.bind ?_ (fun _ => ?_)
theorem family_related.mono : ∀ a0 a1 k, LeO (family_related.f k a0 a1) (family_related.f (k + 1) a0 a1) := by
  intro a0 a1 k
  obtain ⟨ih0, ih1⟩ := family_related.mono_l k
  unfold family_related.f
  repeat' first
      | (with_reducible exact ih0 _ _ _ _ _ _)
      | (with_reducible exact ih1 _ _ _ _ _ _ _ _ _)
      | (with_reducible exact family_empty.mono _ _)
      | (with_reducible exact LeO.refl _)
      | (with_reducible exact LeO.none _)
      | (with_reducible refine LeO.ite ?_ ?_)
      | (with_reducible refine LeO.bind ?_ (fun _ => ?_))
      | exact ih0 _ _ _ _ _ _
      | exact ih1 _ _ _ _ _ _ _ _ _
      | exact family_empty.mono _ _
      | exact LeO.none _
      | refine LeO.ite ?_ ?_
      | refine LeO.bind ?_ (fun _ => ?_)
def family_related.T9 : Bool × List (List Nat × List Nat) := (true, [([], []), ([0], [0]), ([], []), ([], []), ([3], [3]), ([], []), ([4, 5], [4, 5]), ([6], [6]), ([], []), ([8], [8]), ([9], [9]), ([7, 10], [7, 10]), ([1, 2, 0, 1, 2, 3, 4, 5, 6, 7, 8, 9, 10, 11], [1, 2]), ([12, 11, 11, 0, 1, 2, 3, 4, 5, 6, 7, 8, 9, 10, 11], [11, 12])])
def family_related.B9 : List Nat := [0, 1, 0, 0, 8, 0, 56, 120, 0, 256, 768, 2040, 4095, 8191]
theorem family_related.tab9 : rtab .any (opsOf Try.f67 9) = family_related.T9 := by kernel_rfl
theorem family_related.bits9 : waitsOk family_related.T9.2 family_related.B9 = true := by kernel_rfl
set_option maxHeartbeats 8000000 in
set_option maxRecDepth 100000 in
theorem family_related.calls (k : Nat) (a0 : Int) (a1 : Are) (gf : Nat) (lb : Array Value) (r1 : List Int) (r2 : List (List (S50))) (w : World) (eg : ∀ args w, (callFunc gf args).run Try.prog w = .ok (.enter gf args) w) (hare : AreGives gf lb a1 w) (h : family_related.f k a0 a1 = some (r1, r2)) :
    Calls Try.prog 67 #[.int .i64 a0, .func (.func gf) #[] lb] w fun e w' => ∃ v0_ v1_ : Value, e = .returned (.agg #[v0_, v1_]) ∧ Kd.R (Kd.int .i64) 3 w' w.heap.size (fun _ => True) v0_ r1 ∧ Kd.S (Kd.slice 50 k50) 48 w' w.heap.size (fun _ => True) v1_ r2 ∧ Below w.heap.size w w' := by
  have hu26 := Try.underlying26
  have hu50 := Try.underlying50
  have HB := Aside0.mk (Below.refl w.heap.size w)
  have HARE := Aside0.mk hare
  clear hare
  have H : ((family_empty.f k a0).bind fun bt169 => (family_related.l0 k a0 a1 a0 0 bt169.1 bt169.2)) = some (r1, r2) := h
  clear h
  replace H := Option.bind_eq_some_iff.mp H
  obtain ⟨⟨t169, t172⟩, A30, H⟩ := H
  replace H : (family_related.l0 k a0 a1 a0 0 t169 t172) = some (r1, r2) := H
  have A3 := Aside0.mk A30
  clear A30
  have H' := Aside0.mk H
  clear H
  go_enter Try.func67, Try.ntmps67
  go_wp2_with (first | ((with_reducible refine gate_dst (N := 4) rfl ?_); (try (refine gate_guard (by rfl) ?_; dsimp only)); refine box_event ?hg (N := 4) ?hd (cs := #[.slice none 0 0, .slice none 0 0]) (t := 26) ?hr ?_; (case hd => rfl); (case hg => rfl); (case hr => first | (go_simp; done) | (go_simp; rfl)); intro gb168 hg w4 hbox hb; have n0_ := Aside0.mk (below_step (by repeat (first | (with_reducible first | exact HB.out | apply below_alloc | apply pw_below_drewN | apply below_drew1) | exact HB.out)) hb); have n1_ := Aside0.mk (hbox); have n2_ := Aside0.mk ((by rw [hg]; exact (below_size (by repeat (first | (with_reducible first | exact HB.out | apply below_alloc | apply pw_below_drewN | apply below_drew1) | exact HB.out))) : w.heap.size ≤ gb168)); have n3_ := Aside0.mk ((by rw [hg]; exact (below_size (by repeat (first | (with_reducible first | exact HB.out | apply below_alloc | apply pw_below_drewN | apply below_drew1) | exact HB.out))) : w.heap.size ≤ gb168)); clear HB; have HB := n0_; have BK168 := n1_; have GW168 := n2_; have GE168 := n3_; clear n0_ n1_ n2_ n3_; clear hb hbox hg) | ((with_reducible refine gate_callee (f := 41) rfl ?_); refine goesL_ (some 9) rfl rfl Try.func41 (by kernel_rfl) rfl #[.int .i64 a0] rfl (by (try simp only [List.map_toArray, List.map_cons, List.map_nil]); first | done | rfl | (simp only [List.length_drop, List.length_take]; rfl)) ?_; (with_reducible refine (family_empty.calls k a0 t169 t172 _ A3.out).mono ?_); rintro e w5 ⟨v170, v173, rfl, ho0, ho1, hb⟩; refine ⟨_, rfl, ?_⟩; have n0_ := Aside0.mk (Kd.R_lower ho0 (below_size (by repeat (first | (with_reducible first | exact HB.out | apply below_alloc | apply pw_below_drewN | apply below_drew1 | refine below_set ?_ GE168.out) | exact HB.out)))); have n1_ := Aside0.mk (Kd.S_lower ho1 (below_size (by repeat (first | (with_reducible first | exact HB.out | apply below_alloc | apply pw_below_drewN | apply below_drew1 | refine below_set ?_ GE168.out) | exact HB.out)))); have n2_ := Aside0.mk (blk_below (g := gb168) (o := .cells #[.slice none 0 0, .slice none 0 0] 26 (0, 0)) (by (with_reducible repeat (first | refine blk_drewN ?_ _ | refine blk_drew ?_ | refine blk_alloc ?_ _)); exact BK168.out) hb); have n3_ := Aside0.mk (below_step (by repeat (first | (with_reducible first | exact HB.out | apply below_alloc | apply pw_below_drewN | apply below_drew1 | refine below_set ?_ GE168.out) | exact HB.out)) hb); clear BK168; clear HB; have HO171 := n0_; have HO174 := n1_; have BK168 := n2_; have HB := n3_; clear n0_ n1_ n2_ n3_; (try clear hb); (try clear hb2); (try clear hk); (try clear hi); (try clear ho0); (try clear ho1)) | ((with_reducible refine gate_dst (N := 5) rfl ?_); (try (refine gate_guard (by rfl) ?_; dsimp only)); refine box_event ?hg (N := 5) ?hd (cs := #[.slice none 0 0, .slice none 0 0]) (t := 26) ?hr ?_; (case hd => rfl); (case hg => rfl); (case hr => first | (go_simp; done) | (go_simp; rfl)); intro gb175 hg w6 hbox hb; have n0_ := Aside0.mk (Kd.R_below (by (with_reducible repeat (first | apply Kd.R_alloc | apply Kd.R_drewN | apply Kd.R_drew)); exact HO171.out) hb); have n1_ := Aside0.mk (Kd.S_below (by (with_reducible repeat (first | apply Kd.S_alloc | apply Kd.S_drewN | apply Kd.S_drew)); exact HO174.out) hb); have n2_ := Aside0.mk (blk_below (g := gb168) (o := .cells #[.slice none 0 0, .slice none 0 0] 26 (0, 0)) (by (with_reducible repeat (first | refine blk_drewN ?_ _ | refine blk_drew ?_ | refine blk_alloc ?_ _)); exact BK168.out) hb); have n3_ := Aside0.mk (below_step (by repeat (first | (with_reducible first | exact HB.out | apply below_alloc | apply pw_below_drewN | apply below_drew1 | refine below_set ?_ GE168.out) | exact HB.out)) hb); have n4_ := Aside0.mk (hbox); have n5_ := Aside0.mk ((by rw [hg]; exact (below_size (by repeat (first | (with_reducible first | exact HB.out | apply below_alloc | apply pw_below_drewN | apply below_drew1 | refine below_set ?_ GE168.out) | exact HB.out))) : w.heap.size ≤ gb175)); have n6_ := Aside0.mk ((by rw [hg]; exact (below_size (by repeat (first | (with_reducible first | exact HB.out | apply below_alloc | apply pw_below_drewN | apply below_drew1 | refine below_set ?_ GE168.out) | exact HB.out))) : w.heap.size ≤ gb175)); have n7_ := Aside0.mk ((by rw [hg]; exact Nat.ne_of_lt (blk_lt (g := gb168) (o := .cells #[.slice none 0 0, .slice none 0 0] 26 (0, 0)) (by (with_reducible repeat (first | refine blk_drewN ?_ _ | refine blk_drew ?_ | refine blk_alloc ?_ _)); exact BK168.out)) : gb168 ≠ gb175)); have n8_ := Aside0.mk ((by rw [hg]; exact Nat.ne_of_gt (blk_lt (g := gb168) (o := .cells #[.slice none 0 0, .slice none 0 0] 26 (0, 0)) (by (with_reducible repeat (first | refine blk_drewN ?_ _ | refine blk_drew ?_ | refine blk_alloc ?_ _)); exact BK168.out)) : gb175 ≠ gb168)); clear HO171; clear HO174; clear BK168; clear HB; have HO171 := n0_; have HO174 := n1_; have BK168 := n2_; have HB := n3_; have BK175 := n4_; have GW175 := n5_; have GE175 := n6_; have NB168_175 := n7_; have NB175_168 := n8_; clear n0_ n1_ n2_ n3_ n4_ n5_ n6_ n7_ n8_; clear hb hbox hg; obtain ⟨Ao7, co7, eo7⟩ := Kd.R_slice HO171.out; subst eo7; have hnb8 := NB175_168.out; have hnc8 := NB168_175.out; have hcz9_0 : w6.cell? ⟨gb175, 0, none⟩ = some (.slice none 0 0) := (blk_cell BK175.out 0).trans rfl; have hcz9_1 : w6.cell? ⟨gb175, 1, none⟩ = some (.slice none 0 0) := (blk_cell BK175.out 1).trans rfl; have hfz9_0 := blk_frozen BK175.out 0; have hfz9_1 := blk_frozen BK175.out 1; obtain ⟨Ao10, co10, eo10⟩ := Kd.S_slice HO174.out; subst eo10))
  go_loopg [11] k (fun kq v11 w' => ∃ (x11_1 : Int) (x176001_1 : List (List (S50))) (u176001 : Value), v11 = .int .i64 x11_1 ∧ Aside0 (family_related.l0 kq a0 a1 a0 x11_1 t169 x176001_1 = some (r1, r2)) ∧ Aside0 (kq ≤ k) ∧ Aside0 (Kd.R (Kd.int .i64) 3 w' w.heap.size (fun _ => True) (.slice Ao7 t169.length co7) t169) ∧ Aside0 (Kd.S (Kd.slice 50 k50) 48 w' w.heap.size (fun _ => True) u176001 x176001_1) ∧ Aside0 (w'.heap[gb168]? = some (.cells #[(.slice none 0 0), (.slice none 0 0)] 26 (0, 0))) ∧ Aside0 (w'.heap[gb175]? = some (.cells #[(.slice Ao7 t169.length co7), u176001] 26 (0, 0))) ∧ Aside0 (Below w.heap.size w w'))
  case atStart => exact ⟨(0), (t172), (.slice Ao10 t172.length co10), (by first | rfl | (simp; done) | (simp [*]; done)), H', ⟨Nat.le_refl _⟩, ⟨by (with_reducible repeat (first | apply Kd.R_alloc | apply Kd.R_drewN | apply Kd.R_drew)); exact Kd.R_mono (Kd.R_far (p := ⟨gb175, 1, none⟩) (Kd.R_far (p := ⟨gb175, 0, none⟩) (Kd.R_types HO171.out BK175.out (by decide)) (fun _ hk => hk.2) (.slice Ao7 t169.length co7)) (fun _ hk => hk.2) (.slice Ao10 t172.length co10)) (fun _ hk => trivial)⟩, ⟨by (with_reducible repeat (first | apply Kd.S_alloc | apply Kd.S_drewN | apply Kd.S_drew)); exact Kd.S_mono (Kd.S_far (p := ⟨gb175, 1, none⟩) (Kd.S_far (p := ⟨gb175, 0, none⟩) (Kd.S_types HO174.out BK175.out (by decide)) (fun _ hk => hk.2) (.slice Ao7 t169.length co7)) (fun _ hk => hk.2) (.slice Ao10 t172.length co10)) (fun _ hk => trivial)⟩, ⟨by (with_reducible repeat (first | refine blk_drewN ?_ _ | refine blk_drew ?_ | refine blk_alloc ?_ _)); refine blk_far ?_ NB168_175.out _; (with_reducible repeat (first | refine blk_drewN ?_ _ | refine blk_drew ?_ | refine blk_alloc ?_ _)); refine blk_far ?_ NB168_175.out _; (with_reducible repeat (first | refine blk_drewN ?_ _ | refine blk_drew ?_ | refine blk_alloc ?_ _)); exact BK168.out⟩, ⟨by (with_reducible repeat (first | refine blk_drewN ?_ _ | refine blk_drew ?_ | refine blk_alloc ?_ _)); refine blk_put (cs := #[.slice Ao7 t169.length co7, .slice none 0 0]) ?_ 1 _ rfl; (with_reducible repeat (first | refine blk_drewN ?_ _ | refine blk_drew ?_ | refine blk_alloc ?_ _)); refine blk_put (cs := #[.slice none 0 0, .slice none 0 0]) ?_ 0 _ rfl; (with_reducible repeat (first | refine blk_drewN ?_ _ | refine blk_drew ?_ | refine blk_alloc ?_ _)); exact BK175.out⟩, ⟨by repeat (first | (with_reducible first | exact HB.out | apply below_alloc | apply pw_below_drewN | apply below_drew1 | refine below_set ?_ GE168.out | refine below_set ?_ GE175.out) | exact HB.out)⟩⟩
  case round =>
    clear H'
    try clear p2
    try clear c4
    try clear c6
    try clear c8
    try clear hcz9_0
    try clear hcz9_1
    try clear hfz9_0
    try clear hfz9_1
    obtain ⟨x11_1, x176001_1, u176001, rfl, HA, HK1, HO_176000, HO_176001, BK168, BK175, HB⟩ := hrel
    cases gk with
    | zero => exact absurd HA.out (by simp [family_related.l0])
    | succ k1 =>
      have H := HA.out
      clear HA
      simp only [family_related.l0] at H
      by_cases c11 : x11_1 < a0
      · rw [if_pos c11] at H
        have c11b0 : decide (x11_1 < a0) = true := decide_eq_true c11
        clear c11
        have H' := Aside0.mk H
        clear H
        go_wp2
        go_loopg [15] k1 (fun kq v15 w' => ∃ (x15_2 : Int) (x176001_2 : List (List (S50))) (u176001 : Value), v15 = .int .i64 x15_2 ∧ Aside0 (family_related.l1 kq a0 a1 x11_1 a0 x11_1 a0 x15_2 t169 x176001_2 = some (r1, r2)) ∧ Aside0 (kq ≤ k1) ∧ Aside0 (Kd.R (Kd.int .i64) 3 w' w.heap.size (fun _ => True) (.slice Ao7 t169.length co7) t169) ∧ Aside0 (Kd.S (Kd.slice 50 k50) 48 w' w.heap.size (fun _ => True) u176001 x176001_2) ∧ Aside0 (w'.heap[gb168]? = some (.cells #[(.slice none 0 0), (.slice none 0 0)] 26 (0, 0))) ∧ Aside0 (w'.heap[gb175]? = some (.cells #[(.slice Ao7 t169.length co7), u176001] 26 (0, 0))) ∧ Aside0 (Below w.heap.size w w'))
        case atStart => exact ⟨(0), (x176001_1), (u176001), (by first | rfl | (simp; done) | (simp [*]; done)), H', ⟨Nat.le_refl _⟩, ⟨by (with_reducible repeat (first | apply Kd.R_alloc | apply Kd.R_drewN | apply Kd.R_drew)); exact HO_176000.out⟩, ⟨by (with_reducible repeat (first | apply Kd.S_alloc | apply Kd.S_drewN | apply Kd.S_drew)); exact HO_176001.out⟩, ⟨by (with_reducible repeat (first | refine blk_drewN ?_ _ | refine blk_drew ?_ | refine blk_alloc ?_ _)); exact BK168.out⟩, ⟨by (with_reducible repeat (first | refine blk_drewN ?_ _ | refine blk_drew ?_ | refine blk_alloc ?_ _)); exact BK175.out⟩, ⟨by repeat (first | (with_reducible first | exact HB.out | apply below_alloc | apply pw_below_drewN | apply below_drew1 | refine below_set ?_ GE168.out | refine below_set ?_ GE175.out) | exact HB.out)⟩⟩
        case round =>
          clear H'
          try clear c1
          try clear p2
          try clear c4
          try clear c6
          try clear c8
          try clear c11
          try clear c11b0
          try clear hcz9_0
          try clear hcz9_1
          try clear hfz9_0
          try clear hfz9_1
          try clear p2
          obtain ⟨x15_2, x176001_2, u176001, rfl, HA, HK2, HO_176000, HO_176001, BK168, BK175, HB⟩ := hrel
          cases gk with
          | zero => exact absurd HA.out (by simp [family_related.l1])
          | succ k2 =>
            have H := HA.out
            clear HA
            simp only [family_related.l1] at H
            by_cases c12 : x15_2 < a0
            · rw [if_pos c12] at H
              have c12b0 : decide (x15_2 < a0) = true := decide_eq_true c12
              clear c12
              by_cases c13 : x15_2 = x11_1
              · rw [if_pos c13] at H
                have c13b0 : (x15_2 == x11_1) = true := beq_iff_eq.mpr c13
                have c13b1 : (x15_2 != x11_1) = false := bne_eq_false_iff_eq.mpr c13
                clear c13
                have H' := Aside0.mk H
                clear H
                go_wp2
                go_roundg k2
                case measure => have := HK1.out; have := HK2.out; omega
                case rel => exact ⟨(wrap64 (x15_2 + 1)), (x176001_2), (u176001), (by first | rfl | (simp; done) | (simp [*]; done)), H', ⟨by have := HK1.out; have := HK2.out; omega⟩, ⟨by (with_reducible repeat (first | apply Kd.R_alloc | apply Kd.R_drewN | apply Kd.R_drew)); exact HO_176000.out⟩, ⟨by (with_reducible repeat (first | apply Kd.S_alloc | apply Kd.S_drewN | apply Kd.S_drew)); exact HO_176001.out⟩, ⟨by (with_reducible repeat (first | refine blk_drewN ?_ _ | refine blk_drew ?_ | refine blk_alloc ?_ _)); exact BK168.out⟩, ⟨by (with_reducible repeat (first | refine blk_drewN ?_ _ | refine blk_drew ?_ | refine blk_alloc ?_ _)); exact BK175.out⟩, ⟨by repeat (first | (with_reducible first | exact HB.out | apply below_alloc | apply pw_below_drewN | apply below_drew1 | refine below_set ?_ GE168.out | refine below_set ?_ GE175.out) | exact HB.out)⟩⟩
              · rw [if_neg c13] at H
                have c13b0 : (x15_2 == x11_1) = false := beq_eq_false_iff_ne.mpr c13
                have c13b1 : (x15_2 != x11_1) = true := bne_iff_ne.mpr c13
                obtain ⟨ji14, hji14⟩ : ∃ j_ : Int, (mn x15_2 x11_1) = j_ := ⟨_, rfl⟩
                replace H : ((a1 (ji14) (mx x15_2 x11_1)).bind fun t176 => (if t176 = true then (if 0 ≤ x11_1 then (if x11_1 < (x176001_2.length : Int) then (if (rd_L2 x176001_2 x11_1).length < 8796093022208 then (family_related.l1 k2 a0 a1 x11_1 a0 x11_1 a0 (wrap64 (x15_2 + 1)) t169 (x176001_2.set (x11_1 : Int).toNat ((rd_L2 x176001_2 x11_1) ++ [(⟨x15_2, 1⟩ : S50)]))) else (none)) else (none)) else (none)) else (family_related.l1 k2 a0 a1 x11_1 a0 x11_1 a0 (wrap64 (x15_2 + 1)) t169 x176001_2))) = some (r1, r2) := by first | (rw [hji14] at H; exact H) | (simp only [hji14] at H ⊢; exact H)
                have hji14_ : (if x11_1 < x15_2 then x11_1 else x15_2) = ji14 := hji14
                obtain ⟨ji15, hji15⟩ : ∃ j_ : Int, (mx x15_2 x11_1) = j_ := ⟨_, rfl⟩
                replace H : ((a1 (ji14) (ji15)).bind fun t176 => (if t176 = true then (if 0 ≤ x11_1 then (if x11_1 < (x176001_2.length : Int) then (if (rd_L2 x176001_2 x11_1).length < 8796093022208 then (family_related.l1 k2 a0 a1 x11_1 a0 x11_1 a0 (wrap64 (x15_2 + 1)) t169 (x176001_2.set (x11_1 : Int).toNat ((rd_L2 x176001_2 x11_1) ++ [(⟨x15_2, 1⟩ : S50)]))) else (none)) else (none)) else (none)) else (family_related.l1 k2 a0 a1 x11_1 a0 x11_1 a0 (wrap64 (x15_2 + 1)) t169 x176001_2))) = some (r1, r2) := by first | (rw [hji15] at H; exact H) | (simp only [hji15] at H ⊢; exact H)
                have hji15_ : (if x15_2 < x11_1 then x11_1 else x15_2) = ji15 := hji15
                replace H := Option.bind_eq_some_iff.mp H
                obtain ⟨t176, A160, H⟩ := H
                replace H : (if t176 = true then (if 0 ≤ x11_1 then (if x11_1 < (x176001_2.length : Int) then (if (rd_L2 x176001_2 x11_1).length < 8796093022208 then (family_related.l1 k2 a0 a1 x11_1 a0 x11_1 a0 (wrap64 (x15_2 + 1)) t169 (x176001_2.set (x11_1 : Int).toNat ((rd_L2 x176001_2 x11_1) ++ [(⟨x15_2, 1⟩ : S50)]))) else (none)) else (none)) else (none)) else (family_related.l1 k2 a0 a1 x11_1 a0 x11_1 a0 (wrap64 (x15_2 + 1)) t169 x176001_2)) = some (r1, r2) := H
                have A16 := Aside0.mk A160
                clear A160
                by_cases c17 : t176 = true
                · subst c17
                  have H1 : (if 0 ≤ x11_1 then (if x11_1 < (x176001_2.length : Int) then (if (rd_L2 x176001_2 x11_1).length < 8796093022208 then (family_related.l1 k2 a0 a1 x11_1 a0 x11_1 a0 (wrap64 (x15_2 + 1)) t169 (x176001_2.set (x11_1 : Int).toNat ((rd_L2 x176001_2 x11_1) ++ [(⟨x15_2, 1⟩ : S50)]))) else (none)) else (none)) else (none)) = some (r1, r2) := by rw [if_pos rfl] at H; exact H
                  clear H
                  have H := H1
                  clear H1
                  by_cases c18 : 0 ≤ x11_1
                  · rw [if_pos c18] at H
                    have c18b0 : decide (0 ≤ x11_1) = true := decide_eq_true c18
                    clear c18
                    by_cases c19 : x11_1 < (x176001_2.length : Int)
                    · rw [if_pos c19] at H
                      have c19b0 : decide (x11_1 < (x176001_2.length : Int)) = true := decide_eq_true c19
                      clear c19
                      by_cases c20 : (rd_L2 x176001_2 x11_1).length < 8796093022208
                      · rw [if_pos c20] at H
                        have LMc20 := Aside0.mk c20
                        clear c20
                        obtain ⟨y178, hy178⟩ : ∃ y_ : List (S50), y_ = ((rd_L2 x176001_2 x11_1) ++ [(⟨x15_2, 1⟩ : S50)]) := ⟨_, rfl⟩
                        replace H : (family_related.l1 k2 a0 a1 x11_1 a0 x11_1 a0 (wrap64 (x15_2 + 1)) t169 (x176001_2.set (x11_1 : Int).toNat y178)) = some (r1, r2) := by first | (rw [hy178]; with_reducible exact H) | (have H2_ := (Option.bind_some _ _).symm.trans H; rw [hy178]; with_reducible exact H2_) | (have H2_ := (Option.bind_some _ _).symm.trans H; with_reducible exact H2_) | with_reducible exact H | (rw [hy178]; exact H) | exact H
                        have Ny178 := Aside0.mk hy178
                        clear hy178
                        obtain ⟨y181, hy181⟩ : ∃ y_ : List (List (S50)), y_ = (x176001_2.set (x11_1 : Int).toNat y178) := ⟨_, rfl⟩
                        replace H : (family_related.l1 k2 a0 a1 x11_1 a0 x11_1 a0 (wrap64 (x15_2 + 1)) t169 y181) = some (r1, r2) := by first | (rw [hy181]; with_reducible exact H) | (have H2_ := (Option.bind_some _ _).symm.trans H; rw [hy181]; with_reducible exact H2_) | (have H2_ := (Option.bind_some _ _).symm.trans H; with_reducible exact H2_) | with_reducible exact H | (rw [hy181]; exact H) | exact H
                        have Ny181 := Aside0.mk hy181
                        clear hy181
                        have H' := Aside0.mk H
                        clear H
                        try go_wp2_with (first | (go_at_fn gf; (with_reducible refine (AreGives.at HARE.out _ ji14 ji15 true (by repeat (first | (with_reducible first | exact HB.out | apply below_alloc | apply pw_below_drewN | apply below_drew1) | exact HB.out)) A16.out).mono ?_); rintro e w' ⟨rfl, ⟨nd, rfl⟩⟩; (try (rw [drewN_self wr]; generalize hq_ : World.drewN wr _ = wr; have n0_ : Aside0 (Kd.R (Kd.int .i64) 3 wr w.heap.size (fun _ => True) (.slice Ao7 t169.length co7) t169) := ⟨by rw [← hq_]; exact (by (with_reducible repeat (first | apply Kd.R_alloc | apply Kd.R_drewN | apply Kd.R_drew)); exact HO_176000.out)⟩; have n1_ : Aside0 (Kd.S (Kd.slice 50 k50) 48 wr w.heap.size (fun _ => True) u176001 x176001_2) := ⟨by rw [← hq_]; exact (by (with_reducible repeat (first | apply Kd.S_alloc | apply Kd.S_drewN | apply Kd.S_drew)); exact HO_176001.out)⟩; have n2_ : Aside0 (wr.heap[gb168]? = some (.cells #[.slice none 0 0, .slice none 0 0] 26 (0, 0))) := ⟨by rw [← hq_]; exact (by (with_reducible repeat (first | refine blk_drewN ?_ _ | refine blk_drew ?_ | refine blk_alloc ?_ _)); exact BK168.out)⟩; have n3_ : Aside0 (wr.heap[gb175]? = some (.cells #[.slice Ao7 t169.length co7, u176001] 26 (0, 0))) := ⟨by rw [← hq_]; exact (by (with_reducible repeat (first | refine blk_drewN ?_ _ | refine blk_drew ?_ | refine blk_alloc ?_ _)); exact BK175.out)⟩; have n4_ : Aside0 (Below w.heap.size w wr) := ⟨by rw [← hq_]; exact (by repeat (first | (with_reducible first | exact HB.out | apply below_alloc | apply pw_below_drewN | apply below_drew1 | refine below_set ?_ GE168.out | refine below_set ?_ GE175.out) | exact HB.out))⟩; clear HO_176000 HO_176001 BK168 BK175 HB hq_; have HO_176000 := n0_; have HO_176001 := n1_; have BK168 := n2_; have BK175 := n3_; have HB := n4_; clear n0_ n1_ n2_ n3_ n4_))))
                        have n0_ := Aside0.mk (Kd.R_drew HO_176000.out)
                        have n1_ := Aside0.mk (Kd.S_drew HO_176001.out)
                        have n2_ := Aside0.mk (blk_drew BK168.out)
                        have n3_ := Aside0.mk (blk_drew BK175.out)
                        have n4_ := Aside0.mk (below_drew1 HB.out)
                        clear HO_176000
                        clear HO_176001
                        clear BK168
                        clear BK175
                        clear HB
                        have HO_176000 := n0_
                        have HO_176001 := n1_
                        have BK168 := n2_
                        have BK175 := n3_
                        have HB := n4_
                        clear n0_ n1_ n2_ n3_ n4_
                        obtain ⟨Ao23, co23, eo23⟩ := Kd.S_slice HO_176001.out
                        (first | subst eo23 | (injection eo23 with f1_ f2_ f3_; have f4_ := f1_.symm; have f5_ := f3_.symm; clear f1_ f2_ f3_; subst f4_; subst f5_))
                        have p177 : 0 ≤ (x11_1 : Int) := of_decide_eq_true (by first | (with_reducible assumption) | assumption)
                        have q177 : x11_1 < (x176001_2.length : Int) := of_decide_eq_true (by first | (with_reducible assumption) | assumption)
                        (try (obtain ⟨Az177, cz177, ez177⟩ := Kd.S_slice HO_176001.out; subst ez177))
                        obtain ⟨ad177, A177_0, c177_0, e177, hx177_0, hl177_0, hi177_0⟩ := at_L2 (Kd.S_reads' HO_176001.out).2.2 x11_1 p177 q177
                        cases e177
                        obtain ⟨ce177, hce177, hMe177, hcc177⟩ := Kd.S_get HO_176001.out [] x11_1 p177 (by first | exact q177 | exact of_decide_eq_true (by first | (with_reducible assumption) | assumption) | (have e_ := (Kd.S_reads' HO_176001.out).1; omega))
                        obtain ⟨ve177_0, rfl, ge177_0⟩ := hMe177
                        have hv177_0 := hcc177 0 _ rfl
                        rw [Nat.add_zero, show ((Kd.slice 50 k50)).sz = 1 from rfl, Nat.mul_one] at hv177_0
                        replace hv177_0 := Option.some.inj (hv177_0.symm.trans hx177_0)
                        rw [hv177_0] at ge177_0
                        have HL177_0 := Aside0.mk (show Kd.R k50 50 _ _ _ _ (rd_L2 x176001_2 x11_1) from ge177_0)
                        clear hv177_0 ge177_0
                        have HX177_0 := Aside0.mk hx177_0
                        clear hcc177 hce177
                        have HR177_0 := Aside0.mk hi177_0
                        have HC177_0 := Aside0.mk hl177_0
                        clear hi177_0 hl177_0
                        replace p177 := eq_true p177
                        replace q177 := eq_true q177
                        obtain ⟨go24, co24, eo24, gb24, gl24, cl24, HG24⟩ := Kd.S_form HO_176001.out (by have h_ : (x11_1 : Int) < ((x176001_2.length : Int) : Int) := of_decide_eq_true (by first | (with_reducible assumption) | assumption); have h2_ : 0 ≤ (x11_1 : Int) := (of_decide_eq_true (by first | (with_reducible assumption) | assumption)); omega)
                        (first | cases eo24 | (injection eo24 with ea_ en_ ec_; (first | subst ea_ | (injection ea_ with ea_; subst ea_)); subst ec_; clear en_))
                        have GB24 := Aside0.mk gb24
                        have GG24 := Aside0.mk HG24
                        clear gb24 gl24 HG24
                        (first | simp only [add_plain] at hx177_0 | skip)
                        obtain ⟨oki24, ce24, hcl24, hM24, hcc24, _, _, hH24⟩ := Kd.S_elem HO_176001.out [] (x11_1 : Int) (of_decide_eq_true (by first | (with_reducible assumption) | assumption)) (by have h_ : (x11_1 : Int) < ((x176001_2.length : Int) : Int) := of_decide_eq_true (by first | (with_reducible assumption) | assumption); first | exact h_ | (have e_ := (Kd.S_reads' HO_176001.out).1; omega) | simpa using h_)
                        obtain ⟨ve24_0, rfl, ge24_0⟩ := hM24
                        have hv24 := hcc24 0 _ rfl
                        have hX24 := HX177_0.out
                        (try simp only [add_plain] at hX24)
                        (try simp only [Nat.add_zero] at hv24)
                        (try rw [show ((Kd.slice 50 k50)).sz = 1 from rfl, Nat.mul_one] at hv24)
                        replace hv24 := Option.some.inj (hv24.symm.trans hX24)
                        subst hv24
                        clear hX24 hcc24 hcl24
                        have UU24 := Aside0.mk (show Kd.R k50 50 _ w.heap.size oki24 (.slice A177_0 (rd_L2 x176001_2 x11_1).length c177_0) (rd_L2 x176001_2 x11_1) from ge24_0)
                        have HH24 := Aside0.mk hH24
                        have HN24 := Aside0.mk (Kd.S_reads' HO_176001.out).1
                        clear hH24 ge24_0
                        refine start_ (n := 14) (S := fun w' => w'.cell? ⟨gb175, 0, none⟩ = some (.slice Ao7 t169.length co7) ∧ w'.cell? ⟨gb175, 1, none⟩ = some (.slice (some ⟨go24, 0, none⟩) x176001_2.length co23) ∧ w'.cell? ⟨go24, (x11_1).toNat, none⟩ = some (.slice A177_0 (rd_L2 x176001_2 x11_1).length c177_0)) (ds := [13]) #[false, false, false, false, false, false, false, false, false, false, false, false, false, false] (by kernel_rfl) rfl rfl ⟨(blk_cell BK175.out 0).trans rfl, (blk_cell BK175.out 1).trans rfl, hx177_0⟩ (fun hHeld => ?_); refine with_tabW family_related.tab9 family_related.bits9 (fun HT_ HW_ => ?_)
                        generalize wr.drew = w22 at HO_176000 HO_176001 BK168 BK175 HB GG24 HH24 HL177_0 HR177_0 HX177_0 UU24 hx177_0 hHeld ⊢
                        refine pure_ (i := 0) (N := some 31) (v := ?_) (a' := ?_) #[true, false, false, false, false, false, false, false, false, false, false, false, false, false] rfl rfl (any_of HT_.out (by kernel_rfl)) (fun _ _ _ h => h) (Or.inl ⟨by rfl, ?_⟩) ?_ ?_
                        rotate_left
                        · intro w'
                          go_simp
                          with_reducible rfl
                        rotate_left
                        · simp only [Act.put, List.setIfInBounds_toArray, List.set_cons_zero, List.set_cons_succ, i64_w, i32_w]
                          rfl
                        refine pure_ (i := 2) (N := some 33) (v := ?_) (a' := ?_) #[true, false, true, false, false, false, false, false, false, false, false, false, false, false] rfl rfl (any_of HT_.out (by kernel_rfl)) (fun _ _ _ h => h) (Or.inl ⟨by rfl, ?_⟩) ?_ ?_
                        rotate_left
                        · intro w'
                          go_simp
                          with_reducible rfl
                        rotate_left
                        · simp only [Act.put, List.setIfInBounds_toArray, List.set_cons_zero, List.set_cons_succ, i64_w, i32_w]
                          rfl
                        refine pure_ (i := 3) (N := some 34) (v := ?_) (a' := ?_) #[true, false, true, true, false, false, false, false, false, false, false, false, false, false] rfl rfl (any_of HT_.out (by kernel_rfl)) (fun _ _ _ h => h) (Or.inl ⟨by rfl, ?_⟩) ?_ ?_
                        rotate_left
                        · intro w'
                          go_simp
                          with_reducible rfl
                        rotate_left
                        · simp only [Act.put, List.setIfInBounds_toArray, List.set_cons_zero, List.set_cons_succ, i64_w, i32_w]
                          rfl
                        refine pure_ (i := 5) (N := some 36) (v := ?_) (a' := ?_) #[true, false, true, true, false, true, false, false, false, false, false, false, false, false] rfl rfl (any_of HT_.out (by kernel_rfl)) (fun _ _ _ h => h) (Or.inl ⟨by rfl, ?_⟩) ?_ ?_
                        rotate_left
                        · intro w'
                          go_simp
                          with_reducible rfl
                        rotate_left
                        · simp only [Act.put, List.setIfInBounds_toArray, List.set_cons_zero, List.set_cons_succ, i64_w, i32_w]
                          rfl
                        refine pure_ (i := 8) (N := some 39) (v := ?_) (a' := ?_) #[true, false, true, true, false, true, false, false, true, false, false, false, false, false] rfl rfl (any_of HT_.out (by kernel_rfl)) (fun _ _ _ h => h) (Or.inl ⟨by rfl, ?_⟩) ?_ ?_
                        rotate_left
                        · intro w'
                          go_simp
                          with_reducible rfl
                        rotate_left
                        · simp only [Act.put, List.setIfInBounds_toArray, List.set_cons_zero, List.set_cons_succ, i64_w, i32_w]
                          rfl
                        refine pure_ (i := 9) (N := some 40) (v := ?_) (a' := ?_) #[true, false, true, true, false, true, false, false, true, true, false, false, false, false] rfl rfl (any_of HT_.out (by kernel_rfl)) (fun _ _ _ h => h) (Or.inl ⟨by rfl, ?_⟩) ?_ ?_
                        rotate_left
                        · intro w'
                          go_simp
                          with_reducible rfl
                        rotate_left
                        · simp only [Act.put, List.setIfInBounds_toArray, List.set_cons_zero, List.set_cons_succ, i64_w, i32_w]
                          rfl
                        refine take_ (i := 1) (N := some 32) (v := ?_) (a' := ?_) #[true, true, true, true, false, true, false, false, true, true, false, false, false, false] rfl rfl (take_ofW HT_.out HW_.out (by kernel_rfl)) (fun _ _ _ h => h) (Or.inl ⟨by rfl, ?_⟩) hHeld ?_ ?_
                        rotate_left
                        · rintro w' ⟨s0, s1, s2⟩
                          go_simp
                          with_reducible rfl
                        rotate_left
                        · simp only [Act.put, List.setIfInBounds_toArray, List.set_cons_zero, List.set_cons_succ, i64_w, i32_w]
                          rfl
                        refine take_ (i := 4) (N := some 35) (v := ?_) (a' := ?_) #[true, true, true, true, true, true, false, false, true, true, false, false, false, false] rfl rfl (take_ofW HT_.out HW_.out (by kernel_rfl)) (fun _ _ _ h => h) (Or.inl ⟨by rfl, ?_⟩) hHeld ?_ ?_
                        rotate_left
                        · rintro w' ⟨s0, s1, s2⟩
                          go_simp
                          with_reducible rfl
                        rotate_left
                        · simp only [Act.put, List.setIfInBounds_toArray, List.set_cons_zero, List.set_cons_succ, i64_w, i32_w]
                          rfl
                        refine pure_ (i := 6) (N := some 37) (v := ?_) (a' := ?_) #[true, true, true, true, true, true, true, false, true, true, false, false, false, false] rfl rfl (any_of HT_.out (by kernel_rfl)) (fun _ _ _ h => h) (Or.inl ⟨by rfl, ?_⟩) ?_ ?_
                        rotate_left
                        · intro w'
                          go_simp
                          with_reducible rfl
                        rotate_left
                        · simp only [Act.put, List.setIfInBounds_toArray, List.set_cons_zero, List.set_cons_succ, i64_w, i32_w]
                          rfl
                        refine take_ (i := 7) (N := some 38) (v := ?_) (a' := ?_) #[true, true, true, true, true, true, true, true, true, true, false, false, false, false] rfl rfl (take_ofW HT_.out HW_.out (by kernel_rfl)) (fun _ _ _ h => h) (Or.inl ⟨by rfl, ?_⟩) hHeld ?_ ?_
                        rotate_left
                        · rintro w' ⟨s0, s1, s2⟩
                          go_simp
                          with_reducible rfl
                        rotate_left
                        · simp only [Act.put, List.setIfInBounds_toArray, List.set_cons_zero, List.set_cons_succ, i64_w, i32_w]
                          rfl
                        refine one_ (i := 10) (N := some 41) #[true, true, true, true, true, true, true, true, true, true, true, false, false, false] rfl rfl (one_of HT_.out (by kernel_rfl)) (by decide) (fun K hK => ?_)
                        refine value_ (w1 := ?_) (v := ?_) (by rfl) rfl ?_ ?_
                        rotate_left 2
                        · go_simp
                          constructor
                          · rfl
                          · rfl
                        refine hK.out _ _ ⟨(blk_cell (blk_alloc BK175.out _) 0).trans rfl, (blk_cell (blk_alloc BK175.out _) 1).trans rfl, (World.cell?_alloc_lt _ _ _ (World.block_lt_of_cell? _ _ (hHeld.2.2))).trans (hHeld.2.2)⟩ (fun hHeld => ?_)
                        clear hK K
                        refine norm_ (a' := ?_) ?_ ?_
                        rotate_left
                        · show Act.put _ (some 41) _ = _
                          simp only [Act.put, List.setIfInBounds_toArray, List.set_cons_zero, List.set_cons_succ, i64_w, i32_w]
                          rfl
                        refine one_ (i := 11) (N := some 42) #[true, true, true, true, true, true, true, true, true, true, true, true, false, false] rfl rfl (one_of HT_.out (by kernel_rfl)) (by decide) (fun K hK => ?_)
                        refine Kd.R_append_step k50 (w0 := w) w.heap.size (by rfl) (.tmp 38) (.tmp 41) 48 50 (.agg #[(.int .i64 0), (.int .i64 0)]) 16 rfl Try.underlying48 info50 rfl (by decide) (by omega) (.slice A177_0 (rd_L2 x176001_2 x11_1).length c177_0) (rd_L2 x176001_2 x11_1) (⟨x15_2, 1⟩ : S50) [.int .i64 x15_2, .int .i64 1] (fun k_ => oki24 k_ ∨ ((fun _ => True)) k_ ∧ w22.heap.size ≤ k_) (fun _ => False) rfl rfl ?aP (fun _ hk => hk.elim) ?aF ?aO ?aB ?aS ?aL ?_
                        (case aP => exact k50_mkM _ _ _ (⟨x15_2, 1⟩ : S50))
                        (case aB => exact (by repeat (first | (with_reducible first | exact HB.out | apply below_alloc | apply pw_below_drewN | apply below_drew1 | refine below_set ?_ GE168.out | refine below_set ?_ GE175.out) | exact HB.out)))
                        (case aF => exact (fun k_ hk => .inr ⟨trivial, hk⟩))
                        (case aO => exact (by (with_reducible repeat (first | apply Kd.R_alloc | apply Kd.R_drewN | apply Kd.R_drew)); exact Kd.R_mono UU24.out (fun _ hk => .inl hk)))
                        (case aS => exact (below_size (by repeat (first | (with_reducible first | exact HB.out | apply below_alloc | apply pw_below_drewN | apply below_drew1 | refine below_set ?_ GE168.out | refine below_set ?_ GE175.out) | exact HB.out))))
                        (case aL => have := LMc20.out; omega)
                        intro v179 w25 ho hb hg hat
                        (first | have HS2_ := cell_grown hg (hHeld.2.2) (by first | (rw [add_block]; exact (fun e_ => ((HL177_0.out.1 _ e_.symm).2) rfl)) | (show some (Addr.add _ _).block ≠ _; rw [add_block]; exact (fun e_ => ((HL177_0.out.1 _ e_.symm).2) rfl)) | exact (fun e_ => ((HL177_0.out.1 _ e_.symm).2) rfl)) | have HS2_ := cell_grown hg (cell_unalloc (hHeld.2.2) (by first | (rw [add_block]; exact Kd.S_lt HO_176001.out _ rfl) | (show (Addr.add _ _).block < _; rw [add_block]; exact Kd.S_lt HO_176001.out _ rfl) | exact Kd.S_lt HO_176001.out _ rfl)) (by first | (rw [add_block]; exact (fun e_ => ((HL177_0.out.1 _ e_.symm).2) rfl)) | (show some (Addr.add _ _).block ≠ _; rw [add_block]; exact (fun e_ => ((HL177_0.out.1 _ e_.symm).2) rfl)) | exact (fun e_ => ((HL177_0.out.1 _ e_.symm).2) rfl)))
                        rw [← Ny178.out] at ho
                        have n0_ := Aside0.mk (Kd.R_over' (v := (.slice A177_0 (rd_L2 x176001_2 x11_1).length c177_0)) (by (with_reducible repeat (first | apply Kd.R_alloc | apply Kd.R_drewN | apply Kd.R_drew)); exact HO_176000.out) (Kd.R_typed HL177_0.out) (by decide) hg)
                        have n1_ := Aside0.mk (blk_grown (g := gb168) (o := .cells #[.slice none 0 0, .slice none 0 0] 26 (0, 0)) (by (with_reducible repeat (first | refine blk_drewN ?_ _ | refine blk_drew ?_ | refine blk_alloc ?_ _)); exact BK168.out) hg (Kd.R_ne HL177_0.out BK168.out (by decide)))
                        have n2_ := Aside0.mk (blk_grown (g := gb175) (o := .cells #[.slice Ao7 t169.length co7, .slice (some ⟨go24, 0, none⟩) x176001_2.length co23] 26 (0, 0)) (by (with_reducible repeat (first | refine blk_drewN ?_ _ | refine blk_drew ?_ | refine blk_alloc ?_ _)); exact BK175.out) hg (Kd.R_ne HL177_0.out BK175.out (by decide)))
                        have n3_ := Aside0.mk (hb)
                        have n4_ := Aside0.mk (Kd.H_grown (Kd.H_widen (by repeat (first | exact HH24.out | refine Kd.H_alloc ?_ _ | refine Kd.H_drewN ?_ _ | refine Kd.H_drew ?_))) hg (fun k_ e_ => .inl (UU24.out.1 k_ e_)))
                        have n5_ := Aside0.mk (ho)
                        clear HO_176000
                        clear BK168
                        clear BK175
                        clear HB
                        clear HH24
                        clear HO_176001
                        clear UU24
                        clear HL177_0
                        have HO_176000 := n0_
                        have BK168 := n1_
                        have BK175 := n2_
                        have HB := n3_
                        have HH24 := n4_
                        have HO180 := n5_
                        clear n0_ n1_ n2_ n3_ n4_ n5_
                        clear ho hb hg hat
                        have p21 : 0 ≤ (x11_1 : Int) := of_decide_eq_true (by first | (with_reducible assumption) | assumption)
                        have q21 : (x11_1 : Int) < ((x176001_2.length : Int) : Int) := of_decide_eq_true (by first | (with_reducible assumption) | assumption)
                        replace p21 := eq_true p21
                        replace q21 := eq_true q21
                        obtain ⟨Ao28, co28, eo28⟩ := Kd.R_slice HO180.out
                        (first | subst eo28 | (injection eo28 with f1_ f2_ f3_; have f4_ := f1_.symm; have f5_ := f3_.symm; clear f1_ f2_ f3_; subst f4_; subst f5_))
                        obtain ⟨_, _, hraw26, _, _, hcc26, _⟩ := Kd.H_raw HH24.out (of_decide_eq_true (by first | (with_reducible assumption) | assumption)) (by have h_ : (x11_1 : Int) < ((x176001_2.length : Int) : Int) := of_decide_eq_true (by first | (with_reducible assumption) | assumption); first | exact h_ | (have e_ := (HN24.out); omega) | simpa using h_)
                        obtain ⟨_, hfr26⟩ := Kd.H_at HH24.out (of_decide_eq_true (by first | (with_reducible assumption) | assumption)) (by have h_ : (x11_1 : Int) < ((x176001_2.length : Int) : Int) := of_decide_eq_true (by first | (with_reducible assumption) | assumption); first | exact h_ | (have e_ := (HN24.out); omega) | simpa using h_)
                        have hx26_0 := hcc26 0 _ rfl
                        have hf26_0 := hfr26 0
                        (try simp only [Nat.add_zero] at hx26_0 hf26_0)
                        (try rw [show ((Kd.slice 50 k50)).sz = 1 from rfl, Nat.mul_one] at hx26_0)
                        (try rw [show ((Kd.slice 50 k50)).sz = 1 from rfl, Nat.mul_one] at hf26_0)
                        have HP26 := Kd.S_seg0 HH24.out (of_decide_eq_true (by first | (with_reducible assumption) | assumption)) (by have h_ : (x11_1 : Int) < ((x176001_2.length : Int) : Int) := of_decide_eq_true (by first | (with_reducible assumption) | assumption); first | exact h_ | (have e_ := (HN24.out); omega) | simpa using h_) (seg := [.slice Ao28 y178.length co28]) (j := 0) (show 1 ≤ 1 from by decide) (x' := y178) (Kd.M_row HO180.out) (fun _ hk => hk)
                        (try simp only [show ((Kd.slice 50 k50)).sz = 1 from rfl, Nat.mul_one, Nat.add_zero] at HP26)
                        clear hcc26 hfr26
                        have HNB168_go24 := Aside0.mk (show gb168 ≠ go24 from by have h_ := Kd.R_ne hraw26 BK168.out (by decide); intro e_; exact h_ (by rw [e_]; rfl))
                        have HNB175_go24 := Aside0.mk (show gb175 ≠ go24 from by have h_ := Kd.R_ne hraw26 BK175.out (by decide); intro e_; exact h_ (by rw [e_]; rfl))
                        have HS26 := HP26.1
                        rw [← Ny181.out] at HS26
                        have HQ26 := Aside0.mk HS26
                        obtain ⟨_, hgg26⟩ := Kd.R_typed hraw26 go24 rfl
                        have GG26_ := Aside0.mk hgg26
                        clear HP26 HS26 hgg26
                        refine hK.out _ _ ⟨(blk_cell BK175.out 0).trans rfl, (blk_cell BK175.out 1).trans rfl, HS2_⟩ (fun hHeld => ?_)
                        clear hK K
                        refine norm_ (a' := ?_) ?_ ?_
                        rotate_left
                        · show Act.put _ (some 42) _ = _
                          simp only [Act.put, List.setIfInBounds_toArray, List.set_cons_zero, List.set_cons_succ, i64_w, i32_w]
                          rfl
                        refine pure_ (i := 12) (N := some 43) (v := ?_) (a' := ?_) #[true, true, true, true, true, true, true, true, true, true, true, true, true, false] rfl rfl (any_of HT_.out (by kernel_rfl)) (fun _ _ _ h => h) (Or.inl ⟨by rfl, ?_⟩) ?_ ?_
                        rotate_left
                        · intro w'
                          go_simp
                          with_reducible rfl
                        rotate_left
                        · simp only [Act.put, List.setIfInBounds_toArray, List.set_cons_zero, List.set_cons_succ, i64_w, i32_w]
                          rfl
                        refine last_ (i := 13) (N := none) #[true, true, true, true, true, true, true, true, true, true, true, true, true, true] rfl rfl (one_of HT_.out (by kernel_rfl)) (by decide) (fun K hK => ?_)
                        refine skip_ (w1 := ?_) (by rfl) rfl ?_ ?_
                        rotate_left
                        · go_simp
                          rfl
                        refine hK.out _ _ ?_
                        clear hK K
                        refine done_ (done_of HT_.out (by kernel_rfl)) ?_
                        try go_wp2
                        go_roundg k2
                        case measure => have := HK1.out; have := HK2.out; omega
                        case rel => exact ⟨(wrap64 (x15_2 + 1)), (y181), (.slice (some ⟨go24, 0, none⟩) x176001_2.length co23), (by first | rfl | (simp; done) | (simp [*]; done)), H', ⟨by have := HK1.out; have := HK2.out; omega⟩, ⟨by (with_reducible repeat (first | apply Kd.R_alloc | apply Kd.R_drewN | apply Kd.R_drew)); exact Kd.R_mono (Kd.R_far (p := ⟨go24, (x11_1 : Int).toNat, none⟩) (Kd.R_types HO_176000.out GG26_.out (by decide)) (fun _ hk => hk.2) (.slice Ao28 y178.length co28)) (fun _ hk => trivial)⟩, ⟨by (with_reducible repeat (first | apply Kd.S_alloc | apply Kd.S_drewN | apply Kd.S_drew)); exact HQ26.out⟩, ⟨by (with_reducible repeat (first | refine blk_drewN ?_ _ | refine blk_drew ?_ | refine blk_alloc ?_ _)); refine blk_far ?_ HNB168_go24.out _; (with_reducible repeat (first | refine blk_drewN ?_ _ | refine blk_drew ?_ | refine blk_alloc ?_ _)); exact BK168.out⟩, ⟨by (with_reducible repeat (first | refine blk_drewN ?_ _ | refine blk_drew ?_ | refine blk_alloc ?_ _)); refine blk_far ?_ HNB175_go24.out _; (with_reducible repeat (first | refine blk_drewN ?_ _ | refine blk_drew ?_ | refine blk_alloc ?_ _)); exact BK175.out⟩, ⟨by repeat (first | (with_reducible first | exact HB.out | apply below_alloc | apply pw_below_drewN | apply below_drew1 | refine below_set ?_ GB24.out | refine below_set ?_ GE168.out | refine below_set ?_ GE175.out) | exact HB.out)⟩⟩
                      · rw [if_neg c20] at H
                        exact absurd H (by simp)
                    · rw [if_neg c19] at H
                      exact absurd H (by simp)
                  · rw [if_neg c18] at H
                    exact absurd H (by simp)
                · replace c17 := Bool.eq_false_iff.mpr c17
                  subst c17
                  have H1 : (family_related.l1 k2 a0 a1 x11_1 a0 x11_1 a0 (wrap64 (x15_2 + 1)) t169 x176001_2) = some (r1, r2) := by rw [if_neg (show ¬ (false = true) by decide)] at H; exact H
                  clear H
                  have H := H1
                  clear H1
                  have H' := Aside0.mk H
                  clear H
                  go_wp2_with (first | (go_at_fn gf; (with_reducible refine (AreGives.at HARE.out _ ji14 ji15 false (by repeat (first | (with_reducible first | exact HB.out | apply below_alloc | apply pw_below_drewN | apply below_drew1) | exact HB.out)) A16.out).mono ?_); rintro e w' ⟨rfl, ⟨nd, rfl⟩⟩))
                  go_roundg k2
                  case measure => have := HK1.out; have := HK2.out; omega
                  case rel => exact ⟨(wrap64 (x15_2 + 1)), (x176001_2), (u176001), (by first | rfl | (simp; done) | (simp [*]; done)), H', ⟨by have := HK1.out; have := HK2.out; omega⟩, ⟨by (with_reducible repeat (first | apply Kd.R_alloc | apply Kd.R_drewN | apply Kd.R_drew)); exact HO_176000.out⟩, ⟨by (with_reducible repeat (first | apply Kd.S_alloc | apply Kd.S_drewN | apply Kd.S_drew)); exact HO_176001.out⟩, ⟨by (with_reducible repeat (first | refine blk_drewN ?_ _ | refine blk_drew ?_ | refine blk_alloc ?_ _)); exact BK168.out⟩, ⟨by (with_reducible repeat (first | refine blk_drewN ?_ _ | refine blk_drew ?_ | refine blk_alloc ?_ _)); exact BK175.out⟩, ⟨by repeat (first | (with_reducible first | exact HB.out | apply below_alloc | apply pw_below_drewN | apply below_drew1 | refine below_set ?_ GE168.out | refine below_set ?_ GE175.out) | exact HB.out)⟩⟩
            · rw [if_neg c12] at H
              have c12b0 : decide (x15_2 < a0) = false := decide_eq_false c12
              clear c12
              have H' := Aside0.mk H
              clear H
              go_wp2
              go_roundg k2
              case measure => have := HK1.out; have := HK2.out; omega
              case rel => exact ⟨(wrap64 (x11_1 + 1)), (x176001_2), (u176001), (by first | rfl | (simp; done) | (simp [*]; done)), H', ⟨by have := HK1.out; have := HK2.out; omega⟩, ⟨by (with_reducible repeat (first | apply Kd.R_alloc | apply Kd.R_drewN | apply Kd.R_drew)); exact HO_176000.out⟩, ⟨by (with_reducible repeat (first | apply Kd.S_alloc | apply Kd.S_drewN | apply Kd.S_drew)); exact HO_176001.out⟩, ⟨by (with_reducible repeat (first | refine blk_drewN ?_ _ | refine blk_drew ?_ | refine blk_alloc ?_ _)); exact BK168.out⟩, ⟨by (with_reducible repeat (first | refine blk_drewN ?_ _ | refine blk_drew ?_ | refine blk_alloc ?_ _)); exact BK175.out⟩, ⟨by repeat (first | (with_reducible first | exact HB.out | apply below_alloc | apply pw_below_drewN | apply below_drew1 | refine below_set ?_ GE168.out | refine below_set ?_ GE175.out) | exact HB.out)⟩⟩
      · rw [if_neg c11] at H
        have c11b0 : decide (x11_1 < a0) = false := decide_eq_false c11
        clear c11
        simp only [Option.some.injEq, Prod.mk.injEq] at H
        obtain ⟨rfl, rfl⟩ := H
        have hnb29 := NB175_168.out
        have hnc29 := NB168_175.out
        have hcz30_0 : wr.cell? ⟨gb175, 0, none⟩ = some (.slice Ao7 t169.length co7) := (blk_cell BK175.out 0).trans rfl
        have hcz30_1 : wr.cell? ⟨gb175, 1, none⟩ = some (u176001) := (blk_cell BK175.out 1).trans rfl
        have hfz30_0 := blk_frozen BK175.out 0
        have hfz30_1 := blk_frozen BK175.out 1
        have hcz31_0 : wr.cell? ⟨gb168, 0, none⟩ = some (.slice none 0 0) := (blk_cell BK168.out 0).trans rfl
        have hcz31_1 : wr.cell? ⟨gb168, 1, none⟩ = some (.slice none 0 0) := (blk_cell BK168.out 1).trans rfl
        have hfz31_0 := blk_frozen BK168.out 0
        have hfz31_1 := blk_frozen BK168.out 1
        obtain ⟨Ao32, co32, eo32⟩ := Kd.S_slice HO_176001.out
        subst eo32
        go_wp2
        refine bodyPost_ret (results_cell_row rfl _ _ gb168 26 #[.slice Ao7 t169.length co7, .slice Ao32 x176001_1.length co32] (0, 0) _ rfl (by (with_reducible repeat (first | refine blk_drewN ?_ _ | refine blk_drew ?_ | refine blk_alloc ?_ _)); refine blk_put (cs := #[.slice Ao7 t169.length co7, .slice none 0 0]) ?_ 1 _ rfl; (with_reducible repeat (first | refine blk_drewN ?_ _ | refine blk_drew ?_ | refine blk_alloc ?_ _)); refine blk_put (cs := #[.slice none 0 0, .slice none 0 0]) ?_ 0 _ rfl; (with_reducible repeat (first | refine blk_drewN ?_ _ | refine blk_drew ?_ | refine blk_alloc ?_ _)); exact BK168.out) Try.underlying26 rfl (by kernel_rfl)) rfl ?_
        exact ⟨_, _, by first | rfl | (simp [errW_none, errW_some] <;> rfl) | (simp [*, errW_none, errW_some] <;> rfl), by (with_reducible repeat (first | apply Kd.R_alloc | apply Kd.R_drewN | apply Kd.R_drew)); exact Kd.R_mono (Kd.R_far (p := ⟨gb168, 1, none⟩) (Kd.R_far (p := ⟨gb168, 0, none⟩) (Kd.R_types HO_176000.out BK168.out (by decide)) (fun _ hk => hk.2) (.slice Ao7 t169.length co7)) (fun _ hk => hk.2) (.slice Ao32 x176001_1.length co32)) (fun _ hk => trivial), by (with_reducible repeat (first | apply Kd.S_alloc | apply Kd.S_drewN | apply Kd.S_drew)); exact Kd.S_mono (Kd.S_far (p := ⟨gb168, 1, none⟩) (Kd.S_far (p := ⟨gb168, 0, none⟩) (Kd.S_types HO_176001.out BK168.out (by decide)) (fun _ hk => hk.2) (.slice Ao7 t169.length co7)) (fun _ hk => hk.2) (.slice Ao32 x176001_1.length co32)) (fun _ hk => trivial), by repeat (first | (with_reducible first | exact HB.out | apply below_alloc | apply pw_below_drewN | apply below_drew1 | refine below_set ?_ GE168.out | refine below_set ?_ GE175.out) | exact HB.out)⟩

/-! ### family_sized: function 44 -/
def family_sized.f (k : Nat) (a0 : Int) (a1 : Int) (a2 : Are) : Option (List Int × (List (List (S50))) × Int) := (family_within.f a0 a1 24).bind fun t183 => (if t183 = true then ((family_related.f k a0 a2).bind fun bt184 => (some (bt184.1, bt184.2, 0))) else (some (([] : List Int), ([] : List (List (S50))), 2)))
theorem family_sized.mono : ∀ a0 a1 a2 k, LeO (family_sized.f k a0 a1 a2) (family_sized.f (k + 1) a0 a1 a2) := by
  intro a0 a1 a2 k
  unfold family_sized.f
  repeat' first
      | (with_reducible exact family_related.mono _ _ _)
      | (with_reducible exact LeO.refl _)
      | (with_reducible exact LeO.none _)
      | (with_reducible refine LeO.ite ?_ ?_)
      | (with_reducible refine LeO.bind ?_ (fun _ => ?_))
      | exact family_related.mono _ _ _
      | exact LeO.none _
      | refine LeO.ite ?_ ?_
      | refine LeO.bind ?_ (fun _ => ?_)
set_option maxHeartbeats 8000000 in
set_option maxRecDepth 100000 in
theorem family_sized.calls (k : Nat) (a0 : Int) (a1 : Int) (a2 : Are) (gf : Nat) (lb : Array Value) (r1 : List Int) (r2 : List (List (S50))) (r3 : Int) (w : World) (eg : ∀ args w, (callFunc gf args).run Try.prog w = .ok (.enter gf args) w) (hare : AreGives gf lb a2 w) (h : family_sized.f k a0 a1 a2 = some (r1, r2, r3)) :
    Calls Try.prog 44 #[.int .i64 a0, .int .i64 a1, .func (.func gf) #[] lb] w fun e w' => ∃ v0_ v1_ : Value, e = .returned (.tuple #[.agg #[v0_, v1_], .int .i64 r3]) ∧ Kd.R (Kd.int .i64) 3 w' w.heap.size (fun _ => True) v0_ r1 ∧ Kd.S (Kd.slice 50 k50) 48 w' w.heap.size (fun _ => True) v1_ r2 ∧ Below w.heap.size w w' := by
  have hu26 := Try.underlying26
  have HB := Aside0.mk (Below.refl w.heap.size w)
  have HARE := Aside0.mk hare
  have HEG := Aside0.mk eg
  clear hare eg
  have H : ((family_within.f a0 a1 24).bind fun t183 => (if t183 = true then ((family_related.f k a0 a2).bind fun bt184 => (some (bt184.1, bt184.2, 0))) else (some (([] : List Int), ([] : List (List (S50))), 2)))) = some (r1, r2, r3) := h
  clear h
  replace H := Option.bind_eq_some_iff.mp H
  obtain ⟨t183, A40, H⟩ := H
  replace H : (if t183 = true then ((family_related.f k a0 a2).bind fun bt184 => (some (bt184.1, bt184.2, 0))) else (some (([] : List Int), ([] : List (List (S50))), 2))) = some (r1, r2, r3) := H
  have A4 := Aside0.mk A40
  clear A40
  by_cases c5 : t183 = true
  · subst c5
    have H1 : ((family_related.f k a0 a2).bind fun bt184 => (some (bt184.1, bt184.2, 0))) = some (r1, r2, r3) := by rw [if_pos rfl] at H; exact H
    clear H
    have H := H1
    clear H1
    replace H := Option.bind_eq_some_iff.mp H
    obtain ⟨⟨t184, t187⟩, A60, H⟩ := H
    replace H : (some (t184, t187, 0)) = some (r1, r2, r3) := H
    have A6 := Aside0.mk A60
    clear A60
    simp only [Option.some.injEq, Prod.mk.injEq] at H
    obtain ⟨rfl, rfl, rfl⟩ := H
    go_enter Try.func44, Try.ntmps44
    go_wp2_with (first | ((with_reducible refine gate_dst (N := 6) rfl ?_); refine box_event ?hg (N := 6) ?hd (cs := #[.slice none 0 0, .slice none 0 0]) (t := 26) ?hr ?_; (case hd => rfl); (case hg => rfl); (case hr => first | (go_simp; done) | (go_simp; rfl)); intro gb182 hg w7 hbox hb; have n0_ := Aside0.mk (below_step (by repeat (first | (with_reducible first | exact HB.out | apply below_alloc | apply pw_below_drewN | apply below_drew1) | exact HB.out)) hb); have n1_ := Aside0.mk (hbox); have n2_ := Aside0.mk ((by rw [hg]; exact (below_size (by repeat (first | (with_reducible first | exact HB.out | apply below_alloc | apply pw_below_drewN | apply below_drew1) | exact HB.out))) : w.heap.size ≤ gb182)); have n3_ := Aside0.mk ((by rw [hg]; exact (below_size (by repeat (first | (with_reducible first | exact HB.out | apply below_alloc | apply pw_below_drewN | apply below_drew1) | exact HB.out))) : w.heap.size ≤ gb182)); clear HB; have HB := n0_; have BK182 := n1_; have GW182 := n2_; have GE182 := n3_; clear n0_ n1_ n2_ n3_; clear hb hbox hg) | ((with_reducible refine gate_callee (f := 40) rfl ?_); refine goesL_ (some 10) rfl rfl Try.func40 (by kernel_rfl) rfl #[.int .i64 a0, .int .i64 a1, .int .i64 24] rfl (by (try simp only [List.map_toArray, List.map_cons, List.map_nil]); first | done | rfl | (simp only [List.length_drop, List.length_take]; rfl)) ?_; (with_reducible refine (family_within.calls a0 a1 24 true _ A4.out).mono ?_); rintro e w' ⟨rfl, ⟨nd, rfl⟩⟩; refine ⟨_, rfl, ?_⟩; (try (rw [drewN_self w7]; generalize hq_ : World.drewN w7 _ = w7; have n0_ : Aside0 (w7.heap[gb182]? = some (.cells #[.slice none 0 0, .slice none 0 0] 26 (0, 0))) := ⟨by rw [← hq_]; exact (by (with_reducible repeat (first | refine blk_drewN ?_ _ | refine blk_drew ?_ | refine blk_alloc ?_ _)); exact BK182.out)⟩; have n1_ : Aside0 (Below w.heap.size w w7) := ⟨by rw [← hq_]; exact (by repeat (first | (with_reducible first | exact HB.out | apply below_alloc | apply pw_below_drewN | apply below_drew1 | refine below_set ?_ GE182.out) | exact HB.out))⟩; clear BK182 HB hq_; have BK182 := n0_; have HB := n1_; clear n0_ n1_))) | ((with_reducible refine gate_callee (f := 67) rfl ?_); refine goesL_ (some 15) rfl rfl Try.func67 (by kernel_rfl) rfl #[.int .i64 a0, .func (.func gf) #[] lb] rfl (by (try simp only [List.map_toArray, List.map_cons, List.map_nil]); first | done | rfl | (simp only [List.length_drop, List.length_take]; rfl)) ?_; (with_reducible refine (family_related.calls k a0 a2 gf lb t184 t187 _ HEG.out (HARE.out.later (by repeat (first | (with_reducible first | exact HB.out | apply below_alloc | apply pw_below_drewN | apply below_drew1) | exact HB.out))) A6.out).mono ?_); rintro e w8 ⟨v185, v188, rfl, ho0, ho1, hb⟩; refine ⟨_, rfl, ?_⟩; have n0_ := Aside0.mk (Kd.R_lower ho0 (below_size (by repeat (first | (with_reducible first | exact HB.out | apply below_alloc | apply pw_below_drewN | apply below_drew1 | refine below_set ?_ GE182.out) | exact HB.out)))); have n1_ := Aside0.mk (Kd.S_lower ho1 (below_size (by repeat (first | (with_reducible first | exact HB.out | apply below_alloc | apply pw_below_drewN | apply below_drew1 | refine below_set ?_ GE182.out) | exact HB.out)))); have n2_ := Aside0.mk (blk_below (g := gb182) (o := .cells #[.slice none 0 0, .slice none 0 0] 26 (0, 0)) (by (with_reducible repeat (first | refine blk_drewN ?_ _ | refine blk_drew ?_ | refine blk_alloc ?_ _)); exact BK182.out) hb); have n3_ := Aside0.mk (below_step (by repeat (first | (with_reducible first | exact HB.out | apply below_alloc | apply pw_below_drewN | apply below_drew1 | refine below_set ?_ GE182.out) | exact HB.out)) hb); clear BK182; clear HB; have HO186 := n0_; have HO189 := n1_; have BK182 := n2_; have HB := n3_; clear n0_ n1_ n2_ n3_; (try clear hb); (try clear hb2); (try clear hk); (try clear hi); (try clear ho0); (try clear ho1); obtain ⟨Ao9, co9, eo9⟩ := Kd.R_slice HO186.out; subst eo9; have hcz10_0 : w8.cell? ⟨gb182, 0, none⟩ = some (.slice none 0 0) := (blk_cell BK182.out 0).trans rfl; have hcz10_1 : w8.cell? ⟨gb182, 1, none⟩ = some (.slice none 0 0) := (blk_cell BK182.out 1).trans rfl; have hfz10_0 := blk_frozen BK182.out 0; have hfz10_1 := blk_frozen BK182.out 1; obtain ⟨Ao11, co11, eo11⟩ := Kd.S_slice HO189.out; subst eo11))
    refine bodyPost_ret (results_ct rfl _ _ gb182 26 #[.slice Ao9 t184.length co9, .slice Ao11 t187.length co11] (0, 0) _ rfl (by (with_reducible repeat (first | refine blk_drewN ?_ _ | refine blk_drew ?_ | refine blk_alloc ?_ _)); refine blk_put (cs := #[.slice Ao9 t184.length co9, .slice none 0 0]) ?_ 1 _ rfl; (with_reducible repeat (first | refine blk_drewN ?_ _ | refine blk_drew ?_ | refine blk_alloc ?_ _)); refine blk_put (cs := #[.slice none 0 0, .slice none 0 0]) ?_ 0 _ rfl; (with_reducible repeat (first | refine blk_drewN ?_ _ | refine blk_drew ?_ | refine blk_alloc ?_ _)); exact BK182.out) Try.underlying26 rfl (by kernel_rfl)) rfl ?_
    exact ⟨_, _, by first | rfl | (simp [errW_none, errW_some] <;> rfl) | (simp [*, errW_none, errW_some] <;> rfl), by (with_reducible repeat (first | apply Kd.R_alloc | apply Kd.R_drewN | apply Kd.R_drew)); exact Kd.R_mono (Kd.R_far (p := ⟨gb182, 1, none⟩) (Kd.R_far (p := ⟨gb182, 0, none⟩) (Kd.R_types HO186.out BK182.out (by decide)) (fun _ hk => hk.2) (.slice Ao9 t184.length co9)) (fun _ hk => hk.2) (.slice Ao11 t187.length co11)) (fun _ hk => trivial), by (with_reducible repeat (first | apply Kd.S_alloc | apply Kd.S_drewN | apply Kd.S_drew)); exact Kd.S_mono (Kd.S_far (p := ⟨gb182, 1, none⟩) (Kd.S_far (p := ⟨gb182, 0, none⟩) (Kd.S_types HO189.out BK182.out (by decide)) (fun _ hk => hk.2) (.slice Ao9 t184.length co9)) (fun _ hk => hk.2) (.slice Ao11 t187.length co11)) (fun _ hk => trivial), by repeat (first | (with_reducible first | exact HB.out | apply below_alloc | apply pw_below_drewN | apply below_drew1 | refine below_set ?_ GE182.out) | exact HB.out)⟩
  · replace c5 := Bool.eq_false_iff.mpr c5
    subst c5
    have H1 : (some (([] : List Int), ([] : List (List (S50))), 2)) = some (r1, r2, r3) := by rw [if_neg (show ¬ (false = true) by decide)] at H; exact H
    clear H
    have H := H1
    clear H1
    simp only [Option.some.injEq, Prod.mk.injEq] at H
    obtain ⟨rfl, rfl, rfl⟩ := H
    go_enter Try.func44, Try.ntmps44
    go_wp2_with (first | ((with_reducible refine gate_dst (N := 6) rfl ?_); refine box_event ?hg (N := 6) ?hd (cs := #[.slice none 0 0, .slice none 0 0]) (t := 26) ?hr ?_; (case hd => rfl); (case hg => rfl); (case hr => first | (go_simp; done) | (go_simp; rfl)); intro gb182 hg w12 hbox hb; have n0_ := Aside0.mk (below_step (by repeat (first | (with_reducible first | exact HB.out | apply below_alloc | apply pw_below_drewN | apply below_drew1) | exact HB.out)) hb); have n1_ := Aside0.mk (hbox); have n2_ := Aside0.mk ((by rw [hg]; exact (below_size (by repeat (first | (with_reducible first | exact HB.out | apply below_alloc | apply pw_below_drewN | apply below_drew1) | exact HB.out))) : w.heap.size ≤ gb182)); have n3_ := Aside0.mk ((by rw [hg]; exact (below_size (by repeat (first | (with_reducible first | exact HB.out | apply below_alloc | apply pw_below_drewN | apply below_drew1) | exact HB.out))) : w.heap.size ≤ gb182)); clear HB; have HB := n0_; have BK182 := n1_; have GW182 := n2_; have GE182 := n3_; clear n0_ n1_ n2_ n3_; clear hb hbox hg) | ((with_reducible refine gate_callee (f := 40) rfl ?_); refine goesL_ (some 10) rfl rfl Try.func40 (by kernel_rfl) rfl #[.int .i64 a0, .int .i64 a1, .int .i64 24] rfl (by (try simp only [List.map_toArray, List.map_cons, List.map_nil]); first | done | rfl | (simp only [List.length_drop, List.length_take]; rfl)) ?_; (with_reducible refine (family_within.calls a0 a1 24 false _ A4.out).mono ?_); rintro e w' ⟨rfl, ⟨nd, rfl⟩⟩; refine ⟨_, rfl, ?_⟩; (try (rw [drewN_self w12]; generalize hq_ : World.drewN w12 _ = w12; have n0_ : Aside0 (w12.heap[gb182]? = some (.cells #[.slice none 0 0, .slice none 0 0] 26 (0, 0))) := ⟨by rw [← hq_]; exact (by (with_reducible repeat (first | refine blk_drewN ?_ _ | refine blk_drew ?_ | refine blk_alloc ?_ _)); exact BK182.out)⟩; have n1_ : Aside0 (Below w.heap.size w w12) := ⟨by rw [← hq_]; exact (by repeat (first | (with_reducible first | exact HB.out | apply below_alloc | apply pw_below_drewN | apply below_drew1 | refine below_set ?_ GE182.out) | exact HB.out))⟩; clear BK182 HB hq_; have BK182 := n0_; have HB := n1_; clear n0_ n1_)); have hcz13_0 : w12.cell? ⟨gb182, 0, none⟩ = some (.slice none 0 0) := (blk_cell BK182.out 0).trans rfl; have hcz13_1 : w12.cell? ⟨gb182, 1, none⟩ = some (.slice none 0 0) := (blk_cell BK182.out 1).trans rfl; have hfz13_0 := blk_frozen BK182.out 0; have hfz13_1 := blk_frozen BK182.out 1))
    refine bodyPost_ret (results_ct rfl _ _ gb182 26 #[.slice none 0 0, .slice none 0 0] (0, 0) _ rfl (by (with_reducible repeat (first | refine blk_drewN ?_ _ | refine blk_drew ?_ | refine blk_alloc ?_ _)); refine blk_put (cs := #[.slice none 0 0, .slice none 0 0]) ?_ 1 _ rfl; (with_reducible repeat (first | refine blk_drewN ?_ _ | refine blk_drew ?_ | refine blk_alloc ?_ _)); refine blk_put (cs := #[.slice none 0 0, .slice none 0 0]) ?_ 0 _ rfl; (with_reducible repeat (first | refine blk_drewN ?_ _ | refine blk_drew ?_ | refine blk_alloc ?_ _)); exact BK182.out) Try.underlying26 rfl (by kernel_rfl)) rfl ?_
    exact ⟨_, _, by first | rfl | (simp [errW_none, errW_some] <;> rfl) | (simp [*, errW_none, errW_some] <;> rfl), by first | exact Kd.R_nil _ _ _ _ _ | exact Kd.N_nil _ _ _ _ _ | exact Kd.V_nil _ _ _ _ _ | exact Kd.Q_nil _ _ _ _ _ | exact Kd.S_nil _ _ _ _ _, by first | exact Kd.S_nil _ _ _ _ _ | exact Kd.N_nil _ _ _ _ _ | exact Kd.V_nil _ _ _ _ _ | exact Kd.Q_nil _ _ _ _ _ | exact Kd.R_nil _ _ _ _ _, by repeat (first | (with_reducible first | exact HB.out | apply below_alloc | apply pw_below_drewN | apply below_drew1 | refine below_set ?_ GE182.out) | exact HB.out)⟩


end Go.Proofs.Ytilmpkoklkgjeaa.P
