/- graph.Valid of the program says just what 'ValidG' says: by walking its text. -/
import Derived.Test.YtilmpkoklkgjeaaGMaps
import Derived.Test.YtilmpkoklkgjeaaGLem
namespace Go.Proofs.Ytilmpkoklkgjeaa.P
open Go.RowKit Go.Proofs.YtilmpkoklkgjeaaW.PrintWords Go.Proofs.YtilmpkoklkgjeaaW.PrintLast Go.Proofs.YtilmpkoklkgjeaaW.PrintMore Go.Maps
set_option linter.unusedVariables false

theorem gv_cell {w : World} {b : Nat} {cs : Array Value} {t : TypeId} {fr : Nat × Nat} (h : w.heap[b]? = some (.cells cs t fr)) (j : Nat) (v : Value) (hv : cs[j]? = some v) : w.cell? ⟨b, j, none⟩ = some v := by
  simp [World.cell?, h, hv]

theorem ret_false {ids : List Int} {P : List (List Lk)} (h : ¬ ValidG ids P) : Ending.returned (.bool false) = .returned (.bool (validB ids P)) := by rw [validB_false h]
theorem ret_true {ids : List Int} {P : List (List Lk)} (h : ValidG ids P) : Ending.returned (.bool true) = .returned (.bool (validB ids P)) := by rw [validB_true h]
theorem at_prt {w : World} {A : Option Addr} {n : Nat} {P : List (List Lk)} (h : Kd.C (Kd.slice 50 k50) w A n P) (v : Nat) (hv : v < n) :
    ∃ ad A0 c0, A = some ad ∧ w.cell? (ad.add v) = some (.slice A0 (prt P v).length c0) ∧ (prt P v).length ≤ c0 ∧ k50.C w A0 (prt P v).length (prt P v) := by
  obtain ⟨ad, c, e, _, hK, hc0⟩ := Kd.C_get h ([] : List Lk) v (by omega) (by omega)
  have hc : ∀ j u, c[j]? = some u → w.cell? (ad.add ((v : Int).toNat * 1 + j)) = some u := hc0
  obtain ⟨A0, c0, rfl, l0, g0⟩ := hK
  have hq := hc 0 _ rfl
  rw [Nat.mul_one, Nat.add_zero, show ((v : Int).toNat) = v by omega] at hq
  exact ⟨ad, A0, c0, e, hq, l0, g0⟩
theorem at_lnk {w : World} {A : Option Addr} {n : Nat} {P : List (List Lk)} {v : Nat} (h : Kd.C k50 w A n (prt P v)) (i : Nat) (hi : i < n) :
    ∃ ad, A = some ad ∧ w.cell? (ad.add (i * 2)) = some (.int .i64 (lnk P v i).f0) ∧ w.cell? ⟨(ad.add (i * 2)).block, (ad.add (i * 2)).off + 1, none⟩ = some (.int .i64 (lnk P v i).f1) := by
  obtain ⟨ad, c, e, _, hK, hc0⟩ := Kd.C_get h z50 i (by omega) (by omega)
  have hc : ∀ j u, c[j]? = some u → w.cell? (ad.add (i * 2 + j)) = some u := hc0
  obtain rfl := k50_open hK
  exact ⟨ad, e, hc 0 _ rfl, by rw [← add_field _ _ 1 (by omega)]; exact hc 1 _ rfl⟩
/-- The first loop's invariant. -/
structure V1 (w wr : World) (v0 v1 : Value) (ids : List Int) (k : Nat) : Prop where
  le : k ≤ ids.length
  seen : SeenIs wr (w.heap.size + 1) (ids.take k)
  ok : okIds (ids.take k)
  below : Below w.heap.size w wr
  size : w.heap.size + 2 ≤ wr.heap.size
  box : wr.heap[w.heap.size]? = some (.cells #[v0, v1] 26 (0, 0))

/-- The second loops' invariant: nodes below v are done, and i links of node v. -/
structure V2 (w wr : World) (P : List (List Lk)) (b v i : Nat) : Prop where
  le : v ≤ P.length
  wts : WtIs wr b (v * 24 + i) (wOf P v i)
  done : ∀ u, u < v → okLinks P.length u (prt P u)
  ok : okLinks P.length v ((prt P v).take i)
  below : Below w.heap.size w wr
  base : w.heap.size ≤ b
  size : b < wr.heap.size

/-- The last loop's invariant. -/
structure V4 (w wr : World) (P : List (List Lk)) (b r : Nat) (left : Lit → Bool) (cnt : Nat) : Prop where
  rg : RgIs wr b r (P.length * 24) (wOf P P.length 0) left cnt
  todo : ∀ x y, (Lit.int .i64 x).wf = true → (Lit.int .i64 y).wf = true → wOf P P.length 0 x y ≠ 0 → left (endL x y) = true ∨ wOf P P.length 0 y x = wOf P P.length 0 x y
  old : ∀ x y, (Lit.int .i64 x).wf = true → (Lit.int .i64 y).wf = true → left (endL x y) = true → wOf P P.length 0 x y ≠ 0
  below : Below w.heap.size w wr
  at_ : b < r ∧ w.heap.size ≤ r ∧ r < wr.heap.size
theorem V2.below2 {w wr : World} {P : List (List Lk)} {b v i : Nat} (h : V2 w wr P b v i) (o1 o2 : Obj) : Below w.heap.size w ((wr.alloc o1).alloc o2) :=
  (h.below.alloc (by have := h.base; have := h.size; omega) _).alloc (by have := h.base; have := h.size; simp; omega) _
theorem V2.wts2 {w wr : World} {P : List (List Lk)} {b v i : Nat} (h : V2 w wr P b v i) (o1 o2 : Obj) : WtIs ((wr.alloc o1).alloc o2) b (v * 24 + i) (wOf P v i) :=
  (h.wts.kept (World.grownBy_alloc wr o1 none) (by simp)).kept (World.grownBy_alloc _ o2 none) (by simp)

set_option maxHeartbeats 4000000 in
set_option maxRecDepth 100000 in
theorem valid_main (A0_0 : Option Addr) (c0_0 : Nat) (l0_0 : List Int) (A0_1 : Option Addr) (c0_1 : Nat) (l0_1 : List (List Lk)) (w : World) (hr0_0 : Kd.C (Kd.int .i64) w A0_0 l0_0.length l0_0) (hr0_1 : Kd.C (Kd.slice 50 k50) w A0_1 l0_1.length l0_1)
    (h1 : 1 ≤ l0_1.length) (h2 : l0_1.length ≤ 24) (h3 : l0_0.length = l0_1.length) :
    Calls Try.prog 50 #[.agg #[.slice A0_0 l0_0.length c0_0, .slice A0_1 l0_1.length c0_1]] w fun e w' => e = .returned (.bool (validB l0_0 l0_1)) ∧ Below w.heap.size w w' := by
  have hu := Try.underlying26
  have hmm := @run_makeMap Try.prog
  have HR0 := Aside0.mk hr0_0
  have HR1 := Aside0.mk hr0_1
  clear hr0_0 hr0_1
  have a1 : decide ((l0_1.length : Int) < 1) = false := decide_eq_false (by omega)
  have a2 : decide (l0_1.length < 1) = false := decide_eq_false (by omega)
  have b1 : decide (24 < (l0_1.length : Int)) = false := decide_eq_false (by omega)
  have b2 : decide (24 < l0_1.length) = false := decide_eq_false (by omega)
  have d1 : ((l0_0.length : Int) != (l0_1.length : Int)) = false := bne_eq_false_iff_eq.mpr (by omega)
  have d2 : (l0_0.length != l0_1.length) = false := bne_eq_false_iff_eq.mpr h3
  have H3 := Aside0.mk h3
  have h4 : l0_0.length ≤ 24 := by omega
  clear h3
  go_enter Try.func50, Try.ntmps50
  go_wp2
  clear a1 a2 b1 b2 d1 d2
  go_loopw [35] (fun i wr => ∃ k : Nat, i = .int .i64 k ∧ Aside0 (V1 w wr (.slice A0_0 l0_0.length c0_0) (.slice A0_1 l0_1.length c0_1) l0_0 k)) (fun i _ => l0_0.length - (intOf i).toNat)
  case atStart =>
    refine ⟨0, by simp, ⟨⟨Nat.zero_le _, ?_, ⟨by simp, by simp⟩, ((Below.refl _ _).alloc (Nat.le_refl _) _).alloc (by simp) _, by simp, ?_⟩⟩⟩
    · have := SeenIs.made (w.alloc (.cells #[.slice A0_0 l0_0.length c0_0, .slice A0_1 l0_1.length c0_1] 26))
      simpa using this
    · rw [(MapKept.heap_alloc _ _).2 _ (by simp)]
      exact (MapKept.heap_alloc _ _).1
  case round =>
    obtain ⟨k, rfl, ⟨V⟩⟩ := hrel
    by_cases hlt : k < l0_0.length
    · obtain ⟨ad, rfl, hcell⟩ := Kd.at_int HR0.out k (by omega) (by omega)
      have hc0 := (V.below.cell (World.block_lt_of_cell? _ _ hcell)).trans hcell
      rw [show ((k : Int).toNat) = k by omega] at hc0
      clear hcell
      obtain ⟨x, hx⟩ : ∃ x, x = rd l0_0 k := ⟨_, rfl⟩
      rw [← hx] at hc0
      have HX := Aside0.mk hx
      clear hx
      have HV := Aside0.mk V
      clear V
      by_cases hx0 : x < 0
      · have hx1 : decide (x < 0) = true := decide_eq_true hx0
        go_wp2
        go_ret
        exact ⟨ret_false (fun hv => not_okIds_range hlt (.inl (HX.out ▸ hx0)) hv.2.2.2.1), HV.out.below⟩
      · have hx1 : decide (x < 0) = false := decide_eq_false hx0
        by_cases hx2 : 255 < x
        · have hx3 : decide (255 < x) = true := decide_eq_true hx2
          go_wp2
          go_ret
          exact ⟨ret_false (fun hv => not_okIds_range hlt (.inr (HX.out ▸ hx2)) hv.2.2.2.1), HV.out.below⟩
        · have hx3 : decide (255 < x) = false := decide_eq_false hx2
          have hwf : (Lit.int .i64 x).wf = true := WalkArith.wf_i64 (by omega)
          have hlook := HV.out.seen.look hwf
          by_cases hm : x ∈ l0_0.take k
          · rw [decide_eq_true hm] at hlook
            have HM := Aside0.mk hm
            clear hm
            go_wp2
            go_ret
            exact ⟨ret_false (fun hv => not_okIds_twice hlt (HX.out ▸ HM.out) hv.2.2.2.1), HV.out.below⟩
          · rw [decide_eq_false hm] at hlook
            have HM := Aside0.mk hm
            clear hm
            obtain ⟨w1, hup, hs1, hg1⟩ := HV.out.seen.add hwf (by rw [List.length_take]; omega)
            have HV1 : Aside0 (V1 w w1 (.slice (some ad) l0_0.length c0_0) (.slice A0_1 l0_1.length c0_1) l0_0 (k + 1)) :=
              ⟨⟨hlt, by rw [take_succ_rd l0_0 k hlt, ← HX.out]; exact hs1, okIds_step hlt HV.out.ok (by rw [← HX.out]; omega) (by rw [← HX.out]; omega) (by rw [← HX.out]; exact HM.out),
                HV.out.below.grown hg1 (Nat.le_trans (by omega) HV.out.size) (fun j hj => by cases hj; omega), Nat.le_trans HV.out.size hg1.size, (hg1.block _ (by have := HV.out.size; omega) (by simp)).trans HV.out.box⟩⟩
            clear hs1 hg1
            go_wp2
            go_roundw
            case rel => exact ⟨k + 1, by go_num, HV1⟩
            case measure => simp [intOf]; omega
    · have HV := Aside0.mk V
      have hbox : ∀ o, (wr.alloc o).cell? ⟨w.heap.size, 1, none⟩ = some (.slice A0_1 l0_1.length c0_1) := fun o => gv_cell (((MapKept.heap_alloc wr o).2 _ (by have := V.size; omega)).trans V.box) 1 _ rfl
      have hk : k = l0_0.length := by have := V.le; omega
      have hids : okIds l0_0 := by have := V.ok; rwa [hk, List.take_length] at this
      have HI := Aside0.mk hids
      clear V hk hids
      go_wp2
      obtain ⟨b2, hb2⟩ : ∃ b2, b2 = wr.heap.size := ⟨_, rfl⟩
      have W0 : Aside0 (V2 w (wr.alloc (.map #[] 0)) l0_1 b2 0 0) := ⟨⟨Nat.zero_le _, by rw [hb2, wOf_start]; exact WtIs.made wr, fun u hu => absurd hu (Nat.not_lt_zero _), ⟨by simp, by simp⟩, HV.out.below.alloc (by have := HV.out.size; omega) _, by have := HV.out.size; omega, by rw [hb2]; simp⟩⟩
      rw [← hb2]
      obtain ⟨w2, hw2⟩ : ∃ w2, w2 = wr.alloc (.map #[] 0) := ⟨_, rfl⟩
      rw [← hw2] at W0 ⊢
      clear hb2 hw2 hbox HV hlt
      go_loopw [57] (fun i wr => ∃ v : Nat, i = .int .i64 v ∧ Aside0 (V2 w wr l0_1 b2 v 0)) (fun i _ => l0_1.length - (intOf i).toNat)
      case atStart => exact ⟨0, by simp, W0⟩
      case round =>
        clear W0 w2
        obtain ⟨v, rfl, V⟩ := hrel
        by_cases hlt : v < l0_1.length
        · obtain ⟨ad, A0, c0, rfl, hcell, hlc, hrd⟩ := at_prt HR1.out v hlt
          have hc0 := (V.out.below.cell (World.block_lt_of_cell? _ _ hcell)).trans hcell
          have HRL := Aside0.mk hrd
          clear hcell hrd
          go_wp2
          clear hc0
          go_loopw [64] (fun i wr => ∃ i' : Nat, i = .int .i64 i' ∧ i' ≤ (prt l0_1 v).length ∧ Aside0 (V2 w wr l0_1 b2 v i')) (fun i _ => (prt l0_1 v).length - (intOf i).toNat)
          case atStart => exact ⟨0, by simp, Nat.zero_le _, V⟩
          case round =>
            clear V
            obtain ⟨i, rfl, hil, V⟩ := hrel
            have hi24 : i ≤ 24 := by have := okLinks_le V.out.ok; rw [List.length_take] at this; omega
            by_cases hilt : i < (prt l0_1 v).length
            · obtain ⟨ae, rfl, hcell, hcell1⟩ := at_lnk HRL.out i hilt
              have e0 := (V.out.below.cell (World.block_lt_of_cell? _ _ hcell)).trans hcell
              have e1 := (V.out.below.cell (World.block_lt_of_cell? _ _ hcell1)).trans hcell1
              clear hcell hcell1
              obtain ⟨tt, hto⟩ : ∃ tt, tt = (lnk l0_1 v i).f0 := ⟨_, rfl⟩
              obtain ⟨we, hwe⟩ : ∃ we, we = (lnk l0_1 v i).f1 := ⟨_, rfl⟩
              rw [← hto] at e0
              rw [← hwe] at e1
              have HT := Aside0.mk hto
              have HW := Aside0.mk hwe
              clear hto hwe
              have HB2 := Aside0.mk (V.out.below2 (.cells #[.int .i64 tt, .int .i64 we] 50) (.cells #[.int .i64 v, .int .i64 tt] 74))
              by_cases q1 : tt < 0
              · have q1b : decide (tt < 0) = true := decide_eq_true q1
                go_wp2
                go_ret
                exact ⟨ret_false fun hv => not_okLinks_range hilt (.inl (HT.out ▸ q1)) (hv.2.2.2.2.1 v hlt), HB2.out⟩
              have q1b : decide (tt < 0) = false := decide_eq_false q1
              by_cases q2 : (l0_1.length : Int) ≤ tt
              · have q2b : decide ((l0_1.length : Int) ≤ tt) = true := decide_eq_true q2
                go_wp2
                go_ret
                exact ⟨ret_false fun hv => not_okLinks_range hilt (.inr (.inl (HT.out ▸ q2))) (hv.2.2.2.2.1 v hlt), HB2.out⟩
              have q2b : decide ((l0_1.length : Int) ≤ tt) = false := decide_eq_false q2
              by_cases q3 : tt = (v : Int)
              · have q3b : (tt == (v : Int)) = true := beq_iff_eq.mpr q3
                have Q3 := Aside0.mk q3
                clear q3
                go_wp2
                go_ret
                exact ⟨ret_false fun hv => not_okLinks_range hilt (.inr (.inr (.inl (HT.out ▸ Q3.out)))) (hv.2.2.2.2.1 v hlt), HB2.out⟩
              have q3b : (tt == (v : Int)) = false := beq_eq_false_iff_ne.mpr q3
              by_cases q4 : we < 1
              · have q4b : decide (we < 1) = true := decide_eq_true q4
                go_wp2
                go_ret
                exact ⟨ret_false fun hv => not_okLinks_range hilt (.inr (.inr (.inr (.inl (HW.out ▸ q4))))) (hv.2.2.2.2.1 v hlt), HB2.out⟩
              have q4b : decide (we < 1) = false := decide_eq_false q4
              by_cases q5 : 15 < we
              · have q5b : decide (15 < we) = true := decide_eq_true q5
                go_wp2
                go_ret
                exact ⟨ret_false fun hv => not_okLinks_range hilt (.inr (.inr (.inr (.inr (HW.out ▸ q5))))) (hv.2.2.2.2.1 v hlt), HB2.out⟩
              have q5b : decide (15 < we) = false := decide_eq_false q5
              have wfv : (Lit.int .i64 (v : Int)).wf = true := WalkArith.wf_i64 (by omega)
              have wft : (Lit.int .i64 tt).wf = true := WalkArith.wf_i64 (by omega)
              have wfw : (Lit.int .i64 we).wf = true := WalkArith.wf_i64 (by omega)
              have HWt := Aside0.mk (V.out.wts2 (.cells #[.int .i64 tt, .int .i64 we] 50) (.cells #[.int .i64 v, .int .i64 tt] 74))
              have hlook := HWt.out.look wfv wft
              unfold endV at hlook
              by_cases q6 : wOf l0_1 v i v tt = 0
              · rw [q6] at hlook
                obtain ⟨w3, hup, hs3, hg3⟩ := HWt.out.add wfv wft wfw (by omega) (by have := okLinks_le V.out.ok; rw [List.length_take] at this; omega)
                unfold endV at hup
                have HV3 : Aside0 (V2 w w3 l0_1 b2 v (i + 1)) := ⟨by
                  have hst := okLinks_step (n := l0_1.length) hilt V.out.ok (by rw [← HT.out]; omega) (by rw [← HT.out]; omega) (by rw [← HT.out]; exact q3) (by rw [← HW.out]; omega) (by rw [← HW.out]; omega) (by rw [← HT.out]; exact q6)
                  refine ⟨V.out.le, ?_, V.out.done, hst.1, HB2.out.grown hg3 (by have := V.out.base; have := V.out.size; simp; omega) (fun j hj => by cases hj; exact V.out.base), V.out.base, Nat.lt_of_lt_of_le (by have := V.out.size; simp; omega) hg3.size⟩
                  rw [hst.2, ← HT.out, ← HW.out]
                  exact hs3⟩
                have Q6 := Aside0.mk q6
                clear hs3 hg3 q6
                go_wp2
                go_roundw
                case rel => exact ⟨i + 1, by go_num, by omega, HV3⟩
                case measure => simp [intOf]; omega
              · have q6b : (wOf l0_1 v i v tt != 0) = true := bne_iff_ne.mpr q6
                have q6c : (wOf l0_1 v i v tt == 0) = false := beq_eq_false_iff_ne.mpr q6
                have Q6 := Aside0.mk (show wOf l0_1 v i v (lnk l0_1 v i).f0 ≠ 0 from HT.out ▸ q6)
                clear q6
                go_wp2
                go_ret
                exact ⟨ret_false fun hv => not_okLinks_twice hilt V.out.ok Q6.out (hv.2.2.2.2.1 v hlt), HB2.out⟩
            · have hie : i = (prt l0_1 v).length := by omega
              have HV3 : Aside0 (V2 w wr l0_1 b2 (v + 1) 0) := ⟨⟨hlt, by rw [← wOf_next l0_1 v i hie]; exact V.out.wts.mono (by omega), fun u hu => by
                by_cases e : u = v
                · subst e
                  have := V.out.ok
                  rwa [hie, List.take_length] at this
                · exact V.out.done u (by omega), ⟨by simp, by simp⟩, V.out.below, V.out.base, V.out.size⟩⟩
              clear hie
              go_wp2
              go_roundw
              case rel => exact ⟨v + 1, by go_num, HV3⟩
              case measure => simp [intOf]; omega
        · have hve : v = l0_1.length := by have := V.out.le; omega
          have hdone : ∀ u, u < l0_1.length → okLinks l0_1.length u (prt l0_1 u) := hve ▸ V.out.done
          have hw : WtIs wr b2 (l0_1.length * 24) (wOf l0_1 l0_1.length 0) := hve ▸ V.out.wts
          have HD := Aside0.mk hdone
          have HWt := Aside0.mk hw
          have HBl := Aside0.mk V.out.below
          have HSz := Aside0.mk V.out.size
          have HBs := Aside0.mk V.out.base
          clear hdone hw V hve
          go_wp2_with (first
            | (at_range; refine wpList_range_wt _ rfl _ rfl b2 _ _ rfl HWt.out ?_; intro w5 left0 cnt0 hrg0 hl0 hg0 hs0)
            | go_in)
          go_frame
          have HR5 := Aside0.mk hrg0
          have HL0 := Aside0.mk hl0
          have HS0 := Aside0.mk hs0
          have HB5 := Aside0.mk (HBl.out.grown hg0 (by have := HSz.out; have := HBs.out; omega) (fun j hj => by cases hj))
          clear hrg0 hl0 hs0 hg0
          obtain ⟨r, hr⟩ : ∃ r, r = wr.heap.size := ⟨_, rfl⟩
          have HRS : Aside0 (b2 < r ∧ w.heap.size ≤ r ∧ r < w5.heap.size) := ⟨by have := HSz.out; have := HBs.out; have := HS0.out; omega⟩
          rw [← hr] at HR5 ⊢
          clear HWt HBl HSz HS0
          clear hr
          go_loopw [112] (fun _ wr => ∃ left cnt, Aside0 (V4 w wr l0_1 b2 r left cnt)) (fun _ wr => wr.rangeLeft b2 r)
          case atStart => exact ⟨left0, cnt0, ⟨⟨HR5.out, fun x y hx hy hne => .inl (by rw [HL0.out x y hx hy]; exact decide_eq_true hne), fun x y hx hy h => by rw [HL0.out x y hx hy] at h; exact of_decide_eq_true h, HB5.out, HRS.out⟩⟩⟩
          case round =>
            clear HR5 HL0 HB5 HRS
            obtain ⟨left, cnt, V⟩ := hrel
            go_wp2_with (first
              | (at_next; refine wpList_next_wt _ rfl _ rfl b2 r _ _ left cnt rfl V.out.rg ?_ ?_)
              | go_in)
            · intro hc0 hl
              have hval : ValidG l0_0 l0_1 := ⟨h1, h2, H3.out, HI.out, HD.out, okSym_of HD.out fun a b ha0 ha1 hb0 hb1 hne => by
                rcases V.out.todo a b (WalkArith.wf_i64 (by omega)) (WalkArith.wf_i64 (by omega)) hne with h | h
                · rw [hl] at h; cases h
                · exact h⟩
              have HVal := Aside0.mk hval
              clear hval hl
              go_wp2
              go_ret
              exact ⟨ret_true HVal.out, V.out.below⟩
            · intro x y c w6 cnt6 hwx hwy hlx hc hrg6 hlt6 hg6 hs6 hen
              have HR6 := Aside0.mk (hrg6.kept (World.grownBy_alloc w6 (.cells #[.int .i64 x, .int .i64 y] 74) none) (by simp) (by simp))
              have hlook := HR6.out.look hwy hwx
              have HB6 := Aside0.mk ((V.out.below.grown hg6 (by have := V.out.at_; omega) (fun j hj => by cases hj; exact V.out.at_.2.1)).alloc (by have := V.out.at_; omega) (.cells #[.int .i64 x, .int .i64 y] 74))
              have HS6 := Aside0.mk hs6
              have HL6 := Aside0.mk (show cnt6 < cnt from hlt6)
              have hne : wOf l0_1 l0_1.length 0 x y ≠ 0 := V.out.old x y hwx hwy hlx
              have HN := Aside0.mk hne
              have HC := Aside0.mk hc
              unfold endV at hlook hen
              clear hrg6 hg6 hs6 hlt6 hne hc hlx
              obtain ⟨d, hd⟩ : ∃ d, d = wOf l0_1 l0_1.length 0 y x := ⟨_, rfl⟩
              rw [← hd] at hlook
              have HDd := Aside0.mk hd
              clear hd
              unfold endV
              by_cases hcd : d = c
              · have q1 : (d != c) = false := bne_eq_false_iff_eq.mpr hcd
                have q2 : (d == c) = true := beq_iff_eq.mpr hcd
                have HCD := Aside0.mk hcd
                clear hcd
                go_wp2
                go_roundw
                case rel =>
                  refine ⟨_, cnt6, ⟨⟨HR6.out, fun x' y' hx' hy' hne' => ?_, fun x' y' hx' hy' h => ?_, HB6.out, ?_⟩⟩⟩
                  · by_cases e : x' = x ∧ y' = y
                    · obtain ⟨rfl, rfl⟩ := e
                      exact .inr (by rw [← HDd.out, HCD.out, HC.out])
                    · rcases V.out.todo x' y' hx' hy' hne' with h | h
                      · left
                        rw [h, sameKey_ne (endL_ne hx' hy' hwx hwy e)]
                        rfl
                      · exact .inr h
                  · exact V.out.old x' y' hx' hy' (by simp at h; exact h.1)
                  · have := V.out.at_
                    have := HS6.out
                    simp
                    omega
                case measure => rw [HR6.out.left_eq, V.out.rg.left_eq]; exact HL6.out
              · have q1 : (d != c) = true := bne_iff_ne.mpr hcd
                have q2 : (d == c) = false := beq_eq_false_iff_ne.mpr hcd
                have HCD := Aside0.mk hcd
                clear hcd
                go_wp2
                go_ret
                exact ⟨ret_false fun hv => not_okSym_of HD.out HN.out (by rw [← HDd.out, ← HC.out]; exact HCD.out) hv.2.2.2.2.2, HB6.out⟩

set_option maxHeartbeats 2000000 in
set_option maxRecDepth 100000 in
theorem valid_early (A0_0 : Option Addr) (c0_0 : Nat) (l0_0 : List Int) (A0_1 : Option Addr) (c0_1 : Nat) (l0_1 : List (List Lk)) (w : World)
    (hn : ¬ (1 ≤ l0_1.length ∧ l0_1.length ≤ 24 ∧ l0_0.length = l0_1.length)) :
    Calls Try.prog 50 #[.agg #[.slice A0_0 l0_0.length c0_0, .slice A0_1 l0_1.length c0_1]] w fun e w' => e = .returned (.bool (validB l0_0 l0_1)) ∧ Below w.heap.size w w' := by
  have hu := Try.underlying26
  have HF := Aside0.mk (show ¬ ValidG l0_0 l0_1 from fun hv => hn ⟨hv.1, hv.2.1, hv.2.2.1⟩)
  by_cases h1 : l0_1.length < 1
  · have a1 : decide ((l0_1.length : Int) < 1) = true := decide_eq_true (by omega)
    have a2 : decide (l0_1.length < 1) = true := decide_eq_true (by omega)
    clear hn
    go_enter Try.func50, Try.ntmps50
    go_wp2
    go_ret
    exact ⟨ret_false HF.out, (Below.refl _ _).alloc (Nat.le_refl _) _⟩
  have a1 : decide ((l0_1.length : Int) < 1) = false := decide_eq_false (by omega)
  have a2 : decide (l0_1.length < 1) = false := decide_eq_false (by omega)
  by_cases h2 : 24 < l0_1.length
  · have b1 : decide (24 < (l0_1.length : Int)) = true := decide_eq_true (by omega)
    have b2 : decide (24 < l0_1.length) = true := decide_eq_true (by omega)
    clear hn
    go_enter Try.func50, Try.ntmps50
    go_wp2
    go_ret
    exact ⟨ret_false HF.out, (Below.refl _ _).alloc (Nat.le_refl _) _⟩
  have b1 : decide (24 < (l0_1.length : Int)) = false := decide_eq_false (by omega)
  have b2 : decide (24 < l0_1.length) = false := decide_eq_false (by omega)
  have d1 : ((l0_0.length : Int) != (l0_1.length : Int)) = true := bne_iff_ne.mpr (by omega)
  have d2 : (l0_0.length != l0_1.length) = true := bne_iff_ne.mpr (by omega)
  clear hn
  go_enter Try.func50, Try.ntmps50
  go_wp2
  go_ret
  exact ⟨ret_false HF.out, (Below.refl _ _).alloc (Nat.le_refl _) _⟩
/-- The contract of graph.Valid, in the printed form. -/
theorem graph_Valid.calls (A0_0 : Option Addr) (c0_0 : Nat) (l0_0 : List Int) (A0_1 : Option Addr) (c0_1 : Nat) (l0_1 : List (List Lk)) (r : Bool) (w : World) (hr0_0 : Kd.C (Kd.int .i64) w A0_0 l0_0.length l0_0) (hc0_0 : l0_0.length ≤ c0_0) (hr0_1 : Kd.C (Kd.slice 50 k50) w A0_1 l0_1.length l0_1) (hc0_1 : l0_1.length ≤ c0_1) (h : graph_Valid.f l0_0 l0_1 = some r) :
    Calls Try.prog 50 #[.agg #[.slice A0_0 l0_0.length c0_0, .slice A0_1 l0_1.length c0_1]] w fun e w' => e = .returned (.bool r) ∧ Below w.heap.size w w' := by
  obtain rfl : validB l0_0 l0_1 = r := Option.some.inj h
  by_cases hn : 1 ≤ l0_1.length ∧ l0_1.length ≤ 24 ∧ l0_0.length = l0_1.length
  · exact valid_main A0_0 c0_0 l0_0 A0_1 c0_1 l0_1 w hr0_0 hr0_1 hn.1 hn.2.1 hn.2.2
  · exact valid_early A0_0 c0_0 l0_0 A0_1 c0_1 l0_1 w hn
end Go.Proofs.Ytilmpkoklkgjeaa.P
