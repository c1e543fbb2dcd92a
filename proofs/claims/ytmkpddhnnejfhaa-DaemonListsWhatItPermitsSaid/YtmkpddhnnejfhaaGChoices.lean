/- daemon.Choices as its callers' prints name it: by walking its text, end by end. -/
import Derived.Test.YtmkpddhnnejfhaaGChoicesC
import Derived.Test.YtmkpddhnnejfhaaP3
import Derived.Test.YtmkpddhnnejfhaaGOnes32
namespace Go.Proofs.Ytmkpddhnnejfhaa.P
open Go.RowKit Go.Proofs.YtmkpddhnnejfhaaW.PrintWords Go.Proofs.YtmkpddhnnejfhaaW.PrintLast Go.Proofs.YtmkpddhnnejfhaaW.PrintMore
set_option linter.unusedVariables false
/-- The parts of a set from s on that are permitted. -/
def chLoop (l0 : List Int) (l1 : List (List Lk)) (a1 a2 : Int) : Nat → List Int → Int → Option (List Int × Int)
  | 0, _, _ => none
  | k + 1, out, s => if s = 0 then some (out, 0) else (daemon_permits.f k l0 l1 a1 a2 s).bind fun p =>
      if p = true then (if out.length < 4294967296 then chLoop l0 l1 a1 a2 k (out ++ [s]) (Go.bits .and .u32 ((s - a2) % 4294967296) a2) else none) else chLoop l0 l1 a1 a2 k out (Go.bits .and .u32 ((s - a2) % 4294967296) a2)
def daemon_Choices.f (k : Nat) (l0_0 : List Int) (l0_1 : List (List Lk)) (a1 : Int) (a2 : Int) : Option (List Int × Int) :=
  if validB l0_0 l0_1 = true then (daemon_Valid.f a1).bind fun d => if d = true then (daemon_nodes.f l0_0 l0_1 a2).bind fun n => if n = true then
    (if a1 = 1 then some (eachL 32 a2, 0) else if a1 = 4 then (if a2 = 0 then some ([], 0) else some ([a2], 0)) else (bits_OnesCount32.f a2).bind fun c => if c > 10 then some ([], 3) else chLoop l0_0 l0_1 a1 a2 k [] (Go.bits .and .u32 ((-a2) % 4294967296) a2))
    else some ([], 2) else some ([], 12) else some ([], 1)
theorem chLoop_mono (l0 : List Int) (l1 : List (List Lk)) (a1 a2 : Int) : ∀ (k : Nat) (out : List Int) (s : Int), LeO (chLoop l0 l1 a1 a2 k out s) (chLoop l0 l1 a1 a2 (k + 1) out s)
  | 0, _, _ => LeO.none _
  | k + 1, out, s => by
    rw [chLoop, chLoop]
    refine LeO.ite (LeO.refl _) (LeO.bind (daemon_permits.mono _ _ _ _ _ _) fun p => LeO.ite (LeO.ite ?_ (LeO.refl _)) ?_)
    · exact chLoop_mono l0 l1 a1 a2 k _ _
    · exact chLoop_mono l0 l1 a1 a2 k _ _
theorem daemon_Choices.mono : ∀ a0 a1 a2 a3 k, LeO (daemon_Choices.f k a0 a1 a2 a3) (daemon_Choices.f (k + 1) a0 a1 a2 a3) := fun a0 a1 a2 a3 k => by
  unfold daemon_Choices.f
  refine LeO.ite (LeO.bind (LeO.refl _) fun d => LeO.ite (LeO.bind (LeO.refl _) fun n => LeO.ite (LeO.ite (LeO.refl _) (LeO.ite (LeO.refl _) (LeO.bind (LeO.refl _) fun c => LeO.ite (LeO.refl _) ?_))) (LeO.refl _)) (LeO.refl _)) (LeO.refl _)
  exact chLoop_mono _ _ _ _ _ _ _
theorem appended_far {W w1 : World} {n1 B b : Nat} {t' e : TypeId} {size : Nat} {v v' : Value} {k : Nat} {xs : List Value} {tmp : Obj} {cs : Array Value}
    (hrow : W.ownsRow n1 e size v k xs) (hgrow : (W.alloc tmp).grownBy w1 v.ownBlock) (h : W.heap[b]? = some (.cells cs t' (0, 0))) (hte : t' ≠ e) (hne : b ≠ B) : (w1.setCell ⟨B, 0, none⟩ v').heap[b]? = some (.cells cs t' (0, 0)) := by
  refine blk_far (blk_grown (blk_alloc h tmp) hgrow fun he => ?_) hne v'
  rcases hrow.2 with ⟨rfl, _⟩ | ⟨g, cap, cur, rfl, _, hgb, _⟩
  · simp [Value.ownBlock] at he
  · obtain rfl : b = g := by simpa [Value.ownBlock] using he
    rw [h] at hgb
    simp at hgb
    exact hte hgb.2
set_option maxHeartbeats 4000000 in
set_option maxRecDepth 100000 in
theorem choices_all (k : Nat) (A0_0 : Option Addr) (c0_0 : Nat) (l0_0 : List Int) (A0_1 : Option Addr) (c0_1 : Nat) (l0_1 : List (List Lk)) (a1 : Int) (a2 : Int) (r1 : List Int) (r2 : Int) (w : World) (hr0_0 : Kd.C (Kd.int .i64) w A0_0 l0_0.length l0_0) (hc0_0 : l0_0.length ≤ c0_0) (hr0_1 : Kd.C (Kd.slice 58 k58) w A0_1 l0_1.length l0_1) (hc0_1 : l0_1.length ≤ c0_1) (h : daemon_Choices.f k l0_0 l0_1 a1 a2 = some (r1, r2)) (hn1 : ¬ (a1 = 1 ∧ validB l0_0 l0_1 = true ∧ daemon_nodes.f l0_0 l0_1 a2 = some true)) :
    Calls Try.prog 12 #[.agg #[.slice A0_0 l0_0.length c0_0, .slice A0_1 l0_1.length c0_1], .int .i64 a1, .int .u32 a2] w fun e w' => ∃ v0_ : Value, e = .returned (.tuple #[v0_, .int .i64 r2]) ∧ Kd.R (Kd.int .u32) 26 w' w.heap.size (fun _ => True) v0_ r1 ∧ Below w.heap.size w w' := by
  have hu := Try.underlying25
  have HR0 := Aside0.mk hr0_0
  have HR1 := Aside0.mk hr0_1
  clear hr0_0 hr0_1
  have HN := Aside0.mk hn1
  clear hn1
  unfold daemon_Choices.f at h
  obtain ⟨vb, hvb⟩ : ∃ vb, validB l0_0 l0_1 = vb := ⟨_, rfl⟩
  have HV := Aside0.mk hvb
  go_enter Try.func12, Try.ntmps12
  go_wp2_with fail
  refine (graph_Valid.calls A0_0 c0_0 l0_0 A0_1 c0_1 l0_1 vb _ (Kd.C_alloc HR0.out _) hc0_0 (Kd.C_alloc HR1.out _) hc0_1 (by unfold graph_Valid.f; rw [HV.out])).mono ?_
  rintro e w1 ⟨rfl, hb1⟩
  have HB1 := Aside0.mk (below_step (below_alloc (Below.refl _ w) _) hb1)
  have BK1 := Aside0.mk (blk_below (blk_new w (.cells #[.slice A0_0 l0_0.length c0_0, .slice A0_1 l0_1.length c0_1] 25)) hb1)
  clear hb1
  have hcA1 : w1.cell? ⟨w.heap.size, 0, none⟩ = some (.slice A0_0 l0_0.length c0_0) := (blk_cell BK1.out 0).trans rfl
  have hcB1 : w1.cell? ⟨w.heap.size, 1, none⟩ = some (.slice A0_1 l0_1.length c0_1) := (blk_cell BK1.out 1).trans rfl
  rw [hvb] at h
  clear hvb
  cases vb with
  | false =>
    rw [if_neg (by decide)] at h
    obtain ⟨rfl, rfl⟩ := Prod.mk.inj (Option.some.inj h)
    go_wp2
    go_ret2
    exact ⟨_, rfl, Kd.R_nil _ _ _ _ _, HB1.out⟩
  | true =>
  rw [if_pos rfl] at h
  replace h := Option.bind_eq_some_iff.mp h
  obtain ⟨d, hd, h⟩ := h
  go_wp2_with fail
  refine (daemon_Valid.calls a1 d _ hd).mono ?_
  rintro e w2 ⟨rfl, ⟨⟨n2, rfl⟩⟩⟩
  have HD := Aside0.mk hd
  clear hd
  cases d with
  | false =>
    rw [if_neg (by decide)] at h
    obtain ⟨rfl, rfl⟩ := Prod.mk.inj (Option.some.inj h)
    go_wp2
    go_ret2
    exact ⟨_, rfl, Kd.R_nil _ _ _ _ _, pw_below_drewN HB1.out n2⟩
  | true =>
  rw [if_pos rfl] at h
  replace h := Option.bind_eq_some_iff.mp h
  obtain ⟨nd, hnd, h⟩ := h
  go_wp2_with fail
  refine (daemon_nodes.calls A0_0 c0_0 l0_0 A0_1 c0_1 l0_1 a2 nd _ (Kd.C_below HR0.out (pw_below_drewN HB1.out n2)) hc0_0 (Kd.C_below HR1.out (pw_below_drewN HB1.out n2)) hc0_1 hnd).mono ?_
  rintro e w3 ⟨rfl, hb3⟩
  have HB3 := Aside0.mk (below_step (pw_below_drewN HB1.out n2) hb3)
  have BK3 := Aside0.mk (blk_below (blk_drewN BK1.out n2) hb3)
  have HND := Aside0.mk hnd
  clear hb3 hcA1 hcB1 hnd BK1
  cases nd with
  | false =>
    rw [if_neg (by decide)] at h
    obtain ⟨rfl, rfl⟩ := Prod.mk.inj (Option.some.inj h)
    go_wp2
    go_ret2
    exact ⟨_, rfl, Kd.R_nil _ _ _ _ _, HB3.out⟩
  | true =>
  rw [if_pos rfl] at h
  have hne : a1 ≠ 1 := fun e => HN.out ⟨e, HV.out, HND.out⟩
  rw [if_neg hne] at h
  have hneb : (a1 == 1) = false := beq_eq_false_iff_ne.mpr hne
  by_cases h4 : a1 = 4
  · rw [if_pos h4] at h
    subst h4
    by_cases hz : a2 = 0
    · rw [if_pos hz] at h
      obtain ⟨rfl, rfl⟩ := Prod.mk.inj (Option.some.inj h)
      subst hz
      go_wp2
      go_ret2
      exact ⟨_, rfl, Kd.R_nil _ _ _ _ _, below_alloc HB3.out _⟩
    · rw [if_neg hz] at h
      obtain ⟨rfl, rfl⟩ := Prod.mk.inj (Option.some.inj h)
      have hzb : (a2 != 0) = true := bne_iff_ne.mpr hz
      go_upto_if 57 with (fail)
      obtain ⟨W4, hW4⟩ : ∃ W4, W4 = w3.alloc (.cells #[.slice none 0 0] 29) := ⟨_, rfl⟩
      have hbox : Boxed W4 w3.heap.size 29 (.slice none 0 0) := by rw [hW4]; exact Boxed.new w3 29 _
      have hb4 : Below w.heap.size w W4 := by rw [hW4]; exact below_alloc HB3.out _
      have hs4 : W4.heap.size = w3.heap.size + 1 := by rw [hW4]; simp
      have h3 : w.heap.size < w3.heap.size := blk_lt BK3.out
      have hge : w3.heap.size < W4.heap.size := by omega
      rw [← hW4]
      clear hW4 hs4
      have hcO := hbox.cell
      have hfO := hbox.frozen
      obtain ⟨i0, hi, hz0, hz1, hz2⟩ := info_parts (show (Try.prog.info? 26).map (fun i => (i.zero, i.size, i.bytes)) = some (some (.int .u32 0), 1, 4) by kernel_rfl)
      go_wp2_with (at_builtin; refine wpList_append_own _ rfl _ _ 29 rfl w.heap.size 26 i0 (.int .u32 0) 1 4 Try.underlying29 hi hz0 hz1 hz2 rfl (by decide) _ _ _ rfl ((World.ownsRow_nil W4 _ _ _).alloc _) ⟨W4.heap.size, 0, none⟩ 1 1 [.int .u32 a2] rfl rfl (cell_one_new _ _ _) (by simp [Value.oneCell']) (by decide) (by decide) (by simp; omega) ?_; intro v' w5 hown' hgrow _; obtain ⟨g', cap', rfl⟩ := ownsRow_succ hown'; obtain ⟨hv1, hv2, hr2, hk2, hb2, hf2⟩ := appended2 (n0 := w.heap.size) hbox (by decide) (World.ownsRow_nil W4 w.heap.size 26 1) (by omega) (Nat.le_refl _) (by omega) hown' hgrow; have hc1 := hv1.cell; have hf1 := hv1.frozen; have hc2 := hv2.cell)
      go_ret2
      exact ⟨_, rfl, Kd.R_of_own hr2 (fun _ _ => trivial), hb4.trans hb2⟩
  · rw [if_neg h4] at h
    have h4b : (a1 == 4) = false := beq_eq_false_iff_ne.mpr h4
    replace h := Option.bind_eq_some_iff.mp h
    obtain ⟨c, hc, h⟩ := h
    have HC := Aside0.mk hc
    clear hc
    by_cases hc10 : c > 10
    · rw [if_pos hc10] at h
      obtain ⟨rfl, rfl⟩ := Prod.mk.inj (Option.some.inj h)
      have hcb : decide (10 < c) = true := decide_eq_true hc10
      go_wp2_with (go_at_call 33; refine (bits_OnesCount32.calls a2 c _ HC.out).mono ?_; rintro e w' ⟨rfl, ⟨⟨n4, rfl⟩⟩⟩)
      go_ret2
      exact ⟨_, rfl, Kd.R_nil _ _ _ _ _, pw_below_drewN (below_alloc HB3.out _) n4⟩
    · rw [if_neg hc10] at h
      have hcb : decide (10 < c) = false := decide_eq_false hc10
      have HH := Aside0.mk h
      clear h hc10
      go_wp2_with (go_at_call 33; refine (bits_OnesCount32.calls a2 c _ HC.out).mono ?_; rintro e w' ⟨rfl, ⟨⟨n4, rfl⟩⟩⟩)
      have h3 : w.heap.size < w3.heap.size := blk_lt BK3.out
      go_loopg [10] k (fun kq v10 wr => ∃ (out : List Int) (s : Int) (v : Value), v10 = .int .u32 s ∧ Aside0 (chLoop l0_0 l0_1 a1 a2 kq out s = some (r1, r2)) ∧ Aside0 (wr.heap[w.heap.size]? = some (.cells #[.slice A0_0 l0_0.length c0_0, .slice A0_1 l0_1.length c0_1] 25 (0, 0))) ∧ Aside0 (Boxed wr w3.heap.size 29 v) ∧ Aside0 (Kd.R (Kd.int .u32) 26 wr w.heap.size (fun _ => True) v out) ∧ Aside0 (Below w.heap.size w wr))
      case atStart => exact ⟨[], _, _, rfl, HH, ⟨blk_drewN (blk_alloc BK3.out _) n4⟩, ⟨blk_drewN (Boxed.new w3 29 _) n4⟩, ⟨Kd.R_nil _ _ _ _ _⟩, ⟨pw_below_drewN (below_alloc HB3.out _) n4⟩⟩
      case round =>
        obtain ⟨out, s, v, rfl, HL, HG, HX, HO, HB⟩ := hrel
        clear HH HC hcb
        cases gk with
        | zero => exact absurd HL.out (by simp [chLoop])
        | succ k1 =>
        have h := HL.out
        clear HL
        rw [chLoop] at h
        have hcA : wr.cell? ⟨w.heap.size, 0, none⟩ = some (.slice A0_0 l0_0.length c0_0) := (blk_cell HG.out 0).trans rfl
        have hcB : wr.cell? ⟨w.heap.size, 1, none⟩ = some (.slice A0_1 l0_1.length c0_1) := (blk_cell HG.out 1).trans rfl
        have hcO := HX.out.cell
        by_cases hs : s = 0
        · rw [if_pos hs] at h
          obtain ⟨rfl, rfl⟩ := Prod.mk.inj (Option.some.inj h)
          subst hs
          go_wp2
          go_ret2
          exact ⟨_, rfl, HO.out, HB.out⟩
        rw [if_neg hs] at h
        have hsb : (s != 0) = true := bne_iff_ne.mpr hs
        clear hs
        replace h := Option.bind_eq_some_iff.mp h
        obtain ⟨p, hp, h⟩ := h
        have HP := Aside0.mk hp
        clear hp
        have HH := Aside0.mk h
        clear h
        cases p with
        | false =>
          have h := HH.out
          rw [if_neg (by decide)] at h
          have H' := Aside0.mk h
          clear h HH
          go_wp2_with (go_at_call 34; refine (daemon_permits.calls k1 A0_0 c0_0 l0_0 A0_1 c0_1 l0_1 a1 a2 s false _ (Kd.C_below HR0.out HB.out) hc0_0 (Kd.C_below HR1.out HB.out) hc0_1 HP.out).mono ?_; rintro e w5 ⟨rfl, hb5⟩; have HB5 := Aside0.mk hb5; clear hb5)
          go_roundg k1
          case measure => omega
          case rel => exact ⟨out, _, v, rfl, H', ⟨blk_below HG.out HB5.out⟩, ⟨blk_below HX.out HB5.out⟩, ⟨Kd.R_below HO.out HB5.out⟩, ⟨below_step HB.out HB5.out⟩⟩
        | true =>
          have h := HH.out
          rw [if_pos rfl] at h
          have hlen : out.length < 4294967296 := by
            by_cases hl : out.length < 4294967296
            · exact hl
            · rw [if_neg hl] at h; cases h
          rw [if_pos hlen] at h
          have H' := Aside0.mk h
          clear h HH hcO
          obtain ⟨i0, hi, hz0, hz1, hz2⟩ := info_parts (show (Try.prog.info? 26).map (fun i => (i.zero, i.size, i.bytes)) = some (some (.int .u32 0), 1, 4) by kernel_rfl)
          go_wp2_with (first
            | (go_at_call 34; refine (daemon_permits.calls k1 A0_0 c0_0 l0_0 A0_1 c0_1 l0_1 a1 a2 s true _ (Kd.C_below HR0.out HB.out) hc0_0 (Kd.C_below HR1.out HB.out) hc0_1 HP.out).mono ?_; rintro e w5 ⟨rfl, hb5⟩; have HB5 := Aside0.mk hb5; clear hb5; have X5 : Aside0 (Boxed w5 w3.heap.size 29 v) := ⟨blk_below HX.out HB5.out⟩; have O5 := Aside0.mk (Kd.own_of_R (Kd.R_below HO.out HB5.out)); have G5 := Aside0.mk (blk_below HG.out HB5.out); have hs5 : w.heap.size ≤ w5.heap.size := Nat.le_trans (below_size HB.out) HB5.out.size; have hcO5 := X5.out.cell; have hfO5 := X5.out.frozen)
            | (at_builtin; refine wpList_append_own _ rfl _ _ 29 rfl w.heap.size 26 i0 (.int .u32 0) 1 4 Try.underlying29 hi hz0 hz1 hz2 rfl (by decide) _ _ _ rfl (O5.out.alloc _) ⟨w5.heap.size, 0, none⟩ 1 1 [.int .u32 s] rfl rfl (cell_one_new _ _ _) (by simp [Value.oneCell']) (by unfold maxLen; omega) (by omega) (by simp; omega) ?_; intro v' w6 hown' hgrow _; obtain ⟨g', cap', rfl⟩ := ownsRow_succ hown'; obtain ⟨hv1, hv2, hr2, hk2, hb2, hf2⟩ := appended2 (n0 := w.heap.size) X5.out (by decide) O5.out hs5 (Nat.le_refl _) (by omega) hown' hgrow; have G6 := Aside0.mk (appended_far (B := w3.heap.size) (v' := .slice (some ⟨g', 0, none⟩) (out.length + 1) cap') O5.out hgrow G5.out (by decide) (by omega)); have hc1 := hv1.cell; have hf1 := hv1.frozen; have V2 := Aside0.mk hv2; have R2 := Aside0.mk hr2; have B2 := Aside0.mk hb2; clear hv1 hv2 hr2 hk2 hb2 hf2 hown' hgrow))
          go_roundg k1
          case measure => omega
          case rel => exact ⟨out ++ [s], _, _, rfl, H', G6, V2, ⟨Kd.R_of_own (by rw [List.length_append]; show World.ownsRow _ _ _ _ _ _ ((out ++ [s]).map (Value.int .u32)); rw [List.map_append]; exact R2.out) (fun _ _ => trivial)⟩, ⟨(below_step HB.out HB5.out).trans B2.out⟩⟩
theorem daemon_Choices.calls (k : Nat) (A0_0 : Option Addr) (c0_0 : Nat) (l0_0 : List Int) (A0_1 : Option Addr) (c0_1 : Nat) (l0_1 : List (List Lk)) (a1 : Int) (a2 : Int) (r1 : List Int) (r2 : Int) (w : World) (hr0_0 : Kd.C (Kd.int .i64) w A0_0 l0_0.length l0_0) (hc0_0 : l0_0.length ≤ c0_0) (hr0_1 : Kd.C (Kd.slice 58 k58) w A0_1 l0_1.length l0_1) (hc0_1 : l0_1.length ≤ c0_1) (h : daemon_Choices.f k l0_0 l0_1 a1 a2 = some (r1, r2)) :
    Calls Try.prog 12 #[.agg #[.slice A0_0 l0_0.length c0_0, .slice A0_1 l0_1.length c0_1], .int .i64 a1, .int .u32 a2] w fun e w' => ∃ v0_ : Value, e = .returned (.tuple #[v0_, .int .i64 r2]) ∧ Kd.R (Kd.int .u32) 26 w' w.heap.size (fun _ => True) v0_ r1 ∧ Below w.heap.size w w' := by
  by_cases hc : a1 = 1 ∧ validB l0_0 l0_1 = true ∧ daemon_nodes.f l0_0 l0_1 a2 = some true
  · obtain ⟨rfl, h1, h2⟩ := hc
    unfold daemon_Choices.f at h
    rw [if_pos h1, show daemon_Valid.f 1 = some true from rfl, h2] at h
    simp only [Option.bind_some, if_true] at h
    obtain ⟨rfl, rfl⟩ := Prod.mk.inj (Option.some.inj h)
    exact choices_central A0_0 c0_0 l0_0 A0_1 c0_1 l0_1 a2 w hr0_0 hc0_0 hr0_1 hc0_1 h1 h2
  · exact choices_all k A0_0 c0_0 l0_0 A0_1 c0_1 l0_1 a1 a2 r1 r2 w hr0_0 hc0_0 hr0_1 hc0_1 h hc
end Go.Proofs.Ytmkpddhnnejfhaa.P
