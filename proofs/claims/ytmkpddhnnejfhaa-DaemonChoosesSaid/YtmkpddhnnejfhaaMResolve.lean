/- Resolve, of the program and of the reference. -/
import Derived.Test.YtmkpddhnnejfhaaMDaemon
import Derived.Test.YtmkpddhnnejfhaaGResolve
import Derived.Test.YtmkpddhnnejfhaaP5
import Derived.Test.YtmkpddhnnejfhaaP5
import Derived.Test.YtmkpddhnnejfhaaP4
namespace Go.Proofs.Ytmkpddhnnejfhaa.P
open Go.RowKit Go.Proofs.YtmkpddhnnejfhaaW.PrintWords Go.Proofs.YtmkpddhnnejfhaaW.PrintMore
set_option linter.unusedVariables false
variable {ids : List Int} {P : List (List Lk)}
theorem least2_l0 {m : Int} (hm : M32 m) : ∀ d i : Nat, i + d = 32 → (∀ j, j < i → bit m j = false) → Ev (fun k => selfstabref15_Least.l0 k m (i : Int)) (leastS m)
  | 0, i, hi, hl => by
    have h0 : m = 0 := (M32_eq_zero hm).2 fun v hv => hl v (by omega)
    refine Ev.step (fun k => by rw [selfstabref15_Least.l0]) ?_
    simp only [if_neg (show ¬ (i : Int) < 32 by omega)]
    refine Ev_cast (Ev.now _) ?_
    subst h0; decide
  | d + 1, i, hi, hl => by
    refine Ev.step (fun k => by rw [selfstabref15_Least.l0]) ?_
    simp only [if_pos (show (i : Int) < 32 by omega), has_eq hm, Option.bind_some]
    cases hb : bit m i with
    | true =>
      simp only [if_true, u64_nat i (by omega), if_pos (show 0 ≤ (i : Int) by omega)]
      exact Ev_cast (Ev.now _) (least_pw hm hb hl).symm
    | false =>
      simp only [Bool.false_eq_true, if_false, wrap_nat i (by omega)]
      exact least2_l0 hm d (i + 1) (by omega) fun j hj => by
        by_cases e : j = i
        · rw [e]; exact hb
        · exact hl j (by omega)
theorem least2_ev {m : Int} (hm : M32 m) : Ev (fun k => selfstabref15_Least.f k m) (leastS m) := by
  unfold selfstabref15_Least.f
  exact least2_l0 hm 32 0 rfl (fun j hj => absurd hj (by omega))
open Classical in
/-- The nodes that are taken from a set in ascending order: when those below i are done. -/
noncomputable def grd (P : List (List Lk)) (m : Int) : Nat → Int
  | 0 => 0
  | i + 1 => if bit m i = true ∧ ¬ nb P (grd P m i) i then Go.bits .or .u32 (grd P m i) (pw i) else grd P m i
open Classical in
theorem grd_succ (m : Int) (i : Nat) : grd P m (i + 1) = if bit m i = true ∧ ¬ nb P (grd P m i) i then Go.bits .or .u32 (grd P m i) (pw i) else grd P m i := by
  rw [grd]
theorem grd_bits {m : Int} : ∀ i, i ≤ 32 → M32 (grd P m i) ∧ ∀ v, bit (grd P m i) v = true ↔ v < i ∧ bit m v = true ∧ ¬ nb P (grd P m v) v
  | 0, _ => ⟨M32_zero.1, fun v => by show bit 0 v = true ↔ _; rw [M32_zero.2]; simp⟩
  | i + 1, hi => by
    obtain ⟨h1, h2⟩ := grd_bits i (by omega)
    rw [grd_succ]
    split
    · rename_i hc
      obtain ⟨h3, h4⟩ := M32_or h1 (pw_bits (i := i) (by omega)).1
      refine ⟨h3, fun v => ?_⟩
      rw [h4, (pw_bits (i := i) (by omega)).2, Bool.or_eq_true, h2, decide_eq_true_iff]
      constructor
      · rintro (⟨a, b⟩ | rfl)
        · exact ⟨by omega, b⟩
        · exact ⟨by omega, hc⟩
      · rintro ⟨a, b⟩
        by_cases e : v = i
        · exact .inr e
        · exact .inl ⟨by omega, b⟩
    · rename_i hc
      refine ⟨h1, fun v => ?_⟩
      rw [h2]
      constructor
      · rintro ⟨a, b⟩; exact ⟨by omega, b⟩
      · rintro ⟨a, b⟩
        refine ⟨?_, b⟩
        rcases Nat.lt_or_ge v i with h | h
        · exact h
        · obtain rfl : v = i := by omega
          exact absurd b hc
theorem grd_mono {m : Int} {i j v : Nat} (hij : i ≤ j) (hj : j ≤ 32) (h : bit (grd P m i) v = true) : bit (grd P m j) v = true := by
  rw [(grd_bits i (by omega)).2] at h
  rw [(grd_bits j hj).2]
  exact ⟨by omega, h.2⟩
theorem grd_same {m : Int} (n : Nat) (hi : ∀ v, bit m v = true → v < n) : ∀ d, grd P m (n + d) = grd P m n
  | 0 => rfl
  | d + 1 => by
    show grd P m (n + d + 1) = _
    rw [grd_succ]
    rw [if_neg fun h => by have := hi _ h.1; omega]
    exact grd_same n hi d
/-- A node's neighbours meet a set just where the node is a neighbour of one of it. -/
theorem meet_iff (V : ValidG ids P) {t r : Int} {i : Nat} (hi : i < P.length) (ht : M32 t) (hin : InG P t) (hr : M32 r) (hrb : ∀ j, bit r j = true ↔ j < P.length ∧ nb P (pw i) j) : Go.bits .and .u32 r t = 0 ↔ ¬ nb P t i := by
  have hn := V.2.1
  obtain ⟨a, b⟩ := M32_and hr ht
  rw [M32_eq_zero a]
  constructor
  · rintro h ⟨u, h1, h2⟩
    have hu := hin u h2
    have := h u (by omega)
    rw [b, h2, (hrb u).2 ⟨hu, i, adj_sym V i u hi h1, by rw [(pw_bits (i := i) (by omega)).2]; simp⟩] at this
    cases this
  · intro h v hv
    rw [b]
    cases h1 : bit r v with
    | false => rfl
    | true =>
      cases h2 : bit t v with
      | false => rfl
      | true =>
        exfalso
        obtain ⟨h3, u, h4, h5⟩ := (hrb v).1 h1
        rw [(pw_bits (i := i) (by omega)).2] at h5
        have h5 : u = i := by simpa using h5
        subst h5
        exact h ⟨v, adj_sym V v u h3 h4, h2⟩
theorem lc_from (V : ValidG ids P) {m : Int} (hm : M32 m) (hin : InG P m) : ∀ d s : Nat, s + d = 32 → Ev (fun k => lcLoop k ids P (((List.range' s d).filter (bit m)).map pw) (grd P m s)) (grd P m 32)
  | 0, s, hs => by
    obtain rfl : s = 32 := by omega
    exact Ev.now _
  | d + 1, s, hs => by
    have ih := lc_from V hm hin d (s + 1) (by omega)
    rw [List.range'_succ, List.filter_cons]
    cases hb : bit m s with
    | false =>
      rw [if_neg (by decide)]
      have e : grd P m (s + 1) = grd P m s := by
        rw [grd_succ]
        rw [if_neg (by rw [hb]; exact fun h => by cases h.1)]
      rw [e] at ih
      exact ih
    | true =>
      rw [if_pos rfl, List.map_cons]
      have hsn := hin s hb
      obtain ⟨g1, g2⟩ := grd_bits (P := P) (m := m) s (by omega)
      have gin : InG P (grd P m s) := fun v hv => by have := (g2 v).1 hv; omega
      obtain ⟨r, h1, h2, h3⟩ := ne_ev V (pw_bits (i := s) (by omega)).1
      simp only [lcLoop]
      refine Ev.bind h1 ?_
      have hmeet := meet_iff V hsn g1 gin h2 h3
      by_cases hz : Go.bits .and .u32 r (grd P m s) = 0
      · simp only [if_pos hz]
        have e : grd P m (s + 1) = Go.bits .or .u32 (grd P m s) (pw s) := by
          rw [grd_succ]
          rw [if_pos ⟨hb, hmeet.1 hz⟩]
        rw [e] at ih
        exact ih
      · simp only [if_neg hz]
        have e : grd P m (s + 1) = grd P m s := by
          rw [grd_succ]
          rw [if_neg (fun h => hz (hmeet.2 h.2))]
        rw [e] at ih
        exact ih
theorem lc_ev (V : ValidG ids P) {m : Int} (hm : M32 m) (hin : InG P m) : Ev (fun k => lcLoop k ids P (eachL 32 m) 0) (grd P m 32) := by
  rw [(each_all hm).1, List.range_eq_range']
  exact lc_from V hm hin 32 0 rfl
theorem rgr_l0 (V : ValidG ids P) (hb : ∀ v, (prt P v).length < Big) {m : Int} (hm : M32 m) (hin : InG P m) : ∀ d i : Nat, i + d = P.length → Ev (fun k => selfstabref15_greedy.l0 k m (grd P m i) (i : Int) ids P) (grd P m P.length)
  | 0, i, hi => by
    obtain rfl : i = P.length := by omega
    refine Ev.step (fun k => by rw [selfstabref15_greedy.l0]) ?_
    simp only [if_neg (show ¬ (P.length : Int) < (P.length : Int) by omega)]
    exact Ev.now _
  | d + 1, i, hi => by
    have hn := V.2.1
    have ih := rgr_l0 V hb hm hin d (i + 1) (by omega)
    refine Ev.step (fun k => by rw [selfstabref15_greedy.l0]) ?_
    simp only [if_pos (show (i : Int) < (P.length : Int) by omega), has_eq hm, Option.bind_some, wrap_nat i (by omega), u64_nat i (by omega), if_pos (show 0 ≤ (i : Int) by omega)]
    cases hbi : bit m i with
    | false =>
      simp only [Bool.false_eq_true, if_false]
      have e : grd P m (i + 1) = grd P m i := by
        rw [grd_succ]
        rw [if_neg (by rw [hbi]; exact fun h => by cases h.1)]
      rw [e] at ih
      exact ih
    | true =>
      simp only [if_true]
      obtain ⟨g1, g2⟩ := grd_bits (P := P) (m := m) i (by omega)
      obtain ⟨r, h1, h2, h3, h4⟩ := refNe_ev (ids := ids) hb g1
      refine Ev.bind h2 ?_
      simp only [has_eq h3, Option.bind_some]
      have h5 := h4 V i
      cases hr : bit r i with
      | true =>
        simp only [if_true]
        have e : grd P m (i + 1) = grd P m i := by
          rw [grd_succ]
          rw [if_neg (fun h => h.2 (h5.1 hr).2)]
        rw [e] at ih
        exact ih
      | false =>
        simp only [Bool.false_eq_true, if_false]
        have e : grd P m (i + 1) = Go.bits .or .u32 (grd P m i) (shl .u32 1 (i : Int)) := by
          rw [grd_succ]
          rw [if_pos ⟨hbi, fun h => by rw [h5.2 ⟨by omega, h⟩] at hr; cases hr⟩]
          rfl
        rw [e] at ih
        exact ih
theorem rgr_ev (V : ValidG ids P) (hb : ∀ v, (prt P v).length < Big) {m : Int} (hm : M32 m) (hin : InG P m) : Ev (fun k => selfstabref15_greedy.f k ids P m) (grd P m 32) := by
  unfold selfstabref15_greedy.f
  have hn := V.2.1
  have e : grd P m 32 = grd P m P.length := by
    rw [show (32 : Nat) = P.length + (32 - P.length) by omega]
    exact grd_same _ hin _
  rw [e]
  exact rgr_l0 V hb hm hin P.length 0 (by omega)
/-- What a daemon makes of a wish. -/
noncomputable def resG (ids : List Int) (P : List (List Lk)) (kind en w : Int) : Int :=
  if validB ids P = true ∧ (1 ≤ kind ∧ kind ≤ 4) ∧ inB P en = true ∧ en ≠ 0 then
    (if kind = 1 then leastS (wishS en w) else if kind = 2 then grd P (wishS en w) 32 else if kind = 4 then en else wishS en w)
  else 0
theorem wish_bits {en w : Int} (he : M32 en) (hw : M32 w) (h : Go.bits .and .u32 w en ≠ 0) : ∀ v, bit (wishS en w) v = (bit w v && bit en v) := by
  intro v
  unfold wishS
  rw [if_neg h, (M32_and hw he).2]
theorem wish_part {en w : Int} (he : M32 en) (hw : M32 w) (h0 : en ≠ 0) : Part (wishS en w) en ∧ wishS en w ≠ 0 := by
  by_cases h : Go.bits .and .u32 w en = 0
  · unfold wishS
    rw [if_pos h]
    obtain ⟨t, _, h1, h2⟩ := bit_lowest he h0
    obtain ⟨l1, l2⟩ := least_bits he h1 h2
    refine ⟨fun v hv => ?_, fun h => ?_⟩
    · rw [l2] at hv
      have hv : v = t := by simpa using hv
      rw [hv]; exact h1
    · have := l2 t
      rw [h] at this
      simp [bit] at this
  · refine ⟨fun v hv => ?_, fun h' => ?_⟩
    · rw [wish_bits he hw h] at hv
      simp at hv; exact hv.2
    · unfold wishS at h'
      rw [if_neg h] at h'
      exact h h'
theorem resQ_j1 {kind en x : Int} (hk : kind ≠ 2) : Ev (fun k => daemon_ResolveQ.j1 k kind en x) (if kind = 1 then leastS x else if kind = 4 then en else x) := by
  refine Ev.step (fun k => by rw [daemon_ResolveQ.j1]) ?_
  simp only [daemon_least.f, Option.bind_some, if_neg hk]
  by_cases k1 : kind = 1
  · simp only [if_pos k1]; exact Ev.now _
  · simp only [if_neg k1]
    by_cases k4 : kind = 4
    · simp only [if_pos k4]; exact Ev.now _
    · simp only [if_neg k4]; exact Ev.now _
theorem resolve_ev (ids : List Int) (P : List (List Lk)) (kind : Int) {en w : Int} (he : M32 en) (hw : M32 w) : Ev (fun k => daemon_Resolve.f k ids P kind en w) (resG ids P kind en w) := by
  unfold daemon_Resolve.f resG
  rw [nodes_eq he]
  have hbad : Ev (fun k => daemon_ResolveQ.j0 k kind en w true) 0 := Ev.step (fun k => by rw [daemon_ResolveQ.j0]) (by simp only [if_true]; exact Ev.now _)
  by_cases hc : kind = 2 ∧ validB ids P = true ∧ some (inB P en) = some true ∧ en ≠ 0
  · simp only [if_pos hc]
    obtain ⟨k2, hv, hi, h0⟩ := hc
    have hi := Option.some.inj hi
    rw [if_pos ⟨hv, by omega, hi, h0⟩, if_neg (by omega), if_pos k2]
    exact lc_ev (validB_iff.1 hv) (M32_wish en w) fun v hv' => (inB_iff he).1 hi v ((wish_part he hw h0).1 v hv')
  · simp only [if_neg hc]
    unfold daemon_ResolveQ.f
    simp only [graph_Valid.f, Option.bind_some, dvalid_eq, nodes_eq he]
    cases hv : validB ids P with
    | false =>
      rw [if_neg (fun h => by cases h.1)]
      simp only [Bool.false_eq_true, if_false]
      exact hbad
    | true =>
      simp only [if_true, decide_eq_true_iff]
      by_cases hk : 1 ≤ kind ∧ kind ≤ 4
      · simp only [if_pos hk]
        cases hi : inB P en with
        | false =>
          rw [if_neg (fun h => by cases h.2.2.1)]
          simp only [Bool.false_eq_true, if_false]
          exact hbad
        | true =>
          simp only [if_true]
          by_cases h0 : en = 0
          · rw [if_neg (fun h => h.2.2.2 h0)]
            simp only [beq_iff_eq.2 h0]
            exact hbad
          · have k2 : kind ≠ 2 := fun h => hc ⟨h, hv, by rw [hi], h0⟩
            rw [if_pos (by simp [hk, h0]), if_neg k2]
            simp only [beq_eq_false_iff_ne.2 h0]
            refine Ev.step (fun k => by rw [daemon_ResolveQ.j0]) ?_
            simp only [Bool.false_eq_true, if_false, daemon_least.f, Option.bind_some]
            have := resQ_j1 (en := en) (x := wishS en w) k2
            unfold wishS leastS at this ⊢
            by_cases hz : Go.bits .and .u32 w en = 0
            · simp only [if_pos hz] at this ⊢; exact this
            · simp only [if_neg hz] at this ⊢; exact this
      · rw [if_neg (fun h => hk h.2.1)]
        simp only [if_neg hk]
        exact hbad
theorem rres_j1 (V : ValidG ids P) (hb : ∀ v, (prt P v).length < Big) {kind en x : Int} (hk : 1 ≤ kind ∧ kind ≤ 4) (hx : M32 x) (hin : InG P x) : Ev (fun k => selfstabref15_Resolve.j1 k kind en x ids P) (if kind = 1 then leastS x else if kind = 2 then grd P x 32 else if kind = 4 then en else x) := by
  refine Ev.step (fun k => by rw [selfstabref15_Resolve.j1]) ?_
  by_cases k1 : kind = 1
  · simp only [if_pos k1]
    exact Ev.bind (least2_ev hx) (Ev.now _)
  · simp only [if_neg k1]
    by_cases k2 : kind = 2
    · simp only [if_pos k2]
      exact Ev.bind (rgr_ev V hb hx hin) (Ev.now _)
    · simp only [if_neg k2]
      by_cases k4 : kind = 4
      · simp only [if_pos k4]; exact Ev.now _
      · simp only [if_neg k4]; exact Ev.now _
theorem rresolve_ev (hb : ∀ v, (prt P v).length < Big) (hl : P.length ≤ 30) (kind : Int) {en w : Int} (he : M32 en) (hw : M32 w) : Ev (fun k => selfstabref15_Resolve.f k ids P kind en w) (resG ids P kind en w) := by
  unfold selfstabref15_Resolve.f resG
  obtain ⟨p, hp, hpiff⟩ := possible_ev (ids := ids) hb hl kind he
  have hbad : Ev (fun k => selfstabref15_Resolve.j0 k kind en w true ids P) 0 := Ev.step (fun k => by rw [selfstabref15_Resolve.j0]) (by simp only [if_true]; exact Ev.now _)
  refine Ev.bind hp ?_
  cases p with
  | false =>
    rw [if_neg (fun h => by have := hpiff.2 ⟨validB_iff.1 h.1, h.2.1, (inB_iff he).1 h.2.2.1⟩; cases this)]
    simp only [Bool.false_eq_true, if_false]
    exact hbad
  | true =>
    obtain ⟨V, hk, hi⟩ := hpiff.1 rfl
    simp only [if_true]
    by_cases h0 : en = 0
    · rw [if_neg (fun h => h.2.2.2 h0)]
      simp only [beq_iff_eq.2 h0]
      exact hbad
    · rw [if_pos ⟨validB_iff.2 V, hk, (inB_iff he).2 hi, h0⟩]
      simp only [beq_eq_false_iff_ne.2 h0]
      refine Ev.step (fun k => by rw [selfstabref15_Resolve.j0]) ?_
      simp only [Bool.false_eq_true, if_false]
      have hj := rres_j1 V hb (en := en) hk (M32_wish en w) fun v hv => hi v ((wish_part he hw h0).1 v hv)
      unfold wishS at hj ⊢
      by_cases hz : Go.bits .and .u32 w en = 0
      · simp only [if_pos hz] at hj ⊢
        exact Ev.bind (least2_ev he) hj
      · simp only [if_neg hz] at hj ⊢
        exact hj
end Go.Proofs.Ytmkpddhnnejfhaa.P
