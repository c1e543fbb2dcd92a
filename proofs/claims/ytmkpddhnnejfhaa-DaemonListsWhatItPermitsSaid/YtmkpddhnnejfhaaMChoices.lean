/- Choices, of the program and of the reference. -/
import Derived.Test.YtmkpddhnnejfhaaMDaemon
import Derived.Test.YtmkpddhnnejfhaaMParts
import Derived.Test.YtmkpddhnnejfhaaGChoices
import Derived.Test.YtmkpddhnnejfhaaP5
import Derived.Test.YtmkpddhnnejfhaaP4
namespace Go.Proofs.Ytmkpddhnnejfhaa.P
open Go.RowKit Go.Proofs.YtmkpddhnnejfhaaW.PrintWords Go.Proofs.YtmkpddhnnejfhaaW.PrintMore
set_option linter.unusedVariables false
variable {ids : List Int} {P : List (List Lk)}
noncomputable def permB (P : List (List Lk)) (kind en x : Int) : Bool := @decide (PermP P kind en x) (Classical.propDecidable _)
theorem permB_iff {kind en x : Int} : permB P kind en x = true ↔ PermP P kind en x := by unfold permB; exact @decide_eq_true_iff _ (Classical.propDecidable _)
theorem permB_ev (V : ValidG ids P) (kind : Int) {en ch : Int} (he : M32 en) (hc : M32 ch) : Ev (fun k => daemon_permits.f k ids P kind en ch) (permB P kind en ch) := by
  obtain ⟨b, hb, hiff⟩ := permits_ev V kind he hc
  exact Ev_cast hb (Bool.eq_iff_iff.2 (hiff.trans permB_iff.symm))
theorem M32_nat {s : Nat} (h : s < 2 ^ 32) : M32 (s : Int) := ⟨by omega, by omega⟩
theorem ch_loop (V : ValidG ids P) (kind : Int) {E : Nat} (hE : E < 2 ^ 32) : ∀ (n s : Nat) (out : List Int), E - s < n → SubN s E → 0 < s → out.length < s →
    Ev (fun k => chLoop ids P kind (E : Int) k out (s : Int)) (out ++ (subsN E s).filter (permB P kind E), 0)
  | 0, s, out, hn, _, _, _ => absurd hn (Nat.not_lt_zero _)
  | n + 1, s, out, hn, hs, h0, hl => by
    have hle := le_of_sub hE hs
    have h32 : s < 2 ^ 32 := by omega
    have hgo : ∀ out' : List Int, out'.length ≤ s → Ev (fun k => chLoop ids P kind (E : Int) k out' (Go.bits .and .u32 (((s : Int) - (E : Int)) % 4294967296) (E : Int))) (if s = E then (out', 0) else (out' ++ (subsN E (nextN E s)).filter (permB P kind E), 0)) := by
      intro out' hl'
      rw [next_eq hE hle]
      by_cases e : s = E
      · rw [if_pos e]
        subst e
        rw [next_end s hE]
        refine Ev.step (fun k => by rw [chLoop]) ?_
        simp only [show (((0 : Nat) : Int) = 0) = True by simp, if_true]
        exact Ev.now _
      · rw [if_neg e]
        obtain ⟨h1, h2, h3, h4⟩ := next_spec hE hs e
        exact ch_loop V kind hE n (nextN E s) out' (by omega) h1 (by omega) (by omega)
    refine Ev.step (fun k => by rw [chLoop]) ?_
    simp only [if_neg (show ¬ (s : Int) = 0 by omega)]
    refine Ev.bind (permB_ev V kind (M32_nat hE) (M32_nat h32)) ?_
    have hlist : subsN E s = if s = E then [(s : Int)] else (s : Int) :: subsN E (nextN E s) := by
      by_cases e : s = E
      · rw [if_pos e]; subst e; exact subs_last
      · rw [if_neg e]; exact subs_step hE hs e
    cases hb : permB P kind (E : Int) (s : Int) with
    | true =>
      simp only [if_true, if_pos (show out.length < 4294967296 by omega)]
      refine Ev_cast (hgo (out ++ [(s : Int)]) (by simp; omega)) ?_
      rw [hlist]
      by_cases e : s = E
      · rw [if_pos e, if_pos e]; simp [hb]
      · rw [if_neg e, if_neg e, List.filter_cons, if_pos hb]; simp
    | false =>
      simp only [Bool.false_eq_true, if_false]
      refine Ev_cast (hgo out (by omega)) ?_
      rw [hlist]
      by_cases e : s = E
      · rw [if_pos e, if_pos e]; simp [hb]
      · rw [if_neg e, if_neg e, List.filter_cons, if_neg (by rw [hb]; decide)]
theorem rsubs_loop {E : Nat} (hE : E < 2 ^ 32) : ∀ (n s : Nat) (out : List Int), E - s < n → SubN s E → 0 < s → out.length < s →
    Ev (fun k => selfstabref15_subsets.l0 k (E : Int) out (s : Int)) (out ++ subsN E s)
  | 0, s, out, hn, _, _, _ => absurd hn (Nat.not_lt_zero _)
  | n + 1, s, out, hn, hs, h0, hl => by
    have hle := le_of_sub hE hs
    refine Ev.step (fun k => by rw [selfstabref15_subsets.l0]) ?_
    simp only [if_neg (show ¬ (s : Int) = 0 by omega), if_pos (show out.length < 35184372088832 by omega)]
    rw [next_eq hE hle]
    by_cases e : s = E
    · subst e
      rw [next_end s hE, subs_last]
      refine Ev.step (fun k => by rw [selfstabref15_subsets.l0]) ?_
      simp only [show (((0 : Nat) : Int) = 0) = True by simp, if_true]
      exact Ev.now _
    · obtain ⟨h1, h2, h3, h4⟩ := next_spec hE hs e
      refine Ev_cast (rsubs_loop hE n (nextN E s) (out ++ [(s : Int)]) (by omega) h1 (by omega) (by simp; omega)) ?_
      rw [subs_step hE hs e]
      simp
theorem least_l0 {m : Int} (hm : M32 m) : ∀ d i : Nat, i + d = 32 → (∀ j, j < i → bit m j = false) → Ev (fun k => selfstabref15_Least.l0 k m (i : Int)) (leastS m)
  | 0, i, hi, hl => by
    have h0 : m = 0 := (M32_eq_zero hm).2 fun v hv => hl v (by omega)
    refine Ev.step (fun k => by rw [selfstabref15_Least.l0]) ?_
    simp only [if_neg (show ¬ (i : Int) < 32 by omega)]
    refine Ev_cast (Ev.now _) ?_
    subst h0; decide
  | d + 1, i, hi, hl => by
    refine Ev.step (fun k => by rw [selfstabref15_Least.l0]) ?_
    simp only [if_pos (show (i : Int) < 32 by omega), has_eq hm, Option.bind_some]
    cases hb : bit m i with
    | true =>
      simp only [if_true, u64_nat i (by omega), if_pos (show 0 ≤ (i : Int) by omega)]
      exact Ev_cast (Ev.now _) (least_pw hm hb hl).symm
    | false =>
      simp only [Bool.false_eq_true, if_false, wrap_nat i (by omega)]
      exact least_l0 hm d (i + 1) (by omega) fun j hj => by
        by_cases e : j = i
        · rw [e]; exact hb
        · exact hl j (by omega)
theorem least_ev {m : Int} (hm : M32 m) : Ev (fun k => selfstabref15_Least.f k m) (leastS m) := by
  unfold selfstabref15_Least.f
  exact least_l0 hm 32 0 rfl (fun j hj => absurd hj (by omega))
theorem least_next {E : Nat} (hE : E < 2 ^ 32) : leastS (E : Int) = (nextN E 0 : Int) := by
  rw [← next_zero hE]
  have hn : M32 ((-(E : Int)) % 4294967296) := ⟨by omega, by omega⟩
  obtain ⟨a, b⟩ := M32_and (M32_nat hE) hn
  obtain ⟨c, d⟩ := M32_and hn (M32_nat hE)
  refine M32_ext a c fun v _ => ?_
  show bit (Go.bits .and .u32 (E : Int) ((-(E : Int)) % 4294967296)) v = _
  rw [b, d, Bool.and_comm]
theorem first_zero : nextN 0 0 = 0 := by decide
theorem next_pos {E : Nat} (hE : E < 2 ^ 32) (h0 : 0 < E) : SubN (nextN E 0) E ∧ 0 < nextN E 0 := by
  have hz : SubN 0 E := fun i hi => by simp at hi
  obtain ⟨h1, h2, _, _⟩ := next_spec hE hz (by omega)
  exact ⟨h1, h2⟩
/-- All parts of a set but the empty one. -/
def partsL (E : Nat) : List Int := subsN E 1
theorem ch_all (V : ValidG ids P) (kind : Int) {E : Nat} (hE : E < 2 ^ 32) : Ev (fun k => chLoop ids P kind (E : Int) k [] (Go.bits .and .u32 ((-(E : Int)) % 4294967296) (E : Int))) ((partsL E).filter (permB P kind E), 0) := by
  rw [next_zero hE]
  unfold partsL
  rcases Nat.eq_zero_or_pos E with h0 | h0
  · subst h0
    rw [first_zero]
    refine Ev.step (fun k => by rw [chLoop]) ?_
    simp only [show (((0 : Nat) : Int) = 0) = True by simp, if_true]
    exact Ev.now _
  · obtain ⟨h1, h2⟩ := next_pos hE h0
    rw [subs_first hE h0]
    exact ch_loop V kind hE (E + 1) _ [] (by omega) h1 h2 h2
theorem rsubs_ev {E : Nat} (hE : E < 2 ^ 32) : Ev (fun k => selfstabref15_subsets.f k (E : Int)) (partsL E) := by
  unfold selfstabref15_subsets.f partsL
  refine Ev.bind (least_ev (M32_nat hE)) ?_
  rw [least_next hE]
  rcases Nat.eq_zero_or_pos E with h0 | h0
  · subst h0
    rw [first_zero]
    refine Ev.step (fun k => by rw [selfstabref15_subsets.l0]) ?_
    simp only [show (((0 : Nat) : Int) = 0) = True by simp, if_true]
    exact Ev.now _
  · obtain ⟨h1, h2⟩ := next_pos hE h0
    rw [subs_first hE h0]
    exact rsubs_loop hE (E + 1) _ [] (by omega) h1 h2 h2
theorem bit_nat (E v : Nat) : bit (E : Int) v = E.testBit v := rfl
theorem mem_parts {E : Nat} (hE : E < 2 ^ 32) {x : Int} : x ∈ partsL E ↔ M32 x ∧ x ≠ 0 ∧ Part x E := by
  unfold partsL
  rw [mem_subs]
  constructor
  · rintro ⟨y, rfl, h1, h2, h3⟩
    exact ⟨M32_nat (by omega), by omega, fun v hv => h3 v hv⟩
  · rintro ⟨h1, h2, h3⟩
    obtain ⟨y, rfl, hy⟩ := h1.nat
    have hs : SubN y E := fun v hv => h3 v hv
    exact ⟨y, rfl, by omega, le_of_sub hE hs, hs⟩
theorem parts_len {E : Nat} (hE : E < 2 ^ 32) : (partsL E).length < Big := by
  have := subs_len E 1
  unfold partsL Big
  omega
/-! ### the reference's loops -/
theorem rc_l1 (V : ValidG ids P) (hb : ∀ v, (prt P v).length < Big) {kind : Int} (hk : kind = 2 ∨ kind = 3) {E : Nat} (hE : E < 2 ^ 32) (hi : InG P (E : Int)) (l : List Int) (hl : ∀ x ∈ l, M32 x ∧ x ≠ 0 ∧ Part x (E : Int)) (hlen : l.length ≤ 4294967296) :
    ∀ (d i : Nat) (out : List Int), i + d = l.length → out.length ≤ i → Ev (fun k => selfstabref15_Choices.l1 k kind out l (i : Int) ids P) (out ++ (l.drop i).filter (permB P kind E), 0)
  | 0, i, out, hid, _ => by
    refine Ev.step (fun k => by rw [selfstabref15_Choices.l1]) ?_
    simp only [if_neg (show ¬ (i : Int) < (l.length : Int) by omega), List.drop_of_length_le (show l.length ≤ i by omega), List.filter_nil, List.append_nil]
    exact Ev.now _
  | d + 1, i, out, hid, ho => by
    have hx : rd l (i : Int) ∈ l := mem_rd l i (by omega)
    have hdr : l.drop i = rd l (i : Int) :: l.drop (i + 1) := by
      rw [List.drop_eq_getElem_cons (by omega)]
      congr 1
      simp [rd, List.getD_eq_getElem?_getD, List.getElem?_eq_getElem (show i < l.length by omega)]
    obtain ⟨m1, m2, m3⟩ := hl _ hx
    obtain ⟨x, hxe⟩ : ∃ x, rd l (i : Int) = x := ⟨_, rfl⟩
    rw [hxe] at hx hdr m1 m2 m3
    have hyes : permB P kind E x = true → Ev (fun k => selfstabref15_Choices.l1 k kind (out ++ [x]) l ((i + 1 : Nat) : Int) ids P) (out ++ (l.drop i).filter (permB P kind E), 0) := fun hp => by
      refine Ev_cast (rc_l1 V hb hk hE hi l hl hlen d (i + 1) (out ++ [x]) (by omega) (by simp; omega)) ?_
      rw [hdr, List.filter_cons, if_pos hp]; simp
    have hno : permB P kind E x = false → Ev (fun k => selfstabref15_Choices.l1 k kind out l ((i + 1 : Nat) : Int) ids P) (out ++ (l.drop i).filter (permB P kind E), 0) := fun hp => by
      refine Ev_cast (rc_l1 V hb hk hE hi l hl hlen d (i + 1) out (by omega) (by omega)) ?_
      rw [hdr, List.filter_cons, if_neg (by rw [hp]; decide)]
    refine Ev.step (fun k => by rw [selfstabref15_Choices.l1]) ?_
    simp only [if_pos (show (i : Int) < (l.length : Int) by omega), if_pos (show 0 ≤ (i : Int) by omega), wrap_nat i (by omega), if_pos (show out.length < 35184372088832 by omega), hxe]
    rcases hk with rfl | rfl
    · simp only [show ((2 : Int) = 3) = False by simp, if_false]
      obtain ⟨r, h1, h2, h3, h4⟩ := refNe_ev (ids := ids) hb m1
      refine Ev.bind h2 ?_
      have hin : InG P x := fun v hv => hi v (m3 v hv)
      have hiff := nb_none (P := P) m1 h3 hin (h4 V)
      by_cases hz : Go.bits .and .u32 r x = 0
      · simp only [if_pos hz]
        exact hyes (permB_iff.2 ⟨m2, m3, fun h => by omega, fun _ => ⟨hin, hiff.1 (beq_iff_eq.2 hz)⟩, fun h => by omega⟩)
      · simp only [if_neg hz]
        refine hno ?_
        cases hp : permB P 2 (E : Int) x with
        | false => rfl
        | true =>
          have := (permB_iff.1 hp).2.2.2.1 rfl
          exact absurd (beq_iff_eq.1 (hiff.2 this.2)) hz
    · simp only [if_true]
      exact hyes (permB_iff.2 ⟨m2, m3, fun h => by omega, fun h => by omega, fun h => by omega⟩)
theorem rc_l0 {m : Int} (hm : M32 m) (hn : P.length ≤ 24) : ∀ (d i : Nat) (out : List Int), i + d = P.length → out.length ≤ i → Ev (fun k => selfstabref15_Choices.l0 k m out (i : Int) ids P) (out ++ ((List.range' i d).filter (bit m)).map pw, 0)
  | 0, i, out, hid, _ => by
    refine Ev.step (fun k => by rw [selfstabref15_Choices.l0]) ?_
    simp only [if_neg (show ¬ (i : Int) < (P.length : Int) by omega)]
    refine Ev_cast (Ev.now _) (by simp)
  | d + 1, i, out, hid, ho => by
    refine Ev.step (fun k => by rw [selfstabref15_Choices.l0]) ?_
    simp only [if_pos (show (i : Int) < (P.length : Int) by omega), has_eq hm, Option.bind_some, wrap_nat i (by omega), u64_nat i (by omega), if_pos (show 0 ≤ (i : Int) by omega), if_pos (show out.length < 35184372088832 by omega)]
    rw [List.range'_succ, List.filter_cons]
    cases hb : bit m i with
    | true =>
      simp only [if_true]
      refine Ev_cast (rc_l0 hm hn d (i + 1) (out ++ [shl .u32 1 (i : Int)]) (by omega) (by simp; omega)) ?_
      simp [pw]
    | false =>
      simp only [Bool.false_eq_true, if_false]
      exact rc_l0 hm hn d (i + 1) out (by omega) (by omega)
theorem each_in {m : Int} (hm : M32 m) (hn : P.length ≤ 24) (hi : InG P m) : eachL 32 m = ((List.range P.length).filter (bit m)).map pw := by
  rw [(each_all hm).1, List.range_eq_range', List.range_eq_range', show (32 : Nat) = P.length + (32 - P.length) by omega, ← List.range'_append_1, List.filter_append]
  have h2 : List.filter (bit m) (List.range' (0 + P.length) (32 - P.length)) = [] := List.filter_eq_nil_iff.2 fun x hx hb => by
    have := List.mem_range'_1.1 hx
    have := hi x hb
    omega
  rw [h2, List.append_nil]
theorem ones_eq {m : Int} (hm : M32 m) : bits_OnesCount32.f m = some (card m : Int) := by
  unfold bits_OnesCount32.f
  rw [if_pos ⟨hm.1, by have := hm.2; omega⟩]
  refine congrArg some ?_
  obtain ⟨a, rfl, ha⟩ := hm.nat
  have hb : ∀ (x s : Nat), x < 256 → (∀ i, i < 8 → x.testBit i = a.testBit (s + i)) → Lib.onesCount x = (List.range' s 8).countP (bit (a : Int)) := by
    intro x s hx h
    unfold Lib.onesCount
    rw [popAux_eq, List.range_eq_range', show (64 : Nat) = 8 + 56 by rfl, ← List.range'_append_1, List.countP_append]
    have h2 : (List.range' (0 + 8) 56).countP (fun i => x.testBit i) = 0 := List.countP_eq_zero.2 fun i hi hb => by
      have := List.mem_range'_1.1 hi
      rw [Nat.testBit_lt_two_pow (Nat.lt_of_lt_of_le hx (show (256 : Nat) ≤ 2 ^ i from Nat.le_trans (show (256 : Nat) ≤ 2 ^ 8 by decide) (Nat.pow_le_pow_right (by decide) (by omega))))] at hb
      cases hb
    rw [h2, Nat.add_zero]
    have h3 : List.range' s 8 = (List.range' 0 8).map (s + ·) := by rw [List.map_add_range']; simp
    rw [h3, List.countP_map]
    exact List.countP_congr fun i hi => by
      have := List.mem_range'_1.1 hi
      rw [h i (by omega)]
      rfl
  have t : ∀ (j i : Nat), i < 8 → (a / 2 ^ j % 256).testBit i = a.testBit (j + i) := fun j i hi => by
    rw [show (256 : Nat) = 2 ^ 8 by rfl, Nat.testBit_mod_two_pow, Nat.testBit_div_two_pow, decide_eq_true hi, Bool.true_and, Nat.add_comm]
  have e0 : ((a : Int) % 256).toNat = a / 2 ^ 0 % 256 := by omega
  have e1 : ((a : Int) / 256 % 256).toNat = a / 2 ^ 8 % 256 := by omega
  have e2 : ((a : Int) / 65536 % 256).toNat = a / 2 ^ 16 % 256 := by omega
  have e3 : ((a : Int) / 16777216).toNat = a / 2 ^ 24 % 256 := by omega
  rw [e0, e1, e2, e3, hb _ 0 (by omega) (t 0), hb _ 8 (by omega) (t 8), hb _ 16 (by omega) (t 16), hb _ 24 (by omega) (t 24)]
  unfold card
  rw [List.range_eq_range', show (32 : Nat) = 8 + (8 + (8 + 8)) by rfl, ← List.range'_append_1, ← List.range'_append_1, ← List.range'_append_1]
  simp only [List.countP_append, Nat.zero_add, Nat.reduceAdd]
  omega
open Classical in
/-- The choices of a daemon, and the error. -/
noncomputable def chG (ids : List Int) (P : List (List Lk)) (kind en : Int) : List Int × Int :=
  if validB ids P = true then (if 1 ≤ kind ∧ kind ≤ 4 then (if inB P en = true then
    (if kind = 1 then (eachL 32 en, 0) else if kind = 4 then (if en = 0 then ([], 0) else ([en], 0)) else if card en > 10 then ([], 3) else ((partsL en.toNat).filter (permB P kind en), 0))
    else ([], 2)) else ([], 12)) else ([], 1)
theorem choices_ev (ids : List Int) (P : List (List Lk)) (kind : Int) {en : Int} (he : M32 en) : Ev (fun k => daemon_Choices.f k ids P kind en) (chG ids P kind en) := by
  unfold daemon_Choices.f chG
  cases hv : validB ids P with
  | false => simp only [Bool.false_eq_true, if_false]; exact Ev.now _
  | true =>
    have V := validB_iff.1 hv
    simp only [if_true, dvalid_eq, Option.bind_some, decide_eq_true_iff]
    by_cases hk : 1 ≤ kind ∧ kind ≤ 4
    · simp only [if_pos hk, nodes_eq he, Option.bind_some]
      cases hi : inB P en with
      | false => simp only [Bool.false_eq_true, if_false]; exact Ev.now _
      | true =>
        simp only [if_true]
        by_cases k1 : kind = 1
        · simp only [if_pos k1]; exact Ev.now _
        · simp only [if_neg k1]
          by_cases k4 : kind = 4
          · simp only [if_pos k4]
            by_cases e0 : en = 0
            · simp only [if_pos e0]; exact Ev.now _
            · simp only [if_neg e0]; exact Ev.now _
          · simp only [if_neg k4, ones_eq he, Option.bind_some]
            by_cases c : card en > 10
            · simp only [if_pos (show (card en : Int) > 10 by omega), if_pos c]; exact Ev.now _
            · simp only [if_neg (show ¬ (card en : Int) > 10 by omega), if_neg c]
              obtain ⟨E, rfl, hE⟩ := he.nat
              exact ch_all V kind hE
    · simp only [if_neg hk]; exact Ev.now _
theorem rchoices_ev (hb : ∀ v, (prt P v).length < Big) (kind : Int) {en : Int} (he : M32 en) : Ev (fun k => selfstabref15_Choices.f k ids P kind en) (chG ids P kind en) := by
  unfold selfstabref15_Choices.f chG
  refine Ev.bind (refValid_ev ids P hb) ?_
  cases hv : validB ids P with
  | false => simp only [Bool.false_eq_true, if_false]; exact Ev.now _
  | true =>
    have V := validB_iff.1 hv
    have hn := V.2.1
    simp only [if_true, rvalid15_eq, Option.bind_some, decide_eq_true_iff]
    by_cases hk : 1 ≤ kind ∧ kind ≤ 4
    · simp only [if_pos hk]
      obtain ⟨r, hr, hm, hbit⟩ := all_ev P.length (by omega)
      refine Ev.bind hr ?_
      have hin : Go.bits .andNot .u32 en r = 0 ↔ InG P en := by
        rw [part_iff he hm]
        unfold Part InG
        simp only [hbit, decide_eq_true_iff]
      by_cases hi : inB P en = true
      · have hI := (inB_iff he).1 hi
        simp only [if_pos (hin.2 hI), if_pos hi]
        by_cases k1 : kind = 1
        · simp only [if_pos k1]
          refine Ev_cast (rc_l0 he hn P.length 0 [] (by omega) (Nat.le_refl _)) ?_
          rw [each_in he hn hI, List.nil_append, List.range_eq_range']
        · simp only [if_neg k1]
          by_cases k4 : kind = 4
          · simp only [if_pos k4]
            by_cases e0 : en = 0
            · simp only [if_pos e0]; exact Ev.now _
            · simp only [if_neg e0, List.length_nil, show (0 : Nat) < 35184372088832 by omega, if_true, List.nil_append]; exact Ev.now _
          · simp only [if_neg k4]
            refine Ev.bind (count_ev he) ?_
            by_cases c : card en > 10
            · simp only [if_pos (show (card en : Int) > 10 by omega), if_pos c]; exact Ev.now _
            · simp only [if_neg (show ¬ (card en : Int) > 10 by omega), if_neg c]
              obtain ⟨E, rfl, hE⟩ := he.nat
              refine Ev.bind (rsubs_ev hE) ?_
              have := rc_l1 V hb (show kind = 2 ∨ kind = 3 by omega) hE hI (partsL E) (fun x hx => (mem_parts hE).1 hx) (by have := subs_len E 1; unfold partsL; omega) (partsL E).length 0 [] (by omega) (Nat.le_refl _)
              exact Ev_cast this (by simp)
      · simp only [if_neg (fun h => hi ((inB_iff he).2 (hin.1 h))), if_neg hi]
        exact Ev.now _
    · simp only [if_neg hk]; exact Ev.now _
end Go.Proofs.Ytmkpddhnnejfhaa.P
