/- Plain lemmas about valid graphs, step by step, as graph.Valid comes to them. No program in sight. -/
import Derived.Test.YtilmpkoklkgjeaaGPlain
namespace Go.Proofs.Ytilmpkoklkgjeaa.P
open Go.RowKit Go.Proofs.YtilmpkoklkgjeaaW.PrintWords
set_option linter.unusedVariables false

theorem take_succ_rd (ids : List Int) (k : Nat) (h : k < ids.length) : ids.take (k + 1) = ids.take k ++ [rd ids k] := by
  rw [List.take_succ_eq_append_getElem h]
  simp [rd, List.getD_eq_getElem?_getD, List.getElem?_eq_getElem h]
theorem mem_rd (ids : List Int) (k : Nat) (h : k < ids.length) : rd ids k ∈ ids := by
  have : rd ids k = ids[k] := by simp [rd, List.getD_eq_getElem?_getD, List.getElem?_eq_getElem h]
  rw [this]
  exact List.getElem_mem h
theorem okIds_step {ids : List Int} {k : Nat} (h : k < ids.length) (ho : okIds (ids.take k)) (h0 : 0 ≤ rd ids k) (h1 : rd ids k ≤ 255) (hn : rd ids k ∉ ids.take k) : okIds (ids.take (k + 1)) := by
  rw [take_succ_rd ids k h]
  refine ⟨fun x hx => ?_, List.nodup_append.2 ⟨ho.2, by simp, fun a ha b hb => ?_⟩⟩
  · rcases List.mem_append.1 hx with hx | hx
    · exact ho.1 x hx
    · rw [List.mem_singleton.1 hx]; exact ⟨h0, h1⟩
  · rw [List.mem_singleton.1 hb]
    rintro rfl
    exact hn ha
theorem not_okIds_range {ids : List Int} {k : Nat} (h : k < ids.length) (hb : rd ids k < 0 ∨ 255 < rd ids k) : ¬ okIds ids := fun ho => by
  have := ho.1 _ (mem_rd ids k h)
  omega
theorem not_okIds_twice {ids : List Int} {k : Nat} (h : k < ids.length) (hb : rd ids k ∈ ids.take k) : ¬ okIds ids := fun ho => by
  have h1 : (ids.take (k + 1)).Nodup := ho.2.sublist (List.take_sublist _ _)
  rw [take_succ_rd ids k h] at h1
  exact (List.nodup_append.1 h1).2.2 _ hb _ (by simp) rfl

/-- Different numbers below n are at most n. -/
theorem nodup_le : ∀ (n : Nat) (l : List Int), l.Nodup → (∀ x ∈ l, 0 ≤ x ∧ x < n) → l.length ≤ n
  | 0, l, _, h => by
    cases l with
    | nil => simp
    | cons x r => have := h x (by simp); omega
  | n + 1, l, hd, h => by
    have ih := nodup_le n (l.filter (· != (n : Int))) (hd.sublist List.filter_sublist) (fun x hx => by
      obtain ⟨hx, hne⟩ := List.mem_filter.1 hx
      have := h x hx
      simp at hne
      omega)
    have hc : l.length ≤ (l.filter (· != (n : Int))).length + 1 := by
      have h1 := List.length_eq_countP_add_countP (fun x : Int => x != (n : Int)) (l := l)
      rw [List.countP_eq_length_filter] at h1
      have h2 : List.countP (fun a : Int => decide ¬(a != (n : Int)) = true) l = List.count (n : Int) l := by
        unfold List.count
        congr 1
        funext x
        by_cases hx : x = (n : Int) <;> simp [hx]
      have h3 := List.nodup_iff_count.1 hd (n : Int)
      omega
    omega

/-- The link number i of node v. -/
def lnk (P : List (List Lk)) (v i : Nat) : Lk := (prt P v).getD i z50
theorem lnk_eq (P : List (List Lk)) (v i : Nat) (h : i < (prt P v).length) : lnk P v i = (prt P v)[i] := by
  simp [lnk, List.getD_eq_getElem?_getD, List.getElem?_eq_getElem h]
theorem lnk_mem (P : List (List Lk)) (v i : Nat) (h : i < (prt P v).length) : lnk P v i ∈ prt P v := by
  rw [lnk_eq P v i h]
  exact List.getElem_mem h
theorem take_lnk (P : List (List Lk)) (v i : Nat) (h : i < (prt P v).length) : (prt P v).take (i + 1) = (prt P v).take i ++ [lnk P v i] := by
  rw [List.take_succ_eq_append_getElem h, lnk_eq P v i h]
/-- The weight of the link to b, or 0. -/
def wt (l : List Lk) (b : Int) : Int := match l.find? (fun e => e.f0 == b) with | some e => e.f1 | none => 0
/-- What the second map holds when the nodes below v are done, and i links of node v. -/
def wOf (P : List (List Lk)) (v i : Nat) (a b : Int) : Int := if 0 ≤ a ∧ a < v then wt (prt P a.toNat) b else if a = v then wt ((prt P v).take i) b else 0
theorem wt_zero {l : List Lk} (hl : ∀ e ∈ l, 1 ≤ e.f1) (b : Int) : wt l b = 0 ↔ b ∉ l.map (·.f0) := by
  unfold wt
  cases h : l.find? (fun e => e.f0 == b) with
  | none =>
    simp only [true_iff]
    intro hm
    obtain ⟨e, he, rfl⟩ := List.mem_map.1 hm
    have := List.find?_eq_none.1 h e he
    simp at this
  | some e =>
    have he := List.mem_of_find?_eq_some h
    have hp := List.find?_some h
    have := hl e he
    simp only
    constructor
    · intro; omega
    · intro hn
      exact absurd (List.mem_map.2 ⟨e, he, by simpa using hp⟩) hn
theorem wt_snoc {l : List Lk} {e : Lk} (hn : e.f0 ∉ l.map (·.f0)) (b : Int) : wt (l ++ [e]) b = if b = e.f0 then e.f1 else wt l b := by
  unfold wt
  rw [List.find?_append]
  by_cases hb : b = e.f0
  · subst hb
    have : l.find? (fun x => x.f0 == e.f0) = none := List.find?_eq_none.2 fun x hx hxe => hn (List.mem_map.2 ⟨x, hx, by simpa using hxe⟩)
    rw [this]
    simp
  · have : [e].find? (fun x => x.f0 == b) = none := by simp; exact fun h => hb h.symm
    rw [this]
    simp [hb]
theorem wt_mem {l : List Lk} (hd : (l.map (·.f0)).Nodup) {e : Lk} (he : e ∈ l) : wt l e.f0 = e.f1 := by
  unfold wt
  cases h : l.find? (fun x => x.f0 == e.f0) with
  | none => have := List.find?_eq_none.1 h e he; simp at this
  | some e2 =>
    have h2 := List.mem_of_find?_eq_some h
    have hp : e2.f0 = e.f0 := by simpa using List.find?_some h
    simp only
    have : e2 = e := by
      obtain ⟨i, hi, e1⟩ := List.getElem_of_mem h2
      obtain ⟨j, hj, e3⟩ := List.getElem_of_mem he
      have : i = j := (List.getElem_inj (xs := l.map (·.f0)) (h₀ := by simpa using hi) (h₁ := by simpa using hj) hd).1 (by simp [e1, e3, hp])
      subst this
      rw [← e1, ← e3]
    rw [this]
theorem wt_ne {l : List Lk} {b : Int} (h : wt l b ≠ 0) : ∃ e ∈ l, e.f0 = b ∧ e.f1 = wt l b := by
  unfold wt at h ⊢
  cases hf : l.find? (fun e => e.f0 == b) with
  | none => simp [hf] at h
  | some e => exact ⟨e, List.mem_of_find?_eq_some hf, by simpa using List.find?_some hf, rfl⟩
theorem wOf_start (P : List (List Lk)) : wOf P 0 0 = fun _ _ => 0 := by
  funext a b
  unfold wOf
  rw [if_neg (by omega)]
  split
  · simp [wt]
  · rfl
theorem wOf_here (P : List (List Lk)) (v i : Nat) (b : Int) : wOf P v i v b = wt ((prt P v).take i) b := by
  unfold wOf
  rw [if_neg (by omega), if_pos rfl]
theorem wOf_next (P : List (List Lk)) (v i : Nat) (h : i = (prt P v).length) : wOf P v i = wOf P (v + 1) 0 := by
  subst h
  funext a b
  unfold wOf
  by_cases h1 : 0 ≤ a ∧ a < v
  · rw [if_pos h1, if_pos (by omega)]
  · rw [if_neg h1]
    by_cases h2 : a = v
    · subst h2
      rw [if_pos rfl, if_pos (by omega), List.take_length]
      rfl
    · rw [if_neg h2, if_neg (by omega)]
      split
      · simp [wt]
      · rfl
theorem okLinks_step {P : List (List Lk)} {n v i : Nat} (h : i < (prt P v).length) (ho : okLinks n v ((prt P v).take i)) (h0 : 0 ≤ (lnk P v i).f0) (h1 : (lnk P v i).f0 < n) (h2 : (lnk P v i).f0 ≠ v) (h3 : 1 ≤ (lnk P v i).f1) (h4 : (lnk P v i).f1 ≤ 15)
    (hz : wOf P v i v (lnk P v i).f0 = 0) : okLinks n v ((prt P v).take (i + 1)) ∧ wOf P v (i + 1) = (fun x y => if x = (v : Int) ∧ y = (lnk P v i).f0 then (lnk P v i).f1 else wOf P v i x y) := by
  rw [wOf_here] at hz
  have hn : (lnk P v i).f0 ∉ ((prt P v).take i).map (·.f0) := (wt_zero (fun e he => (ho.1 e he).2.2.2.1) _).1 hz
  constructor
  · rw [take_lnk P v i h]
    refine ⟨fun e he => ?_, ?_⟩
    · rcases List.mem_append.1 he with he | he
      · exact ho.1 e he
      · rw [List.mem_singleton.1 he]; exact ⟨h0, h1, h2, h3, h4⟩
    · rw [List.map_append]
      refine List.nodup_append.2 ⟨ho.2, by simp, fun a ha b hb => ?_⟩
      simp at hb
      subst hb
      rintro rfl
      exact hn ha
  · funext x y
    unfold wOf
    by_cases hx : 0 ≤ x ∧ x < v
    · rw [if_pos hx, if_pos hx, if_neg (by omega)]
    · rw [if_neg hx, if_neg hx]
      by_cases hxv : x = v
      · subst hxv
        rw [if_pos rfl, if_pos rfl, take_lnk P v i h, wt_snoc hn]
        simp
      · rw [if_neg hxv, if_neg hxv, if_neg (fun h => hxv h.1)]
theorem okLinks_le {n v : Nat} {l : List Lk} (ho : okLinks n v l) : l.length ≤ n := by
  have := nodup_le n (l.map (·.f0)) ho.2 (fun x hx => by
    obtain ⟨e, he, rfl⟩ := List.mem_map.1 hx
    have := ho.1 e he
    omega)
  simpa using this
theorem not_okLinks_range {P : List (List Lk)} {n v i : Nat} (h : i < (prt P v).length) (hb : (lnk P v i).f0 < 0 ∨ n ≤ (lnk P v i).f0 ∨ (lnk P v i).f0 = v ∨ (lnk P v i).f1 < 1 ∨ 15 < (lnk P v i).f1) : ¬ okLinks n v (prt P v) := fun ho => by
  have := ho.1 _ (lnk_mem P v i h)
  omega
theorem not_okLinks_twice {P : List (List Lk)} {n v i : Nat} (h : i < (prt P v).length) (ho : okLinks n v ((prt P v).take i)) (hz : wOf P v i v (lnk P v i).f0 ≠ 0) : ¬ okLinks n v (prt P v) := fun hall => by
  rw [wOf_here] at hz
  have hm : (lnk P v i).f0 ∈ ((prt P v).take i).map (·.f0) := Decidable.byContradiction fun hn => hz ((wt_zero (fun e he => (ho.1 e he).2.2.2.1) _).2 hn)
  have h1 : (((prt P v).take (i + 1)).map (·.f0)).Nodup := hall.2.sublist (List.Sublist.map _ (List.take_sublist _ _))
  rw [take_lnk P v i h, List.map_append] at h1
  exact (List.nodup_append.1 h1).2.2 _ hm _ (by simp) rfl
/-- The function of all links. -/
theorem wOf_all (P : List (List Lk)) (a b : Int) : wOf P P.length 0 a b = if 0 ≤ a ∧ a < P.length then wt (prt P a.toNat) b else 0 := by
  unfold wOf
  split
  · rfl
  · split
    · simp [wt]
    · rfl
theorem okSym_of {P : List (List Lk)} (ho : ∀ v, v < P.length → okLinks P.length v (prt P v)) (h : ∀ a b : Int, 0 ≤ a → a < P.length → 0 ≤ b → b < P.length → wOf P P.length 0 a b ≠ 0 → wOf P P.length 0 b a = wOf P P.length 0 a b) : okSym P := by
  intro v hv e he
  have h1 := (ho v hv).1 e he
  have hw := wt_mem (ho v hv).2 he
  have key := h v e.f0 (by omega) (by omega) h1.1 h1.2.1
  rw [wOf_all, if_pos (by omega), wOf_all, if_pos (by omega)] at key
  have hv2 : (v : Int).toNat = v := by omega
  rw [hv2, hw] at key
  have hne : wt (prt P e.f0.toNat) v ≠ 0 := by rw [key (by omega)]; omega
  obtain ⟨e2, he2, hf, hg⟩ := wt_ne hne
  exact ⟨e2, he2, hf, by rw [hg, key (by omega)]⟩
theorem not_okSym_of {P : List (List Lk)} (ho : ∀ v, v < P.length → okLinks P.length v (prt P v)) {a b : Int} (hne : wOf P P.length 0 a b ≠ 0) (hd : wOf P P.length 0 b a ≠ wOf P P.length 0 a b) : ¬ okSym P := by
  intro hs
  rw [wOf_all] at hne
  split at hne
  · rename_i ha
    obtain ⟨e, he, hb, hw⟩ := wt_ne hne
    have h1 := (ho a.toNat (by omega)).1 e he
    obtain ⟨e2, he2, hf, hg⟩ := hs a.toNat (by omega) e he
    subst hb
    apply hd
    rw [wOf_all, if_pos (by omega), wOf_all, if_pos ha]
    have := wt_mem (ho e.f0.toNat (by omega)).2 he2
    rw [hf, show ((a.toNat : Nat) : Int) = a by omega] at this
    rw [this, hg, hw]
  · exact hne rfl
end Go.Proofs.Ytilmpkoklkgjeaa.P
