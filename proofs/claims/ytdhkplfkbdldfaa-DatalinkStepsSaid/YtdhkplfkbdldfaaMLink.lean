/- A data link in plain words: events, alignment, what is delivered, how the item grows. No program in sight. -/
import Derived.Test.YtdhkplfkbdldfaaP0
namespace Go.Proofs.Ytdhkplfkbdldfaa.P
set_option linter.unusedVariables false
/-- A frame: its label and its item. -/
abbrev Fr := S46
/-- A data link. -/
structure DL where
  cap : Int
  mod : Int
  lab : Int
  item : Int
  last : Int
  fr : List Fr
  ak : List Int
/-- All labels under way, the one nearest to its end first. -/
def DL.q (x : DL) : List Int := x.ak ++ x.last :: x.fr.map (·.f0)
def ValidD (x : DL) : Prop :=
  1 ≤ x.cap ∧ x.cap ≤ 8 ∧ 2 * x.cap + 2 ≤ x.mod ∧ x.mod ≤ 64 ∧ 0 ≤ x.lab ∧ x.lab < x.mod ∧ 0 ≤ x.last ∧ x.last < x.mod ∧ 0 ≤ x.item ∧ x.item ≤ 1073741824 ∧
  (x.fr.length : Int) ≤ x.cap ∧ (x.ak.length : Int) ≤ x.cap ∧ (∀ f ∈ x.fr, 0 ≤ f.f0 ∧ f.f0 < x.mod ∧ -1073741824 ≤ f.f1 ∧ f.f1 ≤ 1073741824) ∧ ∀ a ∈ x.ak, 0 ≤ a ∧ a < x.mod
/-- One event at a valid link. -/
def stepD (x : DL) (kind at_ : Int) : DL × Int × Bool :=
  if kind = 1 then (if (x.fr.length : Int) < x.cap then ({ x with fr := x.fr ++ [⟨x.lab, x.item⟩] }, 0, false) else (x, 0, false))
  else if kind = 2 then (match x.fr with
    | [] => (x, 0, false)
    | f :: r => ({ x with fr := r, last := f.f0, ak := if (x.ak.length : Int) < x.cap then x.ak ++ [f.f0] else x.ak }, if f.f0 = x.last then 0 else f.f1, decide (f.f0 ≠ x.last)))
  else if kind = 3 then (match x.ak with
    | [] => (x, 0, false)
    | a :: r => ((if a = x.lab then { x with ak := r, lab := (x.lab + 1) % x.mod, item := min (x.item + 1) 1073741824 } else { x with ak := r }), 0, false))
  else if kind = 4 then (if 0 ≤ at_ ∧ at_ < x.fr.length then ({ x with fr := x.fr.eraseIdx at_.toNat }, 0, false) else (x, 0, false))
  else if kind = 5 then (if 0 ≤ at_ ∧ at_ < x.ak.length then ({ x with ak := x.ak.eraseIdx at_.toNat }, 0, false) else (x, 0, false))
  else (x, 0, false)

/-- What an event may do to the labels under way: the sender's label stays, or all that is under way after the first is that label. -/
theorem mem_eraseIdx' {α : Type} {l : List α} {i : Nat} {a : α} (h : a ∈ l.eraseIdx i) : a ∈ l := List.mem_of_mem_eraseIdx h

theorem stepD_valid {x : DL} (h : ValidD x) (k a : Int) : ValidD (stepD x k a).1 := by
  obtain ⟨h1, h2, h3, h4, h5, h6, h7, h8, h9, h10, h11, h12, h13, h14⟩ := h
  unfold stepD
  split
  · split
    · rename_i hk hl
      refine ⟨h1, h2, h3, h4, h5, h6, h7, h8, h9, h10, ?_, h12, ?_, h14⟩
      · simp; omega
      · intro f hf
        rcases List.mem_append.1 hf with hf | hf
        · exact h13 f hf
        · rw [List.mem_singleton.1 hf]; exact ⟨h5, h6, by show -1073741824 ≤ x.item; omega, h10⟩
    · exact ⟨h1, h2, h3, h4, h5, h6, h7, h8, h9, h10, h11, h12, h13, h14⟩
  · split
    · split
      · exact ⟨h1, h2, h3, h4, h5, h6, h7, h8, h9, h10, h11, h12, h13, h14⟩
      · rename_i f r hr
        have hf := h13 f (by rw [hr]; exact List.mem_cons_self)
        rw [hr] at h11
        refine ⟨h1, h2, h3, h4, h5, h6, hf.1, hf.2.1, h9, h10, ?_, ?_, ?_, ?_⟩
        · simp at h11 ⊢; omega
        · show ((if (x.ak.length : Int) < x.cap then x.ak ++ [f.f0] else x.ak).length : Int) ≤ x.cap
          split
          · simp; omega
          · exact h12
        · exact fun g hg => h13 g (by rw [hr]; exact List.mem_cons_of_mem _ hg)
        · intro b hb
          have hb : b ∈ (if (x.ak.length : Int) < x.cap then x.ak ++ [f.f0] else x.ak) := hb
          split at hb
          · rcases List.mem_append.1 hb with hb | hb
            · exact h14 b hb
            · rw [List.mem_singleton.1 hb]; exact ⟨hf.1, hf.2.1⟩
          · exact h14 b hb
    · split
      · split
        · exact ⟨h1, h2, h3, h4, h5, h6, h7, h8, h9, h10, h11, h12, h13, h14⟩
        · rename_i b r hr
          rw [hr] at h12
          have h12' : (r.length : Int) ≤ x.cap := by simp at h12; omega
          have h14' : ∀ b ∈ r, 0 ≤ b ∧ b < x.mod := fun b hb => h14 b (by rw [hr]; exact List.mem_cons_of_mem _ hb)
          dsimp only
          split
          · exact ⟨h1, h2, h3, h4, Int.emod_nonneg _ (by omega), Int.emod_lt_of_pos _ (by omega), h7, h8, by dsimp only; omega, by dsimp only; omega, h11, h12', h13, h14'⟩
          · exact ⟨h1, h2, h3, h4, h5, h6, h7, h8, h9, h10, h11, h12', h13, h14'⟩
      · split
        · split
          · rename_i hl
            refine ⟨h1, h2, h3, h4, h5, h6, h7, h8, h9, h10, ?_, h12, fun f hf => h13 f (mem_eraseIdx' hf), h14⟩
            have := List.length_eraseIdx_le x.fr a.toNat
            show ((x.fr.eraseIdx a.toNat).length : Int) ≤ x.cap
            omega
          · exact ⟨h1, h2, h3, h4, h5, h6, h7, h8, h9, h10, h11, h12, h13, h14⟩
        · split
          · split
            · refine ⟨h1, h2, h3, h4, h5, h6, h7, h8, h9, h10, h11, ?_, h13, fun f hf => h14 f (mem_eraseIdx' hf)⟩
              have := List.length_eraseIdx_le x.ak a.toNat
              show ((x.ak.eraseIdx a.toNat).length : Int) ≤ x.cap
              omega
            · exact ⟨h1, h2, h3, h4, h5, h6, h7, h8, h9, h10, h11, h12, h13, h14⟩
          · exact ⟨h1, h2, h3, h4, h5, h6, h7, h8, h9, h10, h11, h12, h13, h14⟩

theorem stepD_const (x : DL) (k a : Int) : (stepD x k a).1.cap = x.cap ∧ (stepD x k a).1.mod = x.mod := by
  unfold stepD
  repeat' split
  all_goals (first | exact ⟨rfl, rfl⟩ | (dsimp only; split <;> exact ⟨rfl, rfl⟩))

/-- From old to new: behind the sender's label no other one. -/
def Mono (l : Int) (q : List Int) : Prop := q.Pairwise fun a b => a = l → b = l

/-- An event in words: either the sender's label and item stay, and what is under way came out of what was by losses, doublings of neighbours and the sender's label behind; or the oldest was the sender's label. -/
theorem stepD_mono {x : DL} {l : Int} (hm : Mono l x.q) (k a : Int) (hk : k = 1 → l = x.lab) : Mono l (stepD x k a).1.q := by
  unfold Mono at hm ⊢
  unfold DL.q at hm ⊢
  unfold stepD
  split
  · rename_i h1
    split
    · dsimp only
      rw [List.map_append, ← List.cons_append, ← List.append_assoc]
      refine List.pairwise_append.2 ⟨hm, by simp, fun a ha b hb hab => ?_⟩
      simp at hb
      rw [hb, hk h1]
    · exact hm
  · split
    · split
      · exact hm
      · rename_i f r hr
        rw [hr] at hm
        dsimp only
        simp only [List.map_cons] at hm
        have hs : (x.ak ++ f.f0 :: r.map (·.f0)).Pairwise fun a b => a = l → b = l := hm.sublist (List.Sublist.append (List.Sublist.refl _) (List.sublist_cons_self _ _))
        split
        · rw [List.append_assoc]
          obtain ⟨p1, p2, p3⟩ := List.pairwise_append.1 hs
          refine List.pairwise_append.2 ⟨p1, ?_, ?_⟩
          · rw [List.singleton_append]
            refine List.pairwise_cons.2 ⟨fun b hb hab => ?_, p2⟩
            rcases List.mem_cons.1 hb with hb | hb
            · rw [hb, hab]
            · exact (List.pairwise_cons.1 p2).1 b hb hab
          · intro a ha b hb hab
            rcases List.mem_append.1 hb with hb | hb
            · exact p3 a ha b (by rw [List.mem_singleton.1 hb]; exact List.mem_cons_self) hab
            · exact p3 a ha b hb hab
        · exact hs
    · split
      · split
        · exact hm
        · rename_i b r hr
          rw [hr] at hm
          have := (List.pairwise_cons.1 hm).2
          dsimp only
          split <;> exact this
      · split
        · split
          · dsimp only
            refine hm.sublist (List.Sublist.append (List.Sublist.refl _) (List.Sublist.cons_cons _ ?_))
            exact (List.eraseIdx_sublist _ _).map _
          · exact hm
        · split
          · split
            · dsimp only
              exact hm.sublist (List.Sublist.append (List.eraseIdx_sublist _ _) (List.Sublist.refl _))
            · exact hm
          · exact hm
theorem q_step_mem {x : DL} {k a y : Int} (h : y ∈ (stepD x k a).1.q) : y ∈ x.q ∨ (k = 1 ∧ y = x.lab) := by
  unfold stepD at h
  unfold DL.q at h ⊢
  split at h
  · rename_i h1
    split at h
    · dsimp only at h
      simp only [List.map_append, List.mem_append, List.mem_cons, List.map_cons, List.map_nil, List.not_mem_nil, or_false] at h ⊢
      rcases h with h | h | h | h
      · exact .inl (.inl h)
      · exact .inl (.inr (.inl h))
      · exact .inl (.inr (.inr h))
      · exact .inr ⟨h1, h⟩
    · exact .inl h
  · split at h
    · split at h
      · exact .inl h
      · rename_i f r hr
        left
        rw [hr]
        dsimp only at h
        split at h
        · simp only [List.mem_append, List.mem_cons, List.map_cons, List.not_mem_nil, or_false] at h ⊢
          rcases h with (h | h) | h | h
          · exact .inl h
          · exact .inr (.inr (.inl h))
          · exact .inr (.inr (.inl h))
          · exact .inr (.inr (.inr h))
        · simp only [List.mem_append, List.mem_cons, List.map_cons] at h ⊢
          rcases h with h | h | h
          · exact .inl h
          · exact .inr (.inr (.inl h))
          · exact .inr (.inr (.inr h))
    · left
      split at h
      · split at h
        · exact h
        · rename_i b r hr
          rw [hr]
          dsimp only at h
          split at h <;> exact List.mem_cons_of_mem _ h
      · split at h
        · split at h
          · dsimp only at h
            simp only [List.mem_append, List.mem_cons] at h ⊢
            rcases h with h | h | h
            · exact .inl h
            · exact .inr (.inl h)
            · obtain ⟨f, hf, e⟩ := List.mem_map.1 h
              exact .inr (.inr (List.mem_map.2 ⟨f, mem_eraseIdx' hf, e⟩))
          · exact h
        · split at h
          · split at h
            · dsimp only at h
              rcases List.mem_append.1 h with h | h
              · exact List.mem_append_left _ (mem_eraseIdx' h)
              · exact List.mem_append_right _ h
            · exact h
          · exact h
/-- The sender's side of an event. -/
theorem lab_step (x : DL) (k a : Int) : ((stepD x k a).1.lab = x.lab ∧ (stepD x k a).1.item = x.item) ∨
    (∃ r, k = 3 ∧ x.ak = x.lab :: r ∧ stepD x k a = ({ x with ak := r, lab := (x.lab + 1) % x.mod, item := min (x.item + 1) 1073741824 }, 0, false)) := by
  unfold stepD
  split
  · left; split <;> exact ⟨rfl, rfl⟩
  · split
    · left; split <;> exact ⟨rfl, rfl⟩
    · split
      · split
        · left; exact ⟨rfl, rfl⟩
        · rename_i hk _ b r hr
          by_cases e : b = x.lab
          · right; exact ⟨r, hk, by rw [hr, e], by rw [if_pos e]⟩
          · left; rw [if_neg e]; exact ⟨rfl, rfl⟩
      · left
        repeat' split
        all_goals exact ⟨rfl, rfl⟩

def AlignedD (x : DL) : Prop := Mono x.lab x.q ∧ ∀ y ∈ x.q, y = x.lab ∨ y = (x.lab + x.mod - 1) % x.mod
theorem before_next (l m : Int) (h0 : 0 ≤ l) (h1 : l < m) : (((l + 1) % m) + m - 1) % m = l := by
  rcases (show l + 1 < m ∨ l + 1 = m by omega) with h | h
  · rw [Int.emod_eq_of_lt (a := l + 1) (by omega) h, show l + 1 + m - 1 = l + m * 1 by omega, Int.add_mul_emod_self_left, Int.emod_eq_of_lt h0 h1]
  · rw [h, Int.emod_self, show 0 + m - 1 = l by omega, Int.emod_eq_of_lt h0 h1]
theorem next_ne (l m : Int) (h0 : 0 ≤ l) (h1 : l < m) (h2 : 2 ≤ m) : (l + 1) % m ≠ l := by
  rcases (show l + 1 < m ∨ l + 1 = m by omega) with h | h
  · rw [Int.emod_eq_of_lt (a := l + 1) (by omega) h]; omega
  · rw [h, Int.emod_self]; omega
theorem before_ne (l m : Int) (h0 : 0 ≤ l) (h1 : l < m) (h2 : 2 ≤ m) : (l + m - 1) % m ≠ l := by
  rcases (show 1 ≤ l ∨ l = 0 by omega) with h | h
  · rw [show l + m - 1 = (l - 1) + m * 1 by omega, Int.add_mul_emod_self_left, Int.emod_eq_of_lt (by omega) (by omega)]; omega
  · subst h; rw [Int.emod_eq_of_lt (by omega) (by omega)]; omega
/-- Behind an acknowledgement of the sender's label nothing else is under way. -/
theorem ack_all {x : DL} {r : List Int} (hm : Mono x.lab x.q) (hr : x.ak = x.lab :: r) : ∀ y ∈ r ++ x.last :: x.fr.map (·.f0), y = x.lab := by
  unfold Mono DL.q at hm
  rw [hr, List.cons_append] at hm
  exact fun y hy => (List.pairwise_cons.1 hm).1 y hy rfl
theorem ack_aligned {x : DL} {r : List Int} (hv : ValidD x) (hm : Mono x.lab x.q) (hr : x.ak = x.lab :: r) (it : Int) : AlignedD { x with ak := r, lab := (x.lab + 1) % x.mod, item := it } := by
  obtain ⟨h1, h2, h3, h4, h5, h6, h7, h8, h9, h10, h11, h12, h13, h14⟩ := hv
  have hall := ack_all hm hr
  constructor
  · refine List.Pairwise.imp_of_mem (fun {a b} ha hb _ hab => ?_) (List.pairwise_of_forall (R := fun _ _ => True) (fun _ _ => trivial))
    have := hall a ha
    rw [this] at hab
    exact absurd hab.symm (next_ne x.lab x.mod h5 h6 (by omega))
  · intro y hy
    right
    rw [hall y hy]
    exact (before_next x.lab x.mod h5 h6).symm
theorem aligned_step {x : DL} (hv : ValidD x) (ha : AlignedD x) (k a : Int) : AlignedD (stepD x k a).1 := by
  rcases lab_step x k a with ⟨hl, hi⟩ | ⟨r, hk, hr, he⟩
  · refine ⟨?_, fun y hy => ?_⟩
    · rw [hl]; exact stepD_mono ha.1 k a fun _ => rfl
    · rw [hl, (stepD_const x k a).2]
      rcases q_step_mem hy with h | h
      · exact ha.2 y h
      · exact .inl h.2
  · rw [he]
    exact ack_aligned hv ha.1 hr _
theorem pigeon : ∀ (n : Nat) (q : List Int), q.length < n → ∃ m : Nat, m < n ∧ (m : Int) ∉ q
  | 0, q, h => absurd h (by omega)
  | n + 1, q, h => by
    by_cases hn : (n : Int) ∈ q
    · obtain ⟨m, hm, hq⟩ := pigeon n (q.erase (n : Int)) (by have := List.length_erase_of_mem hn; have := List.length_pos_of_mem hn; omega)
      refine ⟨m, by omega, fun hc => hq ?_⟩
      exact (List.mem_erase_of_ne (by omega)).2 hc
    · exact ⟨n, by omega, hn⟩
theorem q_len (x : DL) : x.q.length = x.ak.length + x.fr.length + 1 := by unfold DL.q; simp; omega
theorem emod_shift_ne (L g j m : Int) (h0 : 0 ≤ g) (h1 : g < j) (h2 : j < m) : (L + g) % m ≠ (L + j) % m := by
  intro h
  have h3 : (L + j - (L + g)) % m = 0 := by rw [Int.sub_emod, h, Int.sub_self, Int.zero_emod]
  rw [show L + j - (L + g) = j - g by omega, Int.emod_eq_of_lt (by omega) (by omega)] at h3
  omega
/-- The label that is not under way at the start, as the number of labels from the sender's to it. -/
theorem free_label {x : DL} (hv : ValidD x) : ∃ j : Int, 0 ≤ j ∧ j < x.mod ∧ (x.lab + j) % x.mod ∉ x.q := by
  obtain ⟨h1, h2, h3, h4, h5, h6, h7, h8, h9, h10, h11, h12, h13, h14⟩ := hv
  obtain ⟨m, hm, hq⟩ := pigeon x.mod.toNat x.q (by rw [q_len]; omega)
  refine ⟨((m : Int) - x.lab) % x.mod, Int.emod_nonneg _ (by omega), Int.emod_lt_of_pos _ (by omega), ?_⟩
  rw [Int.add_emod, Int.emod_emod, ← Int.add_emod, show x.lab + ((m : Int) - x.lab) = m by omega, Int.emod_eq_of_lt (by omega) (by omega)]
  exact hq
/-- What is delivered. -/
theorem deliver_step (x : DL) (k a : Int) : (∃ f r, x.fr = f :: r ∧ stepD x k a = ((stepD x k a).1, if f.f0 = x.last then 0 else f.f1, decide (f.f0 ≠ x.last)) ∧ (stepD x k a).1.last = f.f0 ∧ (stepD x k a).1.lab = x.lab ∧ (stepD x k a).1.item = x.item ∧ ∀ g ∈ (stepD x k a).1.fr, g ∈ x.fr) ∨
    ((stepD x k a).1.last = x.last ∧ (stepD x k a).2 = (0, false) ∧ ∀ g ∈ (stepD x k a).1.fr, g ∈ x.fr ∨ g = ⟨x.lab, x.item⟩) := by
  unfold stepD
  split
  · right
    split
    · refine ⟨rfl, rfl, fun g hg => ?_⟩
      rcases List.mem_append.1 hg with hg | hg
      · exact .inl hg
      · exact .inr (List.mem_singleton.1 hg)
    · exact ⟨rfl, rfl, fun g hg => .inl hg⟩
  · split
    · split
      · exact .inr ⟨rfl, rfl, fun g hg => .inl hg⟩
      · rename_i f r hr
        exact .inl ⟨f, r, hr, rfl, rfl, rfl, rfl, fun g hg => by rw [hr]; exact List.mem_cons_of_mem _ hg⟩
    · right
      split
      · split
        · exact ⟨rfl, rfl, fun g hg => .inl hg⟩
        · dsimp only; split <;> exact ⟨rfl, rfl, fun g hg => .inl hg⟩
      · split
        · split
          · exact ⟨rfl, rfl, fun g hg => .inl (mem_eraseIdx' hg)⟩
          · exact ⟨rfl, rfl, fun g hg => .inl hg⟩
        · split
          · split <;> exact ⟨rfl, rfl, fun g hg => .inl hg⟩
          · exact ⟨rfl, rfl, fun g hg => .inl hg⟩
/-- The state on the way to alignment; I0 and L0: the item and the label at the start; j: how many labels on a label comes that is not under way; f: the first item that is sure; n: the next item that is awaited. -/
def Way (L0 I0 j f n : Int) (x : DL) : Prop :=
  (x.item - I0 < j ∧ 0 ≤ x.item - I0 ∧ x.lab = (L0 + (x.item - I0)) % x.mod ∧ (L0 + j) % x.mod ∉ x.q ∧ (∀ g ∈ x.fr, g.f1 < f) ∧ n = f) ∨
  (x.item - I0 = j ∧ x.lab = (L0 + j) % x.mod ∧ Mono x.lab x.q ∧ (∀ g ∈ x.fr, if g.f0 = x.lab then g.f1 = x.item else g.f1 < f) ∧ n = if x.item = f ∧ x.last = x.lab then f + 1 else f) ∨
  (j < x.item - I0 ∧ AlignedD x ∧ (∀ g ∈ x.fr, g.f0 = x.lab → g.f1 = x.item) ∧ n = if x.item < f then f else if x.last = x.lab then x.item + 1 else x.item)
/-- One delivered item held against the awaited one. -/
def await (f n d : Int) : Option Int := if f ≤ d then (if d = n then some (n + 1) else none) else some n
theorem last_mem (x : DL) : x.last ∈ x.q := by unfold DL.q; simp
theorem fr_mem {x : DL} {g : Fr} (h : g ∈ x.fr) : g.f0 ∈ x.q := by
  unfold DL.q
  exact List.mem_append_right _ (List.mem_cons_of_mem _ (List.mem_map.2 ⟨g, h, rfl⟩))
theorem last_front {x : DL} (hm : Mono x.lab x.q) {g : Fr} (h : g ∈ x.fr) (e : x.last = x.lab) : g.f0 = x.lab := by
  unfold Mono DL.q at hm
  exact (List.pairwise_cons.1 (List.pairwise_append.1 hm).2.1).1 _ (List.mem_map.2 ⟨g, h, rfl⟩) e
theorem way_step {L0 I0 j f n : Int} {x : DL} (hv : ValidD x) (hj0 : 0 ≤ j) (hj : j < x.mod) (hf : f = I0 + x.mod - 1) (hi : x.item < 1073741824) (h : Way L0 I0 j f n x) (k a : Int) :
    ∃ n', (if (stepD x k a).2.2 = true then await f n (stepD x k a).2.1 else some n) = some n' ∧ Way L0 I0 j f n' (stepD x k a).1 := by
  have hv' := hv
  obtain ⟨h1, h2, h3, h4, h5, h6, h7, h8, h9, h10, h11, h12, h13, h14⟩ := hv'
  have hc := (stepD_const x k a).2
  rcases lab_step x k a with ⟨hl, hit⟩ | ⟨r, hk, hr, he⟩
  · rcases h with ⟨ha1, ha2, ha3, ha4, ha5, rfl⟩ | ⟨hb1, hb2, hb3, hb4, hb5⟩ | ⟨hc1, hc2, hc3, hc4⟩
    · -- before the label
      have key : Way L0 I0 j n n (stepD x k a).1 := by
        refine .inl ⟨by rw [hit]; exact ha1, by rw [hit]; exact ha2, by rw [hl, hit, hc]; exact ha3, ?_, ?_, rfl⟩
        · rw [hc]
          intro hy
          rcases q_step_mem hy with hy | hy
          · exact ha4 hy
          · rw [ha3] at hy
            exact emod_shift_ne L0 (x.item - I0) j x.mod ha2 ha1 hj hy.2.symm
        · rcases deliver_step x k a with ⟨g, r, _, _, _, _, _, hg⟩ | ⟨_, _, hg⟩
          · exact fun g h => ha5 g (hg g h)
          · intro g h
            rcases hg g h with h | h
            · exact ha5 g h
            · rw [h]; show x.item < n; omega
      refine ⟨n, ?_, key⟩
      rcases deliver_step x k a with ⟨g, r, hg, hd, _⟩ | ⟨_, hd, _⟩
      · have := ha5 g (by rw [hg]; exact List.mem_cons_self)
        rw [hd]
        dsimp only
        by_cases e : g.f0 = x.last
        · simp [e]
        · simp only [e, ne_eq, not_false_eq_true, decide_true, if_true, if_false]
          unfold await
          rw [if_neg (by omega)]
      · rw [hd]; simp
    · -- the label is the sender's
      have hmono : Mono (stepD x k a).1.lab (stepD x k a).1.q := by rw [hl]; exact stepD_mono hb3 k a fun _ => rfl
      have hfr : ∀ g ∈ (stepD x k a).1.fr, if g.f0 = (stepD x k a).1.lab then g.f1 = (stepD x k a).1.item else g.f1 < f := by
        rw [hl, hit]
        rcases deliver_step x k a with ⟨g, r, _, _, _, _, _, hg⟩ | ⟨_, _, hg⟩
        · exact fun g h => hb4 g (hg g h)
        · intro g h
          rcases hg g h with h | h
          · exact hb4 g h
          · rw [h]; simp
      rcases deliver_step x k a with ⟨g, r, hg, hd, hla, _, _, _⟩ | ⟨hla, hd, _⟩
      · have hgm : g ∈ x.fr := by rw [hg]; exact List.mem_cons_self
        have hgd := hb4 g hgm
        refine ⟨if x.item = f ∧ g.f0 = x.lab then f + 1 else f, ?_, .inr (.inl ⟨by rw [hit]; exact hb1, by rw [hl, hc]; exact hb2, hmono, hfr, by rw [hit, hl, hla]⟩)⟩
        rw [hd]
        dsimp only
        by_cases e : g.f0 = x.last
        · simp only [e, ne_eq, not_true_eq_false, decide_false, Bool.false_eq_true, if_false]
          rw [hb5]
        · simp only [e, ne_eq, not_false_eq_true, decide_true, if_true, if_false]
          by_cases e2 : g.f0 = x.lab
          · rw [if_pos e2] at hgd
            have hln : x.last ≠ x.lab := fun h => e (e2.trans h.symm)
            rw [if_neg (fun h => hln h.2)] at hb5
            unfold await
            by_cases e3 : x.item = f
            · rw [if_pos (by omega), if_pos (by omega), if_pos ⟨e3, e2⟩]
              congr 1; omega
            · rw [if_neg (by omega), if_neg (fun h => e3 h.1), hb5]
          · rw [if_neg e2] at hgd
            have hln : x.last ≠ x.lab := fun h => e2 (last_front hb3 hgm h)
            rw [if_neg (fun h => hln h.2)] at hb5
            unfold await
            rw [if_neg (by omega), if_neg (fun h => e2 h.2), hb5]
      · refine ⟨n, by rw [hd]; simp, .inr (.inl ⟨by rw [hit]; exact hb1, by rw [hl, hc]; exact hb2, hmono, hfr, by rw [hit, hl, hla]; exact hb5⟩)⟩
    · -- aligned
      have hal := aligned_step hv hc2 k a
      have hfr : ∀ g ∈ (stepD x k a).1.fr, g.f0 = (stepD x k a).1.lab → g.f1 = (stepD x k a).1.item := by
        rw [hl, hit]
        rcases deliver_step x k a with ⟨g, r, _, _, _, _, _, hg⟩ | ⟨_, _, hg⟩
        · exact fun g h => hc3 g (hg g h)
        · intro g h
          rcases hg g h with h | h
          · exact hc3 g h
          · rw [h]; simp
      rcases deliver_step x k a with ⟨g, r, hg, hd, hla, _, _, _⟩ | ⟨hla, hd, _⟩
      · have hgm : g ∈ x.fr := by rw [hg]; exact List.mem_cons_self
        refine ⟨if x.item < f then f else if g.f0 = x.lab then x.item + 1 else x.item, ?_, .inr (.inr ⟨by rw [hit]; exact hc1, hal, hfr, by rw [hit, hl, hla]⟩)⟩
        rw [hd]
        dsimp only
        by_cases e : g.f0 = x.last
        · simp only [e, ne_eq, not_true_eq_false, decide_false, Bool.false_eq_true, if_false]
          rw [hc4]
        · simp only [e, ne_eq, not_false_eq_true, decide_true, if_true, if_false]
          have hln : x.last ≠ x.lab := fun h => e ((last_front hc2.1 hgm h).trans h.symm)
          have e2 : g.f0 = x.lab := by
            rcases hc2.2 _ (fr_mem hgm) with h | h
            · exact h
            · rcases hc2.2 _ (last_mem x) with h' | h'
              · exact absurd h' hln
              · exact absurd (h.trans h'.symm) e
          have hgd := hc3 g hgm e2
          rw [if_neg hln] at hc4
          rw [if_pos e2]
          unfold await
          by_cases e3 : x.item < f
          · rw [if_pos e3] at hc4 ⊢
            rw [if_neg (by omega), hc4]
          · rw [if_neg e3] at hc4 ⊢
            rw [if_pos (by omega), if_pos (by omega), hc4]
      · refine ⟨n, by rw [hd]; simp, .inr (.inr ⟨by rw [hit]; exact hc1, hal, hfr, by rw [hit, hl, hla]; exact hc4⟩)⟩
  · -- the sender's label is acknowledged
    have hmin : min (x.item + 1) 1073741824 = x.item + 1 := by omega
    rw [hmin] at he
    refine ⟨n, by rw [he]; simp, ?_⟩
    rw [he]
    dsimp only
    have hsub : ∀ y ∈ r ++ x.last :: x.fr.map (·.f0), y ∈ x.q := fun y hy => by unfold DL.q; rw [hr]; exact List.mem_cons_of_mem _ hy
    rcases h with ⟨ha1, ha2, ha3, ha4, ha5, rfl⟩ | ⟨hb1, hb2, hb3, hb4, hb5⟩ | ⟨hc1, hc2, hc3, hc4⟩
    · have hl' : (x.lab + 1) % x.mod = (L0 + (x.item + 1 - I0)) % x.mod := by
        rw [ha3, Int.add_emod, Int.emod_emod, ← Int.add_emod]; congr 1; omega
      by_cases e : x.item + 1 - I0 < j
      · exact .inl ⟨e, by show 0 ≤ x.item + 1 - I0; omega, hl', fun hy => ha4 (hsub _ hy), ha5, rfl⟩
      · have ej : x.item + 1 - I0 = j := by omega
        refine .inr (.inl ⟨ej, by rw [← ej]; exact hl', ?_, ?_, ?_⟩)
        · refine List.Pairwise.imp_of_mem (fun {a b} ha hb _ hab => ?_) (List.pairwise_of_forall (R := fun _ _ => True) (fun _ _ => trivial))
          exfalso
          refine ha4 (hsub _ ?_)
          rw [← ej, ← hl', ← (show a = (x.lab + 1) % x.mod from hab)]
          exact ha
        · intro g hg
          show if g.f0 = (x.lab + 1) % x.mod then g.f1 = x.item + 1 else g.f1 < n
          rw [if_neg]
          · exact ha5 g hg
          · intro h
            refine ha4 ?_
            rw [← ej, ← hl', ← h]
            exact fr_mem hg
        · show n = if x.item + 1 = n ∧ x.last = (x.lab + 1) % x.mod then n + 1 else n
          rw [if_neg]
          rintro ⟨_, h⟩
          refine ha4 ?_
          rw [← ej, ← hl', ← h]
          exact last_mem x
    · have hall := ack_all hb3 hr
      have hlast : x.last = x.lab := hall _ (by simp)
      have hne := next_ne x.lab x.mod h5 h6 (by omega)
      refine .inr (.inr ⟨by show j < x.item + 1 - I0; omega, ack_aligned hv hb3 hr _, ?_, ?_⟩)
      · intro g hg h
        have := hall g.f0 (List.mem_append_right _ (List.mem_cons_of_mem _ (List.mem_map.2 ⟨g, hg, rfl⟩)))
        rw [this] at h
        exact absurd h.symm hne
      · show n = if x.item + 1 < f then f else if x.last = (x.lab + 1) % x.mod then x.item + 1 + 1 else x.item + 1
        rw [if_neg (c := x.last = (x.lab + 1) % x.mod) (by rw [hlast]; exact fun h => hne h.symm)]
        rw [hb5]
        by_cases e : x.item = f
        · rw [if_pos ⟨e, hlast⟩, if_neg (by omega)]; omega
        · rw [if_neg (fun h => e h.1)]
          by_cases e2 : x.item + 1 < f
          · rw [if_pos e2]
          · rw [if_neg e2]; omega
    · have hall := ack_all hc2.1 hr
      have hlast : x.last = x.lab := hall _ (by simp)
      have hne := next_ne x.lab x.mod h5 h6 (by omega)
      refine .inr (.inr ⟨by show j < x.item + 1 - I0; omega, ack_aligned hv hc2.1 hr _, ?_, ?_⟩)
      · intro g hg h
        have := hall g.f0 (List.mem_append_right _ (List.mem_cons_of_mem _ (List.mem_map.2 ⟨g, hg, rfl⟩)))
        rw [this] at h
        exact absurd h.symm hne
      · show n = if x.item + 1 < f then f else if x.last = (x.lab + 1) % x.mod then x.item + 1 + 1 else x.item + 1
        rw [if_neg (c := x.last = (x.lab + 1) % x.mod) (by rw [hlast]; exact fun h => hne h.symm)]
        rw [hc4, if_pos hlast]
        by_cases e2 : x.item + 1 < f
        · rw [if_pos e2, if_pos (by omega)]
        · rw [if_neg e2]
          by_cases e3 : x.item < f
          · rw [if_pos e3]; omega
          · rw [if_neg e3]
theorem way_start {x : DL} (hv : ValidD x) (hneg : ∀ g ∈ x.fr, g.f1 < 0) : ∃ j : Int, 0 ≤ j ∧ j < x.mod ∧ Way x.lab x.item j (x.item + x.mod - 1) (x.item + x.mod - 1) x := by
  obtain ⟨j, h0, hj, hq⟩ := free_label hv
  obtain ⟨h1, h2, h3, h4, h5, h6, h7, h8, h9, h10, h11, h12, h13, h14⟩ := hv
  refine ⟨j, h0, hj, ?_⟩
  have hfr : ∀ g ∈ x.fr, g.f1 < x.item + x.mod - 1 := fun g hg => by have := hneg g hg; omega
  rcases (show 0 < j ∨ j = 0 by omega) with hp | rfl
  · exact .inl ⟨by omega, by omega, by rw [show x.lab + (x.item - x.item) = x.lab by omega, Int.emod_eq_of_lt h5 h6], hq, hfr, rfl⟩
  · have e : (x.lab + 0) % x.mod = x.lab := by rw [Int.add_zero, Int.emod_eq_of_lt h5 h6]
    rw [e] at hq
    refine .inr (.inl ⟨by omega, e.symm, ?_, fun g hg => ?_, ?_⟩)
    · refine List.Pairwise.imp_of_mem (fun {a b} ha hb _ hab => ?_) (List.pairwise_of_forall (R := fun _ _ => True) (fun _ _ => trivial))
      rw [hab] at ha
      exact absurd ha hq
    · rw [if_neg]
      · exact hfr g hg
      · intro h; exact hq (h ▸ fr_mem hg)
    · rw [if_neg]
      rintro ⟨_, h⟩
      exact hq (h ▸ last_mem x)
theorem way_aligned {L0 I0 j f n : Int} {x : DL} (h : Way L0 I0 j f n x) (hj : j < x.mod) (hg : x.mod ≤ x.item - I0) : AlignedD x := by
  rcases h with h | h | h
  · omega
  · omega
  · exact h.2.1
theorem way_end {L0 I0 j f n : Int} {x : DL} (h : Way L0 I0 j f n x) (hj : j < x.mod) (hf : f = I0 + x.mod - 1) : (x.item ≤ f → n ≤ f + 1) ∧ (f < x.item → n = x.item ∨ n = x.item + 1) := by
  rcases h with ⟨a, b, c, d, e, rfl⟩ | ⟨a, b, c, d, e⟩ | ⟨a, b, c, d⟩
  · exact ⟨fun _ => by omega, fun _ => by omega⟩
  · refine ⟨fun _ => ?_, fun _ => by omega⟩
    rw [e]; split <;> omega
  · constructor
    · intro h
      rw [d]
      split
      · omega
      · split <;> omega
    · intro h
      rw [d, if_neg (by omega)]
      split
      · exact .inr rfl
      · exact .inl rfl

theorem item_step {x : DL} (hv : ValidD x) (k a : Int) : x.item ≤ (stepD x k a).1.item ∧ (stepD x k a).1.item ≤ x.item + 1 := by
  obtain ⟨h1, h2, h3, h4, h5, h6, h7, h8, h9, h10, h11, h12, h13, h14⟩ := hv
  rcases lab_step x k a with ⟨_, h⟩ | ⟨r, _, _, h⟩
  · rw [h]; omega
  · rw [h]; dsimp only; omega
/-- Delivery, acknowledgement, transmission. -/
def cyc (x : DL) : DL := (stepD (stepD (stepD x 2 0).1 3 0).1 1 0).1
def DL.w (x : DL) : List Int := x.ak ++ x.fr.map (·.f0)
theorem step_ack (x : DL) (b : Int) (r : List Int) (h : x.ak = b :: r) : (stepD x 3 0).1 = if b = x.lab then { x with ak := r, lab := (x.lab + 1) % x.mod, item := min (x.item + 1) 1073741824 } else { x with ak := r } := by
  simp only [stepD, h]
  split <;> simp_all
theorem step_ack0 (x : DL) (h : x.ak = []) : (stepD x 3 0).1 = x := by simp only [stepD, h]; simp
theorem step_send (x : DL) (h : (x.fr.length : Int) < x.cap) : (stepD x 1 0).1 = { x with fr := x.fr ++ [⟨x.lab, x.item⟩] } := by unfold stepD; rw [if_pos rfl, if_pos h]
theorem step_del0 (x : DL) (h : x.fr = []) : (stepD x 2 0).1 = x := by simp only [stepD, h]; simp
theorem step_del (x : DL) (f : Fr) (r : List Fr) (h : x.fr = f :: r) : (stepD x 2 0).1 = { x with fr := r, last := f.f0, ak := if (x.ak.length : Int) < x.cap then x.ak ++ [f.f0] else x.ak } := by simp only [stepD, h]; simp
theorem cyc_valid {x : DL} (hv : ValidD x) : ValidD (cyc x) := stepD_valid (stepD_valid (stepD_valid hv _ _) _ _) _ _
theorem cyc_const (x : DL) : (cyc x).cap = x.cap ∧ (cyc x).mod = x.mod := by
  unfold cyc
  rw [(stepD_const _ 1 0).1, (stepD_const _ 1 0).2, (stepD_const _ 3 0).1, (stepD_const _ 3 0).2]
  exact stepD_const x 2 0
theorem cyc_item {x : DL} (hv : ValidD x) : x.item ≤ (cyc x).item ∧ (cyc x).item ≤ x.item + 3 := by
  have h1 := item_step hv 2 0
  have h2 := item_step (stepD_valid hv 2 0) 3 0
  have h3 := item_step (stepD_valid (stepD_valid hv 2 0) 3 0) 1 0
  unfold cyc
  omega
theorem cyc_full (x : DL) (hi : x.item < 1073741824) (b : Int) (r : List Int) (y : DL) (hy : y = (stepD x 2 0).1) (hl : y.lab = x.lab) (hit : y.item = x.item) (hak : y.ak = b :: r) (hfr : (y.fr.length : Int) < y.cap) :
    x.item < (cyc x).item ∨ (b ≠ x.lab ∧ cyc x = { y with ak := r, fr := y.fr ++ [⟨y.lab, y.item⟩] }) := by
  unfold cyc
  rw [← hy, step_ack y b r hak]
  by_cases e : b = y.lab
  · left
    rw [if_pos e, step_send { y with ak := r, lab := (y.lab + 1) % y.mod, item := min (y.item + 1) 1073741824 } hfr]
    dsimp only
    omega
  · right
    rw [if_neg e, step_send { y with ak := r } hfr]
    exact ⟨fun h => e (h.trans hl.symm), rfl⟩
theorem cyc_run {x : DL} (hv : ValidD x) (hi : x.item < 1073741824) (hf : x.fr ≠ []) (ha : (x.ak.length : Int) < x.cap) :
    x.item < (cyc x).item ∨ ((cyc x).item = x.item ∧ (cyc x).lab = x.lab ∧ (cyc x).fr ≠ [] ∧ ((cyc x).ak.length : Int) < x.cap ∧ ∃ b w1, x.w = b :: w1 ∧ b ≠ x.lab ∧ (cyc x).w = w1 ++ [x.lab]) := by
  obtain ⟨h1, h2, h3, h4, h5, h6, h7, h8, h9, h10, h11, h12, h13, h14⟩ := hv
  obtain ⟨f, r, hr⟩ : ∃ f r, x.fr = f :: r := by
    cases h : x.fr with
    | nil => exact absurd h hf
    | cons f r => exact ⟨f, r, rfl⟩
  have hd := step_del x f r hr
  rw [if_pos ha] at hd
  have hlen : (r.length : Int) < x.cap := by rw [hr] at h11; simp at h11; omega
  obtain ⟨b, s, hb⟩ : ∃ b s, x.ak ++ [f.f0] = b :: s := by
    cases h : x.ak with
    | nil => exact ⟨_, _, rfl⟩
    | cons b s => exact ⟨b, s ++ [f.f0], rfl⟩
  have hs : s.length = x.ak.length := by have := congrArg List.length hb; simp at this; omega
  rcases cyc_full x hi b s _ rfl (by rw [hd]) (by rw [hd]) (by rw [hd]; exact hb) (by rw [hd]; exact hlen) with h | ⟨hne, h⟩
  · exact .inl h
  · right
    rw [h, hd]
    refine ⟨rfl, rfl, by simp, by rw [hs]; exact ha, b, s ++ r.map (·.f0), ?_, hne, ?_⟩
    · unfold DL.w
      rw [hr, List.map_cons, ← List.cons_append, ← hb, List.append_assoc]; rfl
    · unfold DL.w
      simp
theorem cyc_first {x : DL} (hv : ValidD x) (hi : x.item < 1073741824) :
    x.item < (cyc x).item ∨ ((cyc x).item = x.item ∧ (cyc x).lab = x.lab ∧ (cyc x).fr ≠ [] ∧ ((cyc x).ak.length : Int) < x.cap ∧ ∃ w1, (cyc x).w = w1 ++ [x.lab]) := by
  by_cases ha : x.fr ≠ [] ∧ (x.ak.length : Int) < x.cap
  · rcases cyc_run hv hi ha.1 ha.2 with h | ⟨a, b, c, d, _, w1, _, _, h⟩
    · exact .inl h
    · exact .inr ⟨a, b, c, d, w1, h⟩
  · obtain ⟨h1, h2, h3, h4, h5, h6, h7, h8, h9, h10, h11, h12, h13, h14⟩ := hv
    cases hr : x.fr with
    | nil =>
      have hd := step_del0 x hr
      cases hk : x.ak with
      | nil =>
        right
        have : cyc x = { x with fr := x.fr ++ [⟨x.lab, x.item⟩] } := by
          unfold cyc
          rw [hd, step_ack0 x hk, step_send x (by rw [hr]; simp; omega)]
        rw [this]
        refine ⟨rfl, rfl, by simp, by rw [hk]; simp; omega, [], ?_⟩
        unfold DL.w
        simp [hr, hk]
      | cons b r =>
        rcases cyc_full x hi b r _ rfl (by rw [hd]) (by rw [hd]) (by rw [hd]; exact hk) (by rw [hd, hr]; simp; omega) with h | ⟨hne, h⟩
        · exact .inl h
        · right
          rw [h, hd]
          refine ⟨rfl, rfl, by simp, by rw [hk] at h12; simp at h12 ⊢; omega, r, ?_⟩
          unfold DL.w
          simp [hr]
    | cons f r =>
      have hlen : (r.length : Int) < x.cap := by rw [hr] at h11; simp at h11; omega
      have hfull : ¬ (x.ak.length : Int) < x.cap := fun h => ha ⟨by rw [hr]; simp, h⟩
      have hd := step_del x f r hr
      rw [if_neg hfull] at hd
      cases hk : x.ak with
      | nil => rw [hk] at hfull; simp at hfull; omega
      | cons b s =>
        rcases cyc_full x hi b s _ rfl (by rw [hd]) (by rw [hd]) (by rw [hd]; exact hk) (by rw [hd]; exact hlen) with h | ⟨hne, h⟩
        · exact .inl h
        · right
          rw [h, hd]
          refine ⟨rfl, rfl, by simp, by rw [hk] at h12; simp at h12 ⊢; omega, s ++ r.map (·.f0), ?_⟩
          unfold DL.w
          simp
def cycN : Nat → DL → DL
  | 0, x => x
  | n + 1, x => cycN n (cyc x)
theorem cycN_succ : ∀ (n : Nat) (x : DL), cycN (n + 1) x = cyc (cycN n x)
  | 0, _ => rfl
  | n + 1, x => by rw [cycN, cycN_succ n (cyc x)]; rfl
theorem cycN_valid {x : DL} (hv : ValidD x) : ∀ n, ValidD (cycN n x) ∧ (cycN n x).cap = x.cap ∧ x.item ≤ (cycN n x).item ∧ (cycN n x).item ≤ x.item + 3 * n
  | 0 => ⟨hv, rfl, Int.le_refl _, by show x.item ≤ _; omega⟩
  | n + 1 => by
    obtain ⟨h1, h2, h3, h4⟩ := cycN_valid hv n
    rw [cycN_succ]
    have := cyc_item h1
    exact ⟨cyc_valid h1, (cyc_const _).1.trans h2, by omega, by omega⟩
theorem cycN_moves {x : DL} (hv : ValidD x) (hi : x.item < 1000000000) : ∀ n : Nat, (n : Int) + 1 ≤ 2 * x.cap → x.item < (cycN (n + 1) x).item ∨ ((cycN (n + 1) x).item = x.item ∧ (cycN (n + 1) x).lab = x.lab ∧ (cycN (n + 1) x).fr ≠ [] ∧ ((cycN (n + 1) x).ak.length : Int) < x.cap ∧ ∃ p : Nat, (cycN (n + 1) x).w[p]? = some x.lab ∧ (p : Int) + 2 + n ≤ 2 * x.cap)
  | 0, _ => by
    show _ < (cyc x).item ∨ _
    rcases cyc_first hv (by omega) with h | ⟨a, b, c, d, w1, h⟩
    · exact .inl h
    · right
      refine ⟨a, b, c, d, w1.length, by show (cyc x).w[_]? = _; rw [h]; simp, ?_⟩
      have hl := congrArg List.length h
      have hv2 := cyc_valid hv
      have hfl := hv2.2.2.2.2.2.2.2.2.2.2.1
      rw [(cyc_const x).1] at hfl
      unfold DL.w at hl
      simp at hl
      omega
  | n + 1, hn => by
    have hb := cycN_valid hv (n + 1)
    have hcap := hv.2.1
    rw [cycN_succ (n + 1)]
    have hm := (cyc_item hb.1).1
    rcases cycN_moves hv hi n (by omega) with h | ⟨a, b, c, d, p, hp, hq⟩
    · left; omega
    · rcases cyc_run hb.1 (by omega) c (by rw [hb.2.1]; exact d) with h | ⟨a2, b2, c2, d2, y, w1, h1, h2, h3⟩
      · left; omega
      · right
        refine ⟨a2.trans a, b2.trans b, c2, by rw [hb.2.1] at d2; exact d2, ?_⟩
        rw [h1] at hp
        cases p with
        | zero =>
          simp at hp
          rw [b] at h2
          exact absurd hp h2
        | succ p =>
          refine ⟨p, ?_, by omega⟩
          rw [h3]
          simp at hp
          rw [List.getElem?_append_left]
          · exact hp
          · exact (List.getElem?_eq_some_iff.1 hp).1
/-- Twice the capacity of cycles: the item has grown. -/
theorem cyc_grows {x : DL} (hv : ValidD x) (hi : x.item < 1000000000) : x.item < (cycN (2 * x.cap).toNat x).item := by
  have h1 := hv.1
  obtain ⟨n, hn⟩ : ∃ n : Nat, (2 * x.cap).toNat = n + 1 := ⟨(2 * x.cap).toNat - 1, by omega⟩
  rw [hn]
  rcases cycN_moves hv hi n (by omega) with h | ⟨_, _, _, _, p, _, hq⟩
  · exact h
  · omega
end Go.Proofs.Ytdhkplfkbdldfaa.P
