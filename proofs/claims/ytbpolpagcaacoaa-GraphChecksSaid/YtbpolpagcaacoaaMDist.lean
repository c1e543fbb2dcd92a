/- Distances in a graph of n nodes, whatever 'adj' is: balls, levels, and what follows of them. No program in sight. -/
import Derived.Test.YtbpolpagcaacoaaGLem
namespace Go.Proofs.Ytbpolpagcaacoaa.P
set_option linter.unusedVariables false

section
variable (n : Nat) (adj : Nat → Nat → Bool)
/-- Node v is reached from a over at most d links. -/
def ball (a : Nat) : Nat → Nat → Bool
  | 0, v => decide (v = a)
  | d + 1, v => ball a d v || (List.range n).any (fun u => ball a d u && adj u v)
/-- .. and not over fewer. -/
def ex (a d v : Nat) : Prop := ball n adj a d v = true ∧ ∀ e, e < d → ball n adj a e v = false
/-- The distance, or -1. -/
def dst (a v : Nat) : Int := match (List.range n).find? (fun d => ball n adj a d v) with | some d => (d : Int) | none => -1
end
section
variable {n : Nat} {adj : Nat → Nat → Bool} {a : Nat}
theorem ball_succ {d v : Nat} : ball n adj a (d + 1) v = true ↔ ball n adj a d v = true ∨ ∃ u, u < n ∧ ball n adj a d u = true ∧ adj u v = true := by
  simp [ball]
theorem ball_mono {d v : Nat} (h : ball n adj a d v = true) : ∀ k, ball n adj a (d + k) v = true
  | 0 => h
  | k + 1 => ball_succ.2 (.inl (ball_mono h k))
theorem ball_le {d e v : Nat} (h : ball n adj a d v = true) (hd : d ≤ e) : ball n adj a e v = true := by
  obtain ⟨k, rfl⟩ := Nat.le.dest hd
  exact ball_mono h k
theorem ex_uniq {d e v : Nat} (h : ex n adj a d v) (k : ex n adj a e v) : d = e := by
  rcases Nat.lt_trichotomy d e with hl | hl | hl
  · have := k.2 d hl; rw [h.1] at this; cases this
  · exact hl
  · have := h.2 e hl; rw [k.1] at this; cases this
theorem ex_of_ball {v : Nat} : ∀ {d : Nat}, ball n adj a d v = true → ∃ e, e ≤ d ∧ ex n adj a e v
  | 0, h => ⟨0, Nat.le_refl _, h, fun e he => absurd he (Nat.not_lt_zero _)⟩
  | d + 1, h => by
    by_cases hd : ball n adj a d v = true
    · obtain ⟨e, he, hx⟩ := ex_of_ball hd
      exact ⟨e, by omega, hx⟩
    · refine ⟨d + 1, Nat.le_refl _, h, fun e he => ?_⟩
      cases hb : ball n adj a e v
      · rfl
      · exact absurd (ball_le hb (by omega)) hd
theorem ball_iff {d v : Nat} : ball n adj a d v = true ↔ ∃ e, e ≤ d ∧ ex n adj a e v :=
  ⟨ex_of_ball, fun ⟨e, he, hx⟩ => ball_le hx.1 he⟩
theorem ex_zero {v : Nat} : ex n adj a 0 v ↔ v = a := ⟨fun h => by simpa [ball] using h.1, fun h => ⟨by simp [ball, h], fun e he => absurd he (Nat.not_lt_zero _)⟩⟩
theorem ex_succ {d v : Nat} : ex n adj a (d + 1) v ↔ ball n adj a d v = false ∧ ∃ u, u < n ∧ ex n adj a d u ∧ adj u v = true := by
  constructor
  · intro h
    have h0 := h.2 d (by omega)
    refine ⟨h0, ?_⟩
    rcases ball_succ.1 h.1 with h1 | ⟨u, hu, hb, ha⟩
    · rw [h0] at h1; cases h1
    · refine ⟨u, hu, ?_, ha⟩
      obtain ⟨e, he, hx⟩ := ex_of_ball hb
      by_cases hed : e = d
      · exact hed ▸ hx
      · exfalso
        have : ball n adj a (e + 1) v = true := ball_succ.2 (.inr ⟨u, hu, hx.1, ha⟩)
        have := ball_le this (show e + 1 ≤ d by omega)
        rw [h0] at this; cases this
  · rintro ⟨h0, u, hu, hx, ha⟩
    refine ⟨ball_succ.2 (.inr ⟨u, hu, hx.1, ha⟩), fun e he => ?_⟩
    cases hb : ball n adj a e v
    · rfl
    · have := ball_le hb (show e ≤ d by omega)
      rw [h0] at this; cases this
theorem ball_lt (ha : a < n) (hadj : ∀ u v, adj u v = true → v < n) : ∀ {d v : Nat}, ball n adj a d v = true → v < n
  | 0, v, h => by simp [ball] at h; omega
  | d + 1, v, h => by
    rcases ball_succ.1 h with h1 | ⟨u, _, _, h2⟩
    · exact ball_lt ha hadj h1
    · exact hadj u v h2
/-- A node on level d: there are nodes on all levels up to d. -/
theorem levels (ha : a < n) (hadj : ∀ u v, adj u v = true → v < n) : ∀ {d v : Nat}, ex n adj a d v → ∃ l : List Nat, l.length = d + 1 ∧ ∀ i u, l[i]? = some u → ex n adj a i u
  | 0, v, h => ⟨[v], rfl, fun i u hu => by
    cases i with
    | zero => simp at hu; exact hu ▸ h
    | succ i => simp at hu⟩
  | d + 1, v, h => by
    obtain ⟨_, u, _, hx, _⟩ := ex_succ.1 h
    obtain ⟨l, hl, hi⟩ := levels ha hadj hx
    refine ⟨l ++ [v], by simp [hl], fun i w hw => ?_⟩
    rcases Nat.lt_or_ge i l.length with hlt | hge
    · rw [List.getElem?_append_left hlt] at hw
      exact hi i w hw
    · have : i = l.length := by
        have := (List.getElem?_eq_some_iff.1 hw).1
        simp at this
        omega
      subst this
      simp at hw
      rw [hl]
      exact hw ▸ h
theorem ex_lt (ha : a < n) (hadj : ∀ u v, adj u v = true → v < n) {d v : Nat} (h : ex n adj a d v) : d < n := by
  obtain ⟨l, hl, hi⟩ := levels ha hadj h
  have hd : (l.map (fun u : Nat => (u : Int))).Nodup := by
    rw [List.nodup_iff_pairwise_ne, List.pairwise_map, List.pairwise_iff_getElem]
    intro i j hi' hj' hij he
    have e1 := hi i l[i] (List.getElem?_eq_getElem hi')
    have e2 := hi j l[j] (List.getElem?_eq_getElem hj')
    have he2 : l[i] = l[j] := by omega
    rw [he2] at e1
    have := ex_uniq e1 e2
    omega
  have := nodup_le n _ hd (fun x hx => by
    obtain ⟨u, hu, rfl⟩ := List.mem_map.1 hx
    obtain ⟨i, hi'⟩ := List.getElem?_of_mem hu
    have := ball_lt ha hadj (hi i u hi').1
    omega)
  simp [hl] at this
  omega
theorem dst_eq (ha : a < n) (hadj : ∀ u v, adj u v = true → v < n) {d v : Nat} : dst n adj a v = (d : Int) ↔ ex n adj a d v := by
  unfold dst
  cases hf : (List.range n).find? (fun d => ball n adj a d v) with
  | none =>
    have hall := List.find?_eq_none.1 hf
    simp only
    constructor
    · intro h; omega
    · intro h
      exact absurd h.1 (hall d (List.mem_range.2 (ex_lt ha hadj h)))
  | some e =>
    have hb := List.find?_some hf
    have hmin : ∀ e', e' < e → ball n adj a e' v = false := fun e' he' => by
      have hen : e < n := List.mem_range.1 (List.mem_of_find?_eq_some hf)
      obtain ⟨_, l1, l2, hr, hall⟩ := List.find?_eq_some_iff_append.1 hf
      have hl : l1.length = e := by
        have h1 : (List.range n)[l1.length]? = some e := by rw [hr]; simp
        have := List.getElem?_eq_some_iff.1 h1
        simpa using this.2
      have hmem : e' ∈ l1 := by
        have h1 : (List.range n)[e']? = some e' := by rw [List.getElem?_range (by omega)]
        rw [hr, List.getElem?_append_left (by omega)] at h1
        exact List.mem_of_getElem? h1
      simpa using hall e' hmem
    have hx : ex n adj a e v := ⟨hb, hmin⟩
    simp only
    constructor
    · intro h
      have : e = d := by omega
      exact this ▸ hx
    · intro h
      rw [ex_uniq hx h]
theorem dst_cases (a v : Nat) : dst n adj a v = -1 ∨ ∃ d : Nat, dst n adj a v = d := by
  unfold dst
  split
  · exact .inr ⟨_, rfl⟩
  · exact .inl rfl
theorem dst_ge (a v : Nat) : -1 ≤ dst n adj a v := by
  rcases dst_cases (n := n) (adj := adj) a v with h | ⟨d, h⟩ <;> omega
theorem dst_lt (ha : a < n) (hadj : ∀ u v, adj u v = true → v < n) (v : Nat) : dst n adj a v < n := by
  rcases dst_cases (n := n) (adj := adj) a v with h | ⟨d, h⟩
  · omega
  · have := ex_lt ha hadj ((dst_eq ha hadj).1 h); omega
theorem dst_le_iff (ha : a < n) (hadj : ∀ u v, adj u v = true → v < n) {d v : Nat} : (0 ≤ dst n adj a v ∧ dst n adj a v ≤ d) ↔ ball n adj a d v = true := by
  rw [ball_iff]
  constructor
  · rintro ⟨h0, h1⟩
    rcases dst_cases (n := n) (adj := adj) a v with h | ⟨e, h⟩
    · omega
    · exact ⟨e, by omega, (dst_eq ha hadj).1 h⟩
  · rintro ⟨e, he, hx⟩
    have := (dst_eq ha hadj).2 hx
    omega
theorem dst_self (ha : a < n) (hadj : ∀ u v, adj u v = true → v < n) {v : Nat} : dst n adj a v = 0 ↔ v = a := by
  rw [show (0 : Int) = ((0 : Nat) : Int) from rfl, dst_eq ha hadj, ex_zero]
/-- A link makes a step. -/
theorem dst_link (ha : a < n) (hadj : ∀ u v, adj u v = true → v < n) {u v : Nat} (hu : u < n) (hl : adj u v = true) (h0 : 0 ≤ dst n adj a u) : 0 ≤ dst n adj a v ∧ dst n adj a v ≤ dst n adj a u + 1 := by
  rcases dst_cases (n := n) (adj := adj) a u with h | ⟨d, h⟩
  · omega
  · have hx := (dst_eq ha hadj).1 h
    have := (dst_le_iff ha hadj (d := d + 1) (v := v)).2 (ball_succ.2 (.inr ⟨u, hu, hx.1, hl⟩))
    omega
/-- A node that is farther has a neighbour that is one step nearer. -/
theorem dst_nearer (ha : a < n) (hadj : ∀ u v, adj u v = true → v < n) {v : Nat} (h : 0 < dst n adj a v) : ∃ u, u < n ∧ adj u v = true ∧ dst n adj a u = dst n adj a v - 1 := by
  rcases dst_cases (n := n) (adj := adj) a v with h1 | ⟨d, h1⟩
  · omega
  · cases d with
    | zero => omega
    | succ d =>
      obtain ⟨_, u, hu, hx, hl⟩ := ex_succ.1 ((dst_eq ha hadj).1 h1)
      exact ⟨u, hu, hl, by rw [(dst_eq ha hadj).2 hx, h1]; omega⟩
theorem ball_trans {b d v : Nat} (h : ball n adj a d b = true) : ∀ {e : Nat}, ball n adj b e v = true → ball n adj a (d + e) v = true
  | 0, k => by
    have : v = b := by simpa [ball] using k
    subst this
    exact h
  | e + 1, k => by
    rcases ball_succ.1 k with k | ⟨u, hu, hb, ha⟩
    · exact ball_succ.2 (.inl (ball_trans h k))
    · exact ball_succ.2 (.inr ⟨u, hu, ball_trans h hb, ha⟩)
theorem ball_symm (ha : a < n) (hadj : ∀ u v, adj u v = true → v < n) (hs : ∀ u v, u < n → adj u v = true → adj v u = true) : ∀ {d v : Nat}, ball n adj a d v = true → ball n adj v d a = true
  | 0, v, h => by simp [ball] at h ⊢; exact h.symm
  | d + 1, v, h => by
    rcases ball_succ.1 h with h1 | ⟨u, hu, hb, hl⟩
    · exact ball_succ.2 (.inl (ball_symm ha hadj hs h1))
    · have h1 := ball_symm ha hadj hs hb
      have h2 : ball n adj v 1 u = true := ball_succ.2 (.inr ⟨v, hadj u v hl, by simp [ball], hs u v hu hl⟩)
      have := ball_trans h2 h1
      rwa [Nat.add_comm] at this
theorem dst_symm (ha : a < n) (hadj : ∀ u v, adj u v = true → v < n) (hs : ∀ u v, u < n → adj u v = true → adj v u = true) {b : Nat} (hb : b < n) : dst n adj a b = dst n adj b a := by
  have key : ∀ {x y : Nat}, x < n → y < n → 0 ≤ dst n adj x y → 0 ≤ dst n adj y x ∧ dst n adj y x ≤ dst n adj x y := by
    intro x y hx hy h
    rcases dst_cases (n := n) (adj := adj) x y with h1 | ⟨d, h1⟩
    · omega
    · have := (dst_le_iff hy hadj (d := d) (v := x)).2 (ball_symm hx hadj hs ((dst_eq hx hadj).1 h1).1)
      omega
  have g1 := dst_ge (n := n) (adj := adj) a b
  have g2 := dst_ge (n := n) (adj := adj) b a
  rcases Int.lt_or_le (dst n adj a b) 0 with h | h
  · rcases Int.lt_or_le (dst n adj b a) 0 with h' | h'
    · omega
    · have := key hb ha h'; omega
  · have h1 := key ha hb h
    have h2 := key hb ha h1.1
    omega
theorem dst_triangle (ha : a < n) (hadj : ∀ u v, adj u v = true → v < n) {b c : Nat} (hb : b < n) (h1 : 0 ≤ dst n adj a b) (h2 : 0 ≤ dst n adj b c) : 0 ≤ dst n adj a c ∧ dst n adj a c ≤ dst n adj a b + dst n adj b c := by
  rcases dst_cases (n := n) (adj := adj) a b with e1 | ⟨d, e1⟩
  · omega
  · rcases dst_cases (n := n) (adj := adj) b c with e2 | ⟨e, e2⟩
    · omega
    · have := (dst_le_iff ha hadj (d := d + e) (v := c)).2 (ball_trans ((dst_eq ha hadj).1 e1).1 ((dst_eq hb hadj).1 e2).1)
      omega
/-- What makes numbers the distances: nought at the start alone, a step along each link, a step back from each other node. -/
theorem dst_unique (ha : a < n) (hadj : ∀ u v, adj u v = true → v < n) (D : Nat → Nat) (h0 : D a = 0) (hl : ∀ u v, u < n → adj u v = true → D v ≤ D u + 1) (hz : ∀ v, v < n → v ≠ a → ∃ u, u < n ∧ adj u v = true ∧ D u + 1 = D v) {v : Nat} (hv : v < n) : dst n adj a v = (D v : Int) := by
  have hup : ∀ d v, v < n → D v = d → ball n adj a d v = true := by
    intro d
    induction d with
    | zero =>
      intro v hv hd
      by_cases e : v = a
      · simp [ball, e]
      · obtain ⟨u, _, _, hu⟩ := hz v hv e; omega
    | succ d ih =>
      intro v hv hd
      by_cases e : v = a
      · rw [e, h0] at hd; omega
      · obtain ⟨u, hun, hua, hu⟩ := hz v hv e
        exact ball_succ.2 (.inr ⟨u, hun, ih u hun (by omega), hua⟩)
  have hlow : ∀ d v, ball n adj a d v = true → D v ≤ d := by
    intro d
    induction d with
    | zero => intro v h; simp [ball] at h; rw [h, h0]; exact Nat.le_refl _
    | succ d ih =>
      intro v h
      rcases ball_succ.1 h with h | ⟨u, hu, hb, hx⟩
      · have := ih v h; omega
      · have := ih u hb; have := hl u v hu hx; omega
  refine (dst_eq ha hadj).2 ⟨hup _ v hv rfl, fun e he => ?_⟩
  cases hb : ball n adj a e v
  · rfl
  · have := hlow e v hb; omega
end
end Go.Proofs.Ytbpolpagcaacoaa.P
