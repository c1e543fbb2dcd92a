/- The reference's Port and Valid; 'fair' says of a light graph that it is valid. -/
import Derived.Test.YtmkpddhnnejfhaaMValid
namespace Go.Proofs.Ytmkpddhnnejfhaa.P
open Go.RowKit Go.Proofs.YtmkpddhnnejfhaaW.PrintWords Go.Proofs.YtmkpddhnnejfhaaW.PrintMore
set_option linter.unusedVariables false
/-- The first place of a link to u, or -1. -/
def portOf (l : List Lk) (u : Int) : Int := match l.findIdx? (fun e => e.f0 == u) with | some i => (i : Int) | none => -1
theorem portOf_some {l : List Lk} {u : Int} {i : Nat} (hi : i < l.length) (he : (lk l i).f0 = u) (hn : ∀ j, j < i → (lk l j).f0 ≠ u) : portOf l u = i := by
  have : l.findIdx? (fun e => e.f0 == u) = some i := by
    rw [List.findIdx?_eq_some_iff_getElem]
    refine ⟨hi, by rw [← lk_eq l i hi]; simpa using he, fun j hj => ?_⟩
    rw [← lk_eq l j (by omega)]
    simpa using hn j hj
  unfold portOf
  rw [this]
theorem portOf_none {l : List Lk} {u : Int} (hn : ∀ j, j < l.length → (lk l j).f0 ≠ u) : portOf l u = -1 := by
  have : l.findIdx? (fun e => e.f0 == u) = none := by
    rw [List.findIdx?_eq_none_iff]
    intro e he
    obtain ⟨j, hj, e1⟩ := List.getElem_of_mem he
    have := hn j hj
    rw [lk_eq l j hj, e1] at this
    simpa using this
  unfold portOf
  rw [this]
theorem portOf_cases (l : List Lk) (u : Int) : (portOf l u = -1 ∧ ∀ j, j < l.length → (lk l j).f0 ≠ u) ∨ ∃ i : Nat, portOf l u = i ∧ i < l.length ∧ (lk l i).f0 = u ∧ ∀ j, j < i → (lk l j).f0 ≠ u := by
  cases h : l.findIdx? (fun e => e.f0 == u) with
  | none =>
    left
    have hn : ∀ j, j < l.length → (lk l j).f0 ≠ u := fun j hj he => by
      have := List.findIdx?_eq_none_iff.1 h _ (lk_mem l j hj)
      simp [he] at this
    exact ⟨portOf_none hn, hn⟩
  | some i =>
    right
    obtain ⟨hi, hp, hn⟩ := List.findIdx?_eq_some_iff_getElem.1 h
    have he : (lk l i).f0 = u := by rw [lk_eq l i hi]; simpa using hp
    have hn2 : ∀ j, j < i → (lk l j).f0 ≠ u := fun j hj => by rw [lk_eq l j (by omega)]; simpa using hn j hj
    exact ⟨i, portOf_some hi he hn2, hi, he, hn2⟩
theorem port_l0 (ids : List Int) (P : List (List Lk)) (v : Nat) (u : Int) (hv : v < P.length) (hl : (prt P v).length < Big) : ∀ d i : Nat, i + d = (prt P v).length → (∀ j, j < i → (lk (prt P v) j).f0 ≠ u) →
    Ev (fun k => selfstabref01_Port.l0 k (v : Int) u (i : Int) ids P) (portOf (prt P v) u) := by
  unfold Big at hl
  intro d
  induction d with
  | zero =>
    intro i hi hn
    refine Ev.step (fun k => by rw [selfstabref01_Port.l0]) ?_
    simp only [if_pos (show 0 ≤ (v : Int) by omega), if_pos (show (v : Int) < (P.length : Int) by omega), rdR_prt, if_neg (show ¬ (i : Int) < ((prt P v).length : Int) by omega)]
    rw [portOf_none (fun j hj => hn j (by omega))]
    exact Ev.now _
  | succ d ih =>
    intro i hi hn
    refine Ev.step (fun k => by rw [selfstabref01_Port.l0]) ?_
    simp only [if_pos (show 0 ≤ (v : Int) by omega), if_pos (show (v : Int) < (P.length : Int) by omega), rdR_prt, if_pos (show (i : Int) < ((prt P v).length : Int) by omega), if_pos (show 0 ≤ (i : Int) by omega), rdT_lk]
    by_cases e : (lk (prt P v) i).f0 = u
    · simp only [if_pos e]
      rw [portOf_some (by omega) e hn]
      exact Ev.now _
    · simp only [if_neg e, wrap_nat i (by omega)]
      refine ih (i + 1) (by omega) fun j hj => ?_
      by_cases hji : j = i
      · subst hji; exact e
      · exact hn j (by omega)
theorem port_ev (ids : List Int) (P : List (List Lk)) (v : Nat) (u : Int) (hv : v < P.length) (hl : (prt P v).length < Big) : Ev (fun k => selfstabref01_Port.f k ids P (v : Int) u) (portOf (prt P v) u) := by
  unfold selfstabref01_Port.f
  exact port_l0 ids P v u hv hl (prt P v).length 0 (by omega) (fun j hj => absurd hj (Nat.not_lt_zero _))
/-! ### Valid: the symmetry -/
/-- The link at place i of node v is answered. -/
def answered (P : List (List Lk)) (v i : Nat) : Prop := ∃ e' ∈ prt P (lk (prt P v) i).f0.toNat, e'.f0 = (v : Int) ∧ e'.f1 = (lk (prt P v) i).f1
theorem rv_l3 (ids : List Int) (P : List (List Lk)) (hn : P.length ≤ 24) (hok : ∀ u, u < P.length → okLinks P.length u (prt P u)) (v : Nat) (hv : v < P.length) {b : Bool} {Q : Prop} (hb : Ev (fun k => selfstabref01_Valid.l2 k (P.length : Int) ((v + 1 : Nat) : Int) ids P) b) (hiff : b = true ↔ Q) : ∀ d i : Nat, i + d = (prt P v).length →
    ∃ b, Ev (fun k => selfstabref01_Valid.l3 k (P.length : Int) (v : Int) (i : Int) ids P) b ∧ (b = true ↔ Q ∧ ∀ j, i ≤ j → j < (prt P v).length → answered P v j) := by
  have hlen : ∀ u, u < P.length → (prt P u).length ≤ 24 := fun u hu => Nat.le_trans (okLinks_le (hok u hu)) hn
  have hlv := hlen v hv
  intro d
  induction d with
  | zero =>
    intro i hi
    refine ⟨b, Ev.step (fun k => by rw [selfstabref01_Valid.l3]) ?_, fun h => ⟨hiff.1 h, fun j h1 h2 => by omega⟩, fun h => hiff.2 h.1⟩
    simp only [if_pos (show 0 ≤ (v : Int) by omega), if_pos (show (v : Int) < (P.length : Int) by omega), rdR_prt, if_neg (show ¬ (i : Int) < ((prt P v).length : Int) by omega), wrap_nat v (by omega)]
    exact hb
  | succ d ih =>
    intro i hi
    have hilt : i < (prt P v).length := by omega
    have hl := (hok v hv).1 _ (lk_mem (prt P v) i hilt)
    obtain ⟨t, ht⟩ : ∃ t : Nat, (lk (prt P v) i).f0 = t := ⟨(lk (prt P v) i).f0.toNat, by omega⟩
    have htn : t < P.length := by omega
    have hp := port_ev ids P t (v : Int) htn (by have := hlen t htn; unfold Big; omega)
    have hst : (fun k : Nat => selfstabref01_Valid.l3 (k + 1) (P.length : Int) (v : Int) (i : Int) ids P) = fun k => (selfstabref01_Port.f k ids P (t : Int) (v : Int)).bind fun p => if p < 0 then some false else (if 0 ≤ p then (if p < ((prt P t).length : Int) then (if (rd_T58 (prt P t) p).f1 = (lk (prt P v) i).f1 then selfstabref01_Valid.l3 k (P.length : Int) v ((i + 1 : Nat) : Int) ids P else some false) else none) else none) := by
      funext k
      rw [selfstabref01_Valid.l3]
      simp only [if_pos (show 0 ≤ (v : Int) by omega), if_pos (show (v : Int) < (P.length : Int) by omega), rdR_prt, if_pos (show (i : Int) < ((prt P v).length : Int) by omega), if_pos (show 0 ≤ (i : Int) by omega), rdT_lk, ht, if_pos (show 0 ≤ (t : Int) by omega), if_pos (show (t : Int) < (P.length : Int) by omega), wrap_nat i (by omega)]
    rcases portOf_cases (prt P t) (v : Int) with ⟨h1, h2⟩ | ⟨p, h1, h2, h3, h4⟩
    · rw [h1] at hp
      refine ⟨false, Ev.step (fun k => congrFun hst k) (Ev.bind hp ?_), nofun, fun h => ?_⟩
      · simp only [show ((-1 : Int) < 0) = True from eq_true (by omega), if_true]
        exact Ev.now _
      · obtain ⟨e', he, e1, _⟩ := h.2 i (Nat.le_refl _) hilt
        rw [ht, Int.toNat_natCast] at he
        obtain ⟨j, hj, e2⟩ := List.getElem_of_mem he
        exact absurd (by rw [lk_eq _ j hj, e2]; exact e1) (h2 j hj)
    · rw [h1] at hp
      by_cases hw : (lk (prt P t) p).f1 = (lk (prt P v) i).f1
      · obtain ⟨b', hb', hiff'⟩ := ih (i + 1) (by omega)
        refine ⟨b', Ev.step (fun k => congrFun hst k) (Ev.bind hp ?_), fun h => ⟨(hiff'.1 h).1, fun j hj1 hj2 => ?_⟩, fun h => hiff'.2 ⟨h.1, fun j hj1 hj2 => h.2 j (by omega) hj2⟩⟩
        · simp only [if_neg (show ¬ (p : Int) < 0 by omega), if_pos (show 0 ≤ (p : Int) by omega), if_pos (show (p : Int) < ((prt P t).length : Int) by omega), rdT_lk, if_pos hw]
          exact hb'
        · by_cases e : j = i
          · subst e
            exact ⟨lk (prt P t) p, by rw [ht, Int.toNat_natCast]; exact lk_mem _ p h2, h3, hw⟩
          · exact (hiff'.1 h).2 j (by omega) hj2
      · refine ⟨false, Ev.step (fun k => congrFun hst k) (Ev.bind hp ?_), nofun, fun h => ?_⟩
        · simp only [if_neg (show ¬ (p : Int) < 0 by omega), if_pos (show 0 ≤ (p : Int) by omega), if_pos (show (p : Int) < ((prt P t).length : Int) by omega), rdT_lk, if_neg hw]
          exact Ev.now _
        · obtain ⟨e', he, e1, e2⟩ := h.2 i (Nat.le_refl _) hilt
          rw [ht, Int.toNat_natCast] at he
          have h5 := wt_mem (hok t htn).2 he
          have h6 := wt_mem (hok t htn).2 (lk_mem (prt P t) p h2)
          rw [e1] at h5
          rw [h3] at h6
          exact absurd (by rw [← h6, h5, e2]) hw
theorem rv_l2 (ids : List Int) (P : List (List Lk)) (hn : P.length ≤ 24) (hok : ∀ u, u < P.length → okLinks P.length u (prt P u)) : ∀ d v : Nat, v + d = P.length →
    ∃ b, Ev (fun k => selfstabref01_Valid.l2 k (P.length : Int) (v : Int) ids P) b ∧ (b = true ↔ ∀ u, v ≤ u → u < P.length → ∀ j, j < (prt P u).length → answered P u j) := by
  intro d
  induction d with
  | zero =>
    intro v hv
    refine ⟨true, Ev.step (fun k => by rw [selfstabref01_Valid.l2]) ?_, fun _ u h1 h2 => by omega, fun _ => rfl⟩
    simp only [if_neg (show ¬ (v : Int) < (P.length : Int) by omega)]
    exact Ev.now _
  | succ d ih =>
    intro v hv
    obtain ⟨b, hb, hiff⟩ := ih (v + 1) (by omega)
    obtain ⟨b', hb', hiff'⟩ := rv_l3 ids P hn hok v (by omega) hb hiff (prt P v).length 0 (by omega)
    refine ⟨b', Ev.step (fun k => by rw [selfstabref01_Valid.l2]) ?_, fun h u h1 h2 j hj => ?_, fun h => hiff'.2 ⟨fun u h1 h2 => h u (by omega) h2, fun j _ hj => h v (Nat.le_refl _) (by omega) j hj⟩⟩
    · simp only [if_pos (show (v : Int) < (P.length : Int) by omega)]
      exact hb'
    · by_cases e : u = v
      · subst e; exact (hiff'.1 h).2 j (Nat.zero_le _) hj
      · exact (hiff'.1 h).1 u (by omega) h2 j hj
theorem answered_iff (P : List (List Lk)) : (∀ u, 0 ≤ u → u < P.length → ∀ j, j < (prt P u).length → answered P u j) ↔ okSym P := by
  constructor
  · intro h v hv e he
    obtain ⟨j, hj, e1⟩ := List.getElem_of_mem he
    have := h v (Nat.zero_le _) hv j hj
    unfold answered at this
    rw [lk_eq _ j hj, e1] at this
    exact this
  · intro h u _ hu j hj
    exact h u hu _ (lk_mem _ j hj)
/-! ### Valid: the nodes -/
theorem rv_l1_ok (ids : List Int) (P : List (List Lk)) (hn : P.length ≤ 24) (hi : ids.length = P.length) (v : Nat) (hv : v < P.length) {r : Bool} (hr : Ev (fun k => selfstabref01_Valid.l0 k (P.length : Int) ((v + 1 : Nat) : Int) ids P) r) : ∀ d u : Nat, u + d = v →
    (∀ u', u ≤ u' → u' < v → rd ids u' ≠ rd ids v) → Ev (fun k => selfstabref01_Valid.l1 k (P.length : Int) (v : Int) (u : Int) ids P) r := by
  intro d
  induction d with
  | zero =>
    intro u hu _
    refine Ev.step (fun k => by rw [selfstabref01_Valid.l1]) ?_
    simp only [if_neg (show ¬ (u : Int) < (v : Int) by omega), wrap_nat v (by omega)]
    exact hr
  | succ d ih =>
    intro u hu h
    refine Ev.step (fun k => by rw [selfstabref01_Valid.l1]) ?_
    simp only [if_pos (show (u : Int) < (v : Int) by omega), if_pos (show 0 ≤ (u : Int) by omega), if_pos (show (u : Int) < (ids.length : Int) by omega), if_pos (show 0 ≤ (v : Int) by omega), if_pos (show (v : Int) < (ids.length : Int) by omega), if_neg (h u (Nat.le_refl _) (by omega)), wrap_nat u (by omega)]
    exact ih (u + 1) (by omega) fun u' h1 h2 => h u' (by omega) h2
theorem rv_l1_dup (ids : List Int) (P : List (List Lk)) (hn : P.length ≤ 24) (hi : ids.length = P.length) (v : Nat) (hv : v < P.length) : ∀ d u : Nat, u + d = v →
    (∃ u' : Nat, u ≤ u' ∧ u' < v ∧ rd ids u' = rd ids v) → Ev (fun k => selfstabref01_Valid.l1 k (P.length : Int) (v : Int) (u : Int) ids P) false := by
  intro d
  induction d with
  | zero =>
    rintro u hu ⟨u', h1, h2, _⟩
    omega
  | succ d ih =>
    rintro u hu ⟨u', h1, h2, h3⟩
    refine Ev.step (fun k => by rw [selfstabref01_Valid.l1]) ?_
    simp only [if_pos (show (u : Int) < (v : Int) by omega), if_pos (show 0 ≤ (u : Int) by omega), if_pos (show (u : Int) < (ids.length : Int) by omega), if_pos (show 0 ≤ (v : Int) by omega), if_pos (show (v : Int) < (ids.length : Int) by omega), wrap_nat u (by omega)]
    by_cases e : rd ids (u : Int) = rd ids (v : Int)
    · simp only [if_pos e]
      exact Ev.now _
    · simp only [if_neg e]
      refine ih (u + 1) (by omega) ⟨u', ?_, h2, h3⟩
      rcases Nat.lt_or_ge u u' with h | h
      · exact h
      · have : u' = u := by omega
        subst this
        exact absurd h3 e
theorem mem_take_rd (ids : List Int) (i : Nat) (hi : i ≤ ids.length) (x : Int) : x ∈ ids.take i ↔ ∃ j : Nat, j < i ∧ rd ids j = x := by
  constructor
  · intro h
    obtain ⟨j, hj⟩ := List.getElem?_of_mem h
    have hlt := (List.getElem?_eq_some_iff.1 hj).1
    rw [List.length_take] at hlt
    rw [List.getElem?_take_of_lt (by omega)] at hj
    exact ⟨j, by omega, by rw [rd_getD, List.getD_eq_getElem?_getD, hj]; rfl⟩
  · rintro ⟨j, hj, rfl⟩
    refine List.mem_of_getElem? (i := j) ?_
    rw [List.getElem?_take_of_lt hj, rd_getD, List.getD_eq_getElem?_getD, List.getElem?_eq_getElem (by omega)]
    rfl
theorem rv_l0 (ids : List Int) (P : List (List Lk)) (hn : P.length ≤ 24) (hi : ids.length = P.length) (hb : ∀ v, (prt P v).length < Big) : ∀ d v : Nat, v + d = P.length → okIds (ids.take v) → (∀ u, u < v → okLinks P.length u (prt P u)) →
    ∃ b, Ev (fun k => selfstabref01_Valid.l0 k (P.length : Int) (v : Int) ids P) b ∧ (b = true ↔ okIds ids ∧ (∀ u, u < P.length → okLinks P.length u (prt P u)) ∧ okSym P) := by
  intro d
  induction d with
  | zero =>
    intro v hv ho hl
    have hl2 : ∀ u, u < P.length → okLinks P.length u (prt P u) := fun u hu => hl u (by omega)
    obtain ⟨b, hb', hiff⟩ := rv_l2 ids P hn hl2 P.length 0 (by omega)
    rw [answered_iff] at hiff
    refine ⟨b, Ev.step (fun k => by rw [selfstabref01_Valid.l0]) ?_, fun h => ⟨by rwa [List.take_of_length_le (by omega)] at ho, hl2, hiff.1 h⟩, fun h => hiff.2 h.2.2⟩
    simp only [if_neg (show ¬ (v : Int) < (P.length : Int) by omega)]
    exact hb'
  | succ d ih =>
    intro v hv ho hl
    have hvn : v < P.length := by omega
    obtain ⟨bl, hbl, hil⟩ := links_ev (prt P v) v P.length (hb v) (by omega)
    have bad : Ev (fun k => selfstabref01_Valid.j2 k (P.length : Int) (v : Int) true ids P) false := by
      refine Ev.step (fun k => by rw [selfstabref01_Valid.j2]) ?_
      simp only [if_true]
      exact Ev.now _
    have hst : (fun k : Nat => selfstabref01_Valid.l0 (k + 1) (P.length : Int) (v : Int) ids P) = fun k => (if 0 ≤ rd ids (v : Int) ∧ rd ids (v : Int) ≤ 255 then (if ((prt P v).length : Int) ≥ (P.length : Int) then selfstabref01_Valid.j2 k (P.length : Int) v true ids P else (selfstabref01_linksValid.f k (prt P v) (v : Int) (P.length : Int)).bind fun t => selfstabref01_Valid.j2 k (P.length : Int) v (!t) ids P) else selfstabref01_Valid.j2 k (P.length : Int) v true ids P) := by
      funext k
      rw [selfstabref01_Valid.l0]
      simp only [if_pos (show (v : Int) < (P.length : Int) by omega), if_pos (show 0 ≤ (v : Int) by omega), if_pos (show (v : Int) < (ids.length : Int) by omega), in_eq, Option.bind_some, decide_eq_true_eq, rdR_prt]
    by_cases c1 : 0 ≤ rd ids (v : Int) ∧ rd ids (v : Int) ≤ 255
    · by_cases c2 : ((prt P v).length : Int) ≥ (P.length : Int)
      · refine ⟨false, Ev.step (fun k => congrFun hst k) ?_, nofun, fun h => ?_⟩
        · simp only [if_pos c1, if_pos c2]
          exact bad
        · exfalso
          have ho2 := h.2.1 v hvn
          have h1 := nodup_le P.length ((v : Int) :: (prt P v).map (·.f0)) (List.nodup_cons.2 ⟨fun hm => by
            obtain ⟨e, he, h3⟩ := List.mem_map.1 hm
            exact (ho2.1 e he).2.2.1 h3, ho2.2⟩) (fun x hx => by
            rcases List.mem_cons.1 hx with rfl | hx
            · omega
            · obtain ⟨e, he, rfl⟩ := List.mem_map.1 hx
              have := ho2.1 e he
              omega)
          simp at h1
          omega
      · cases bl with
        | false =>
          refine ⟨false, Ev.step (fun k => congrFun hst k) ?_, nofun, fun h => by have := hil.2 (h.2.1 v hvn); cases this⟩
          simp only [if_pos c1, if_neg c2]
          exact Ev.bind hbl bad
        | true =>
          have hlv := hil.1 rfl
          have hgo : ∀ {r : Bool}, Ev (fun k => selfstabref01_Valid.l1 k (P.length : Int) (v : Int) ((0 : Nat) : Int) ids P) r → Ev (fun k => selfstabref01_Valid.l0 k (P.length : Int) (v : Int) ids P) r := fun {r} h => by
            refine Ev.step (fun k => congrFun hst k) ?_
            simp only [if_pos c1, if_neg c2]
            refine Ev.bind hbl ?_
            refine Ev.step (fun k => by rw [selfstabref01_Valid.j2]) ?_
            simp only [Bool.not_true, Bool.false_eq_true, if_false]
            exact h
          by_cases hdup : ∃ u' : Nat, 0 ≤ u' ∧ u' < v ∧ rd ids u' = rd ids v
          · refine ⟨false, hgo (rv_l1_dup ids P hn hi v hvn v 0 (by omega) hdup), nofun, fun h => ?_⟩
            obtain ⟨u', _, h2, h3⟩ := hdup
            exact absurd h.1 (not_okIds_twice (by omega) ((mem_take_rd ids v (by omega) _).2 ⟨u', h2, h3⟩))
          · have ho2 : okIds (ids.take (v + 1)) := okIds_step (by omega) ho c1.1 c1.2 (fun hm => by
              obtain ⟨j, h2, h3⟩ := (mem_take_rd ids v (by omega) _).1 hm
              exact hdup ⟨j, Nat.zero_le _, h2, h3⟩)
            obtain ⟨b, hb', hiff⟩ := ih (v + 1) (by omega) ho2 (fun u hu => by
              by_cases e : u = v
              · subst e; exact hlv
              · exact hl u (by omega))
            exact ⟨b, hgo (rv_l1_ok ids P hn hi v hvn hb' v 0 (by omega) (fun u' _ h2 h3 => hdup ⟨u', Nat.zero_le _, h2, h3⟩)), hiff⟩
    · refine ⟨false, Ev.step (fun k => congrFun hst k) ?_, nofun, fun h => ?_⟩
      · simp only [if_neg c1]
        exact bad
      · exact absurd h.1 (not_okIds_range (k := v) (by omega) (by omega))
theorem refValid_ev (ids : List Int) (P : List (List Lk)) (hb : ∀ v, (prt P v).length < Big) : Ev (fun k => selfstabref01_Valid.f k ids P) (validB ids P) := by
  unfold selfstabref01_Valid.f
  simp only [in_eq, Option.bind_some, decide_eq_true_eq]
  have bad : Ev (fun k => selfstabref01_Valid.j0 k (P.length : Int) true ids P) false := by
    refine Ev.step (fun k => by rw [selfstabref01_Valid.j0]) ?_
    simp only [if_true]
    exact Ev.now _
  by_cases c1 : 1 ≤ (P.length : Int) ∧ (P.length : Int) ≤ 24
  · simp only [if_pos c1]
    by_cases c2 : (ids.length : Int) = (P.length : Int)
    · obtain ⟨b, hb', hiff⟩ := rv_l0 ids P (by omega) (by omega) hb P.length 0 (by omega) ⟨by simp, by simp⟩ (fun u hu => absurd hu (Nat.not_lt_zero _))
      have e : validB ids P = b := by
        rw [Bool.eq_iff_iff, hiff]
        unfold validB
        rw [decide_eq_true_eq]
        exact ⟨fun h => h.2.2.2, fun h => ⟨by omega, by omega, by omega, h⟩⟩
      rw [e]
      simp only [bne_eq_false_iff_eq.mpr c2]
      refine Ev.step (fun k => by rw [selfstabref01_Valid.j0]) ?_
      simp only [Bool.false_eq_true, if_false]
      exact hb'
    · rw [validB_false (fun h => c2 (by have := h.2.2.1; omega))]
      simp only [bne_iff_ne.mpr c2]
      exact bad
  · simp only [if_neg c1]
    rw [validB_false (fun h => c1 (by have := h.1; have := h.2.1; omega))]
    exact bad
theorem Light.big {ids : List Int} {P : List (List Lk)} (h : Light ids P) : ∀ v, (prt P v).length < Big := fun v => by have := h.2.2 v; unfold Big; omega
end Go.Proofs.Ytmkpddhnnejfhaa.P
