/- What is known of a link in memory; a lemma for each kind of event. -/
import Derived.Test.YtdhkplfkbdldfaaGCopied
import Derived.Test.YtdhkplfkbdldfaaGDeletes
import Derived.Test.YtdhkplfkbdldfaaMLink
namespace Go.Proofs.Ytdhkplfkbdldfaa.P
open Go.RowKit Go.Proofs.YtdhkplfkbdldfaaW.PrintWords Go.Shelf
set_option linter.unusedVariables false
/-- Block g holds the link x; its rows are the call's own, from base on. -/
structure LinkAt (base g : Nat) (W : World) (x : DL) (Af : Option Addr) (cf : Nat) (Aa : Option Addr) (ca : Nat) : Prop where
  blk : W.heap[g]? = some (.cells #[.int .i64 x.cap, .int .i64 x.mod, .int .i64 x.lab, .int .i64 x.item, .int .i64 x.last, .slice Af x.fr.length cf, .slice Aa x.ak.length ca] 29 (0, 0))
  fr : Kd.R k46 46 W base (fun _ => True) (.slice Af x.fr.length cf) x.fr
  ak : Kd.R (Kd.int .i64) 3 W base (fun _ => True) (.slice Aa x.ak.length ca) x.ak
  lo : base ≤ g
  sz : base ≤ W.heap.size
/-- Another link's rows: what an event turns. -/
def Turned (g : Nat) (Af : Option Addr) (Aa : Option Addr) (k : Nat) : Prop := k = g ∨ some k = (Value.slice Af 0 0).ownBlock ∨ some k = (Value.slice Aa 0 0).ownBlock
/-- What an event leaves: the link x' in the same block; nothing else turned. -/
def Left (base g : Nat) (W w' : World) (x' : DL) (Af : Option Addr) (Aa : Option Addr) : Prop :=
  ∃ Af' cf' Aa' ca', LinkAt base g w' x' Af' cf' Aa' ca' ∧ Below base W w' ∧ Kept W w' (Turned g Af Aa) ∧ ((Value.slice Aa' 0 0).ownBlock = (Value.slice Aa 0 0).ownBlock ∨ ∃ k, (Value.slice Aa' 0 0).ownBlock = some k ∧ W.heap.size ≤ k)
section
variable {base g : Nat} {W : World} {x : DL} {Af Aa : Option Addr} {cf ca : Nat}
theorem LinkAt.kept {w' : World} (h : LinkAt base g W x Af cf Aa ca) (hb : Below W.heap.size W w') : LinkAt base g w' x Af cf Aa ca :=
  ⟨blk_below h.blk hb, Kd.R_below h.fr hb, Kd.R_below h.ak hb, h.lo, Nat.le_trans h.sz hb.size⟩
theorem LinkAt.left {w' : World} (h : LinkAt base g W x Af cf Aa ca) (hb : Below W.heap.size W w') : Left base g W w' x Af Aa :=
  ⟨Af, cf, Aa, ca, h.kept hb, hb.mono h.sz, Kept.of_below hb _, .inl rfl⟩
theorem row_apart {W : World} {base base' : Nat} {ok ok' : Nat → Prop} {v v' : Value} {xs : List S46} {ys : List Int} (h : Kd.R k46 46 W base ok v xs) (h' : Kd.R (Kd.int .i64) 3 W base' ok' v' ys) : ∀ k, v.ownBlock = some k → v'.ownBlock ≠ some k := fun k hk he => by
  obtain ⟨_, _, _, q, hq, cells, hc⟩ := (Kd.R_bound h).1 k hk
  have hq : q = 46 := List.mem_singleton.1 (show q ∈ [(46 : Nat)] from hq)
  subst hq
  exact Kd.R_ne h' hc (by decide) he.symm
/-- Another row of frames, which lies where the old one lay, or in new memory. -/
theorem LinkAt.setFr {w3 : World} {A3 : Option Addr} {c3 : Nat} {frs : List S46} (h : LinkAt base g W x Af cf Aa ca) (ho : Kd.R k46 46 w3 base (fun _ => True) (.slice A3 frs.length c3) frs) (hg : W.grownBy w3 (Value.slice Af x.fr.length cf).ownBlock) :
    LinkAt base g (w3.setCell ⟨g, 5, none⟩ (.slice A3 frs.length c3)) { x with fr := frs } A3 c3 Aa ca := by
  have hb := blk_grown h.blk hg (Kd.R_ne h.fr h.blk (by decide))
  have ha := Kd.R_grown2 h.ak rfl hg (fun k hk he => row_apart h.fr h.ak k hk he.symm)
  refine ⟨?_, Kd.R_mono (Kd.R_far (Kd.R_types ho hb (by decide)) (fun _ hk => hk.2) _) (fun _ _ => trivial), Kd.R_mono (Kd.R_far (Kd.R_types ha hb (by decide)) (fun _ hk => hk.2) _) (fun _ _ => trivial), h.lo, ?_⟩
  · refine (blk_set hb 5 _).trans ?_
    simp only [List.setIfInBounds_toArray, List.set_cons_zero, List.set_cons_succ]
  · have := hg.size; have := h.sz; simp; omega
theorem LinkAt.setAk {w3 : World} {A3 : Option Addr} {c3 : Nat} {aks : List Int} (h : LinkAt base g W x Af cf Aa ca) (ho : Kd.R (Kd.int .i64) 3 w3 base (fun _ => True) (.slice A3 aks.length c3) aks) (hg : W.grownBy w3 (Value.slice Aa x.ak.length ca).ownBlock) :
    LinkAt base g (w3.setCell ⟨g, 6, none⟩ (.slice A3 aks.length c3)) { x with ak := aks } Af cf A3 c3 := by
  have hb := blk_grown h.blk hg (Kd.R_ne h.ak h.blk (by decide))
  have ha := Kd.R_grown2 h.fr rfl hg (fun k hk he => row_apart h.fr h.ak k he.symm hk)
  refine ⟨?_, Kd.R_mono (Kd.R_far (Kd.R_types ha hb (by decide)) (fun _ hk => hk.2) _) (fun _ _ => trivial), Kd.R_mono (Kd.R_far (Kd.R_types ho hb (by decide)) (fun _ hk => hk.2) _) (fun _ _ => trivial), h.lo, ?_⟩
  · refine (blk_set hb 6 _).trans ?_
    simp only [List.setIfInBounds_toArray, List.set_cons_zero, List.set_cons_succ]
  · have := hg.size; have := h.sz; simp; omega
theorem LinkAt.setLab (h : LinkAt base g W x Af cf Aa ca) (v : Int) : LinkAt base g (W.setCell ⟨g, 2, none⟩ (.int .i64 v)) { x with lab := v } Af cf Aa ca := by
  refine ⟨?_, Kd.R_mono (Kd.R_far (Kd.R_types h.fr h.blk (by decide)) (fun _ hk => hk.2) _) (fun _ _ => trivial), Kd.R_mono (Kd.R_far (Kd.R_types h.ak h.blk (by decide)) (fun _ hk => hk.2) _) (fun _ _ => trivial), h.lo, by have := h.sz; simpa using this⟩
  refine (blk_set h.blk 2 _).trans ?_
  simp only [List.setIfInBounds_toArray, List.set_cons_zero, List.set_cons_succ]
theorem LinkAt.setItem (h : LinkAt base g W x Af cf Aa ca) (v : Int) : LinkAt base g (W.setCell ⟨g, 3, none⟩ (.int .i64 v)) { x with item := v } Af cf Aa ca := by
  refine ⟨?_, Kd.R_mono (Kd.R_far (Kd.R_types h.fr h.blk (by decide)) (fun _ hk => hk.2) _) (fun _ _ => trivial), Kd.R_mono (Kd.R_far (Kd.R_types h.ak h.blk (by decide)) (fun _ hk => hk.2) _) (fun _ _ => trivial), h.lo, by have := h.sz; simpa using this⟩
  refine (blk_set h.blk 3 _).trans ?_
  simp only [List.setIfInBounds_toArray, List.set_cons_zero, List.set_cons_succ]
theorem LinkAt.setLast (h : LinkAt base g W x Af cf Aa ca) (v : Int) : LinkAt base g (W.setCell ⟨g, 4, none⟩ (.int .i64 v)) { x with last := v } Af cf Aa ca := by
  refine ⟨?_, Kd.R_mono (Kd.R_far (Kd.R_types h.fr h.blk (by decide)) (fun _ hk => hk.2) _) (fun _ _ => trivial), Kd.R_mono (Kd.R_far (Kd.R_types h.ak h.blk (by decide)) (fun _ hk => hk.2) _) (fun _ _ => trivial), h.lo, by have := h.sz; simpa using this⟩
  refine (blk_set h.blk 4 _).trans ?_
  simp only [List.setIfInBounds_toArray, List.set_cons_zero, List.set_cons_succ]
theorem R_head {α : Type} {d : Kd α} {e base : Nat} {ok : Nat → Prop} {A : Option Addr} {n c : Nat} {xs : List α} (h : d.R e W base ok (.slice A n c) xs) (hn : 0 < n) : ∃ b, A = some ⟨b, 0, none⟩ ∧ b < W.heap.size := by
  obtain ⟨inner, ho⟩ := Kd.R_own h
  rcases ho.2 with ⟨hv, _⟩ | ⟨b, cap', cur, hv, hb, hh, _⟩
  · injection hv with h1 h2 h3; omega
  · injection hv with h1 h2 h3; exact ⟨b, h1, blk_lt hh⟩
theorem LinkAt.head_fr (h : LinkAt base g W x Af cf Aa ca) (hn : 0 < x.fr.length) : ∃ b, Af = some ⟨b, 0, none⟩ ∧ b < W.heap.size := R_head h.fr hn
theorem LinkAt.head_ak (h : LinkAt base g W x Af cf Aa ca) (hn : 0 < x.ak.length) : ∃ b, Aa = some ⟨b, 0, none⟩ ∧ b < W.heap.size := R_head h.ak hn
theorem own_len (A : Option Addr) (n c n' c' : Nat) : (Value.slice A n c).ownBlock = (Value.slice A n' c').ownBlock := by cases A <;> rfl
theorem turned_g (g : Nat) (Af Aa : Option Addr) : Turned g Af Aa g := .inl rfl
theorem turned_fr (g : Nat) (Af Aa : Option Addr) (n c : Nat) : ∀ k, (Value.slice Af n c).ownBlock = some k → Turned g Af Aa k := fun k hk => .inr (.inl (by rw [own_len Af 0 0 n c]; exact hk.symm))
theorem turned_ak (g : Nat) (Af Aa : Option Addr) (n c : Nat) : ∀ k, (Value.slice Aa n c).ownBlock = some k → Turned g Af Aa k := fun k hk => .inr (.inr (by rw [own_len Aa 0 0 n c]; exact hk.symm))
end
end Go.Proofs.Ytdhkplfkbdldfaa.P
