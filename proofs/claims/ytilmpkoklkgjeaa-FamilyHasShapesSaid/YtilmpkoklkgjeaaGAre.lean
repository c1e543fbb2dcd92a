/- The closures of family: which two nodes are neighbours. -/
import Derived.Test.YtilmpkoklkgjeaaP0
import Derived.Deep.LoopGhost
import Derived.Shelf.Abstract
namespace Go.Proofs.Ytilmpkoklkgjeaa.P
open Go.RowKit Go.Proofs.YtilmpkoklkgjeaaW.PrintWords Go.Proofs.YtilmpkoklkgjeaaW.PrintLast Go.Proofs.YtilmpkoklkgjeaaW.PrintMore Go.Shelf
set_option linter.unusedVariables false
set_option linter.unusedSimpArgs false
/-- A relation of two nodes, as a closure tells it; 'none': it would panic. -/
abbrev Are := Int → Int → Option Bool
/-- A function value tells the relation, in every world in which all that lay lies. -/
def AreGives (gf : Nat) (lb : Array Value) (R : Are) (w : World) : Prop :=
  ∀ (W : World) (a b : Int) (r : Bool), Below w.heap.size w W → R a b = some r → Calls Try.prog gf (#[.int .i64 a, .int .i64 b] ++ lb) W fun e w' => e = .returned (.bool r) ∧ Drawn0 W w'
theorem AreGives.at {gf : Nat} {lb : Array Value} {R : Are} {w : World} (h : AreGives gf lb R w) (W : World) (a b : Int) (r : Bool) (hb : Below w.heap.size w W) (hr : R a b = some r) : Calls Try.prog gf (#[.int .i64 a, .int .i64 b] ++ lb) W fun e w' => e = .returned (.bool r) ∧ Drawn0 W w' := h W a b r hb hr
theorem AreGives.later {gf : Nat} {lb : Array Value} {R : Are} {w W : World} (h : AreGives gf lb R w) (hb : Below w.heap.size w W) : AreGives gf lb R W :=
  fun W' a b r hb' hr => h W' a b r (below_step hb hb') hr
def arePath : Are := fun a b => some (decide (b = wrap64 (a + 1)))
def areStar : Are := fun a b => some (decide (a = 0))
def areComplete : Are := fun a b => some true
def areGrid (w : Int) : Are := fun a b => if w = 0 then none else some (decide (b = wrap64 (a + w)) || (decide (b = wrap64 (a + 1)) && !decide (Int.tmod b w = 0)))
def areParents (l : List Int) : Are := fun a b => if 0 ≤ b ∧ b < (l.length : Int) then some (decide (rd l b = a)) else none
theorem arePath.calls (a b : Int) (r : Bool) (w : World) (h : arePath a b = some r) : Calls Try.prog 45 #[.int .i64 a, .int .i64 b] w fun e w' => e = .returned (.bool r) ∧ Drawn0 w w' := by
  obtain rfl := Option.some.inj h
  clear h
  by_cases he : b = wrap64 (a + 1)
  · have hb : (b == wrap64 (a + 1)) = true := beq_iff_eq.mpr he
    rw [decide_eq_true he]
    clear he
    go_enter Try.func45, Try.ntmps45
    go_wp2
    go_ret
    exact ⟨by first | rfl | (simp [*]; done), Drawn0.refl _⟩
  · have hb : (b == wrap64 (a + 1)) = false := beq_eq_false_iff_ne.mpr he
    rw [decide_eq_false he]
    clear he
    go_enter Try.func45, Try.ntmps45
    go_wp2
    go_ret
    exact ⟨by first | rfl | (simp [*]; done), Drawn0.refl _⟩
theorem areStar.calls (a b : Int) (r : Bool) (w : World) (h : areStar a b = some r) : Calls Try.prog 46 #[.int .i64 a, .int .i64 b] w fun e w' => e = .returned (.bool r) ∧ Drawn0 w w' := by
  obtain rfl := Option.some.inj h
  clear h
  by_cases he : a = 0
  · have hb : (a == 0) = true := beq_iff_eq.mpr he
    rw [decide_eq_true he]
    clear he
    go_enter Try.func46, Try.ntmps46
    go_wp2
    go_ret
    exact ⟨by first | rfl | (simp [*]; done), Drawn0.refl _⟩
  · have hb : (a == 0) = false := beq_eq_false_iff_ne.mpr he
    rw [decide_eq_false he]
    clear he
    go_enter Try.func46, Try.ntmps46
    go_wp2
    go_ret
    exact ⟨by first | rfl | (simp [*]; done), Drawn0.refl _⟩
theorem areComplete.calls (a b : Int) (r : Bool) (w : World) (h : areComplete a b = some r) : Calls Try.prog 47 #[.int .i64 a, .int .i64 b] w fun e w' => e = .returned (.bool r) ∧ Drawn0 w w' := by
  obtain rfl := Option.some.inj h
  clear h
  go_enter Try.func47, Try.ntmps47
  go_wp2
  go_ret
  exact ⟨by first | rfl | (simp [*]; done), Drawn0.refl _⟩
theorem areGrid.calls (v a b : Int) (g : Nat) (r : Bool) (w : World) (hc : w.cell? ⟨g, 0, none⟩ = some (.int .i64 v)) (h : areGrid v a b = some r) : Calls Try.prog 48 #[.int .i64 a, .int .i64 b, .pointer (some ⟨g, 0, none⟩)] w fun e w' => e = .returned (.bool r) ∧ Drawn0 w w' := by
  unfold areGrid at h
  by_cases hv : v = 0
  · rw [if_pos hv] at h; cases h
  rw [if_neg hv] at h
  obtain rfl := Option.some.inj h
  clear h
  have hu := Try.func48
  clear hu
  by_cases h1 : b = wrap64 (a + v)
  · have b1 : (b == wrap64 (a + v)) = true := beq_iff_eq.mpr h1
    rw [decide_eq_true h1, Bool.true_or]
    clear h1
    go_enter Try.func48, Try.ntmps48
    go_wp2
    go_ret
    exact ⟨by first | rfl | (simp [*]; done), Drawn0.refl _⟩
  · have b1 : (b == wrap64 (a + v)) = false := beq_eq_false_iff_ne.mpr h1
    rw [decide_eq_false h1, Bool.false_or]
    clear h1
    by_cases h2 : b = wrap64 (a + 1)
    · have b2 : (b == wrap64 (a + 1)) = true := beq_iff_eq.mpr h2
      rw [decide_eq_true h2, Bool.true_and]
      clear h2
      by_cases h3 : Int.tmod b v = 0
      · have b3 : (Int.tmod b v != 0) = false := by simp [h3]
        rw [decide_eq_true h3]
        clear h3
        go_enter Try.func48, Try.ntmps48
        go_wp2
        go_ret
        exact ⟨by first | rfl | (simp [*]; done), Drawn0.refl _⟩
      · have b3 : (Int.tmod b v != 0) = true := bne_iff_ne.mpr h3
        rw [decide_eq_false h3]
        clear h3
        go_enter Try.func48, Try.ntmps48
        go_wp2
        go_ret
        exact ⟨by first | rfl | (simp [*]; done), Drawn0.refl _⟩
    · have b2 : (b == wrap64 (a + 1)) = false := beq_eq_false_iff_ne.mpr h2
      rw [decide_eq_false h2, Bool.false_and]
      clear h2
      go_enter Try.func48, Try.ntmps48
      go_wp2
      go_ret
      exact ⟨by first | rfl | (simp [*]; done), Drawn0.refl _⟩
theorem at_list {w : World} {A : Option Addr} {n : Nat} {xs : List Int} (h : Kd.C (Kd.int .i64) w A n xs) (i : Int) (h0 : 0 ≤ i) (h1 : i < n) : ∃ ad, A = some ad ∧ w.cell? (ad.add i.toNat) = some (.int .i64 (rd xs i)) := by
  obtain ⟨ad, c, e, hc, hk, hcell⟩ := ReadsRow.get_ h 0 i h0 h1
  have hk : c = [.int .i64 (xs.getD i.toNat 0)] := hk
  subst hk
  refine ⟨ad, e, ?_⟩
  have := hcell 0 _ rfl
  rwa [show i.toNat * (Kd.int .i64).sz + 0 = i.toNat from by show i.toNat * 1 + 0 = i.toNat; omega] at this
theorem areParents.calls (a b : Int) (g c : Nat) (A : Option Addr) (l : List Int) (r : Bool) (w : World) (hc : w.cell? ⟨g, 0, none⟩ = some (.slice A l.length c)) (hr : Kd.C (Kd.int .i64) w A l.length l) (h : areParents l a b = some r) : Calls Try.prog 49 #[.int .i64 a, .int .i64 b, .pointer (some ⟨g, 0, none⟩)] w fun e w' => e = .returned (.bool r) ∧ Drawn0 w w' := by
  unfold areParents at h
  by_cases hv : 0 ≤ b ∧ b < (l.length : Int)
  · rw [if_pos hv] at h
    obtain rfl := Option.some.inj h
    clear h
    obtain ⟨h0, h1⟩ := hv
    obtain ⟨ad, rfl, hx⟩ := at_list hr b h0 h1
    clear hr
    obtain ⟨n, rfl⟩ : ∃ n : Nat, b = (n : Int) := ⟨b.toNat, by omega⟩
    rw [Int.toNat_natCast] at hx
    generalize hy : rd l (n : Int) = y at hx ⊢
    clear hy
    by_cases he : y = a
    · have hb : (y == a) = true := beq_iff_eq.mpr he
      rw [decide_eq_true he]
      clear he
      go_enter Try.func49, Try.ntmps49
      go_wp2
      go_ret
      exact ⟨by first | rfl | (simp [*]; done), Drawn0.refl _⟩
    · have hb : (y == a) = false := beq_eq_false_iff_ne.mpr he
      rw [decide_eq_false he]
      clear he
      go_enter Try.func49, Try.ntmps49
      go_wp2
      go_ret
      exact ⟨by first | rfl | (simp [*]; done), Drawn0.refl _⟩
  · rw [if_neg hv] at h; cases h
theorem arePath_gives (w : World) : AreGives 45 #[] arePath w := fun W a b r _ h => by simpa using arePath.calls a b r W h
theorem areStar_gives (w : World) : AreGives 46 #[] areStar w := fun W a b r _ h => by simpa using areStar.calls a b r W h
theorem areComplete_gives (w : World) : AreGives 47 #[] areComplete w := fun W a b r _ h => by simpa using areComplete.calls a b r W h
theorem eg_Path : ∀ args w, (callFunc 45 args).run Try.prog w = .ok (.enter 45 args) w := enters_of Try.func45 (by kernel_rfl) rfl
theorem eg_Star : ∀ args w, (callFunc 46 args).run Try.prog w = .ok (.enter 46 args) w := enters_of Try.func46 (by kernel_rfl) rfl
theorem eg_Complete : ∀ args w, (callFunc 47 args).run Try.prog w = .ok (.enter 47 args) w := enters_of Try.func47 (by kernel_rfl) rfl
theorem eg_Grid : ∀ args w, (callFunc 48 args).run Try.prog w = .ok (.enter 48 args) w := enters_of Try.func48 (by kernel_rfl) rfl
theorem eg_FromParents : ∀ args w, (callFunc 49 args).run Try.prog w = .ok (.enter 49 args) w := enters_of Try.func49 (by kernel_rfl) rfl
theorem areGrid_gives (v : Int) (g : Nat) (w : World) (hg : g < w.heap.size) (hc : w.cell? ⟨g, 0, none⟩ = some (.int .i64 v)) : AreGives 48 #[.pointer (some ⟨g, 0, none⟩)] (areGrid v) w := fun W a b r hb h => by simpa using areGrid.calls v a b g r W ((hb.cell (p := ⟨g, 0, none⟩) hg).trans hc) h
theorem areParents_gives (g c : Nat) (A : Option Addr) (l : List Int) (w : World) (hg : g < w.heap.size) (hc : w.cell? ⟨g, 0, none⟩ = some (.slice A l.length c)) (hr : Kd.C (Kd.int .i64) w A l.length l) : AreGives 49 #[.pointer (some ⟨g, 0, none⟩)] (areParents l) w := fun W a b r hb h => by simpa using areParents.calls a b g c A l r W ((hb.cell (p := ⟨g, 0, none⟩) hg).trans hc) (Kd.C_below hr hb) h
end Go.Proofs.Ytilmpkoklkgjeaa.P
