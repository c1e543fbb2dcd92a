/- What a row that may be shared leads to: its own block is told of, so it is none that the telling leaves out. -/
import Derived.Test.YtcpkbgfemohlmaaP0
namespace Go.Proofs.Ytcpkbgfemohlmaa.P
open Go.RowKit Go.Proofs.YtcpkbgfemohlmaaW.PrintWords Go.Proofs.YtcpkbgfemohlmaaW.PrintLast Go.Proofs.YtcpkbgfemohlmaaW.PrintMore
theorem vA_ {α : Type} {d : Kd α} {e base : Nat} {W : World} {ok : Nat → Prop} {ad : Addr} {n c g : Nat} {xs : List α} (h : Kd.V d e W base ok (.slice (some ad) n c) xs) {x : Int} (h0 : decide (0 ≤ x) = true) (h1 : decide (x < (xs.length : Int)) = true) (hs : 0 < d.sz) (hok : ∀ k, ok k → k ≠ g) : some g ≠ (Value.slice (some ad) n c).ownBlock := by
  have hn : 0 < xs.length := by
    have a := of_decide_eq_true h0
    have b := of_decide_eq_true h1
    omega
  intro he
  have hg : g = ad.block := by simpa [Value.ownBlock] using he
  obtain ⟨hxn, _, hF⟩ := Kd.V_at h
  have hC := hF { W with heap := W.heap.setIfInBounds g (.cells #[] 0 (0, 0)) } (fun k hk _ => by
    have := hok k hk
    exact Array.getElem?_setIfInBounds_ne (fun e => this e.symm))
  obtain ⟨ad', e', hr⟩ := hC.2.2 hn
  injection e' with e'
  subst e'
  obtain ⟨cs, hcl, _, hcc⟩ := hr 0 xs[0] (List.getElem?_eq_getElem hn)
  have hcell := hcc 0 cs[0] (List.getElem?_eq_getElem (by omega))
  have hb : (ad.add (0 * d.sz + 0)).block = g := by rw [hg]; simp [Addr.add]
  rw [World.cell?, hb] at hcell
  rcases Nat.lt_or_ge g W.heap.size with hlt | hlt
  · simp [Array.getElem?_setIfInBounds_self_of_lt hlt] at hcell
  · simp [hlt] at hcell
end Go.Proofs.Ytcpkbgfemohlmaa.P
