/- datalink.Valid's two closures, and slices.ContainsFunc at the second. -/
import Derived.Test.YtdhkplfkbdldfaaP0
import Derived.Test.YtdhkplfkbdldfaaMLink
import Derived.Deep.LoopGhost
import Derived.Deep.Draws
import Derived.Shelf.RegionOpenPlain
import Derived.BigQuiet
namespace Go.Proofs.Ytdhkplfkbdldfaa.P
open Go.RowKit Go.Proofs.YtdhkplfkbdldfaaW.PrintWords Go.Shelf
set_option linter.unusedVariables false
set_option linter.unusedSimpArgs false
/-- What datalink.Valid calls a label. -/
def isLab (m n : Int) : Bool := decide (0 ≤ n ∧ n < m)
def AllLab (m : Int) (l : List Int) : Prop := ∀ a ∈ l, isLab m a = true
set_option maxHeartbeats 2000000 in
theorem label_calls {W : World} {g : Nat} {m : Int} (n : Int) (hc : W.cell? ⟨g, 1, none⟩ = some (.int .i64 m)) :
    Calls Try.prog 25 #[.int .i64 n, .pointer (some ⟨g, 0, none⟩)] W fun e w' => e = .returned (.bool (isLab m n)) ∧ ∃ q, w' = W.drewN q := by
  by_cases h0 : 0 ≤ n
  · have d0 : decide (0 ≤ n) = true := decide_eq_true h0
    by_cases h1 : n < m
    · have d1 : decide (n < m) = true := decide_eq_true h1
      rw [show isLab m n = true from decide_eq_true (show 0 ≤ n ∧ n < m from ⟨h0, h1⟩)]
      go_enter Try.func25, Try.ntmps25
      go_wp2
      go_ret
      exact ⟨rfl, 0, rfl⟩
    · have d1 : decide (n < m) = false := decide_eq_false h1
      rw [show isLab m n = false from decide_eq_false (show ¬ (0 ≤ n ∧ n < m) from fun h => h1 h.2)]
      go_enter Try.func25, Try.ntmps25
      go_wp2
      go_ret
      exact ⟨rfl, 0, rfl⟩
  · have d0 : decide (0 ≤ n) = false := decide_eq_false h0
    rw [show isLab m n = false from decide_eq_false (show ¬ (0 ≤ n ∧ n < m) from fun h => h0 h.1)]
    go_enter Try.func25, Try.ntmps25
    go_wp2
    go_ret
    exact ⟨rfl, 0, rfl⟩
set_option maxHeartbeats 2000000 in
theorem nolabel_calls {W : World} {g lb : Nat} {m : Int} (n : Int) (hc : W.cell? ⟨g, 1, none⟩ = some (.int .i64 m)) (hl : W.cell? ⟨lb, 0, none⟩ = some (.func (.func 25) #[] #[.pointer (some ⟨g, 0, none⟩)])) :
    Calls Try.prog 27 #[.int .i64 n, .pointer (some ⟨lb, 0, none⟩)] W fun e w' => e = .returned (.bool (! isLab m n)) ∧ ∃ q, w' = W.drewN q := by
  go_enter Try.func27, Try.ntmps27
  go_wp2_with (go_at_call 25; refine (label_calls (m := m) n ?hc).mono ?_; (case hc => first | assumption | exact hc); rintro e w1 ⟨rfl, q, rfl⟩)
  go_ret
  exact ⟨rfl, q, rfl⟩
set_option maxHeartbeats 4000000 in
theorem index_calls {W : World} {g lb : Nat} {m : Int} (A : Option Addr) (c : Nat) (l : List Int) (hR : Kd.C (Kd.int .i64) W A l.length l) (hlc : l.length ≤ c) (hlen : l.length ≤ 4398046511104) (hc : W.cell? ⟨g, 1, none⟩ = some (.int .i64 m)) (hl : W.cell? ⟨lb, 0, none⟩ = some (.func (.func 25) #[] #[.pointer (some ⟨g, 0, none⟩)])) :
    Calls Try.prog 35 #[.slice A l.length c, .func (.func 27) #[] #[.pointer (some ⟨lb, 0, none⟩)]] W fun e w' => (∃ i : Int, e = .returned (.int .i64 i) ∧ (0 ≤ i ↔ ¬ AllLab m l)) ∧ ∃ q, w' = W.drewN q := by
  have HR := Aside0.mk hR
  clear hR
  go_enter Try.func35, Try.ntmps35
  go_wp2
  go_loopg [5, 8] l.length (fun gg _ s8 wr => ∃ kk q : Nat, kk ≤ l.length ∧ l.length - kk ≤ gg ∧ s8 = .int .i64 kk ∧ wr = W.drewN q ∧ Aside (∀ a ∈ l.take kk, isLab m a = true))
  case atStart => exact ⟨0, 0, Nat.zero_le _, by omega, rfl, rfl, (show Aside _ from fun a ha => by simp at ha)⟩
  case round =>
    obtain ⟨kk, q, hkk, hg, rfl, rfl, Al⟩ := hrel
    by_cases hlt : kk < l.length
    · have hltz : (kk : Int) < (l.length : Int) := by omega
      obtain ⟨ad, rfl, hr⟩ := HR.out.2.2 (by omega)
      obtain ⟨cs, _, hcs, hcell⟩ := hr kk l[kk] (List.getElem?_eq_getElem hlt)
      have hcs : cs = [.int .i64 l[kk]] := hcs
      subst hcs
      have hcell : W.cell? (ad.add kk) = some (.int .i64 l[kk]) := by
        have h_ := hcell 0 _ rfl
        rwa [show kk * (Kd.int .i64).sz + 0 = kk from by show kk * 1 + 0 = kk; omega] at h_
      have hcall := fun W' hc hl => nolabel_calls (W := W') (g := g) (lb := lb) (m := m) l[kk] hc hl
      generalize hy : l[kk] = y at hcell hcall
      have B : Aside (l[kk] = y) := hy
      clear hy hr
      cases hq : isLab m y with
      | false =>
        rw [hq] at hcall
        go_wp2_with (go_at_call 27; refine (hcall _ (by exact hc) (by exact hl)).mono ?_; rintro e w' ⟨rfl, q', rfl⟩)
        go_ret
        refine ⟨⟨_, rfl, ?_⟩, _, rfl⟩
        refine ⟨fun _ h => ?_, fun _ => by omega⟩
        have h_ := h y (by rw [← B.out]; exact List.getElem_mem hlt)
        rw [hq] at h_
        exact Bool.noConfusion h_
      | true =>
        rw [hq] at hcall
        go_wp2_with (go_at_call 27; refine (hcall _ (by exact hc) (by exact hl)).mono ?_; rintro e w' ⟨rfl, q', rfl⟩)
        go_roundg (l.length - (kk + 1))
        case measure => omega
        case rel =>
          refine ⟨kk + 1, _, by omega, by omega, by go_num, rfl, (show Aside _ from fun a ha => ?_)⟩
          rw [List.take_succ_eq_append_getElem hlt] at ha
          rcases List.mem_append.1 ha with ha | ha
          · exact Al.out a ha
          · rw [List.mem_singleton.1 ha, B.out]; exact hq
    · have hltz : ¬ (kk : Int) < (l.length : Int) := by omega
      have : kk = l.length := by omega
      subst this
      go_wp2
      go_ret
      refine ⟨⟨_, rfl, by omega, fun h => (h (fun a ha => Al.out a (by rwa [List.take_length]))).elim⟩, q, rfl⟩
set_option maxHeartbeats 4000000 in
theorem contains_calls {W : World} {g lb : Nat} {m : Int} (A : Option Addr) (c : Nat) (l : List Int) (hR : Kd.C (Kd.int .i64) W A l.length l) (hlc : l.length ≤ c) (hlen : l.length ≤ 4398046511104) (hc : W.cell? ⟨g, 1, none⟩ = some (.int .i64 m)) (hl : W.cell? ⟨lb, 0, none⟩ = some (.func (.func 25) #[] #[.pointer (some ⟨g, 0, none⟩)])) :
    Calls Try.prog 26 #[.slice A l.length c, .func (.func 27) #[] #[.pointer (some ⟨lb, 0, none⟩)]] W fun e w' => (∃ b : Bool, e = .returned (.bool b) ∧ (b = false ↔ AllLab m l)) ∧ ∃ q, w' = W.drewN q := by
  go_enter Try.func26, Try.ntmps26
  go_wp2_with (go_at_call 35; refine (index_calls A c l (by exact hR) hlc hlen (by exact hc) (by exact hl)).mono ?_; rintro e w' ⟨⟨i, rfl, hi⟩, q', rfl⟩; have HI := Aside0.mk hi; clear hi)
  go_ret
  refine ⟨⟨_, rfl, ?_⟩, _, rfl⟩
  have h_ := HI.out
  constructor
  · intro h
    by_cases ha : AllLab m l
    · exact ha
    · exact absurd (h_.2 ha) (by have := of_decide_eq_false h; omega)
  · intro h
    exact decide_eq_false (fun hn => (h_.1 hn) h)
end Go.Proofs.Ytdhkplfkbdldfaa.P
