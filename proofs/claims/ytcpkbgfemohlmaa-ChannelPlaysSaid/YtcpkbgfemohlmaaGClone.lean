/- slices.Clone of a list of numbers, in the printed form. -/
import Derived.Test.YtcpkbgfemohlmaaP0
import Derived.Lib.SliceRun
namespace Go.Proofs.Ytcpkbgfemohlmaa.P
open Go.RowKit Go.Proofs.YtcpkbgfemohlmaaW.PrintWords
set_option linter.unusedVariables false
/-- The same numbers, in memory of the call's own. -/
def slices_Clone_int_int.f (l : List Int) : Option (List Int) := if l.length ≤ 17592186044416 then some l else none
set_option maxHeartbeats 4000000 in
set_option maxRecDepth 1000000 in
theorem slices_Clone_int_int.calls (A : Option Addr) (c : Nat) (l : List Int) (r : List Int) (w : World) (hr : Kd.C (Kd.int .i64) w A l.length l) (hc : l.length ≤ c) (h : slices_Clone_int_int.f l = some r) :
    Calls Try.prog 23 #[.slice A l.length c] w fun e w' => ∃ v0_ : Value, e = .returned (v0_) ∧ Kd.R (Kd.int .i64) 3 w' w.heap.size (fun _ => True) v0_ r ∧ Below w.heap.size w w' := by
  unfold slices_Clone_int_int.f at h
  have hl : l.length ≤ 17592186044416 := by
    by_cases h1 : l.length ≤ 17592186044416
    · exact h1
    · rw [if_neg h1] at h; cases h
  rw [if_pos hl] at h
  injection h with h
  subst h
  have q := fun (w : World) (a : Option Addr) (n c n' c' : Nat) => Lib.run_eql_slice_nil (P := Try.prog) w 25 3 a n c n' c' Try.underlying25
  cases A with
  | none =>
    have h0 : l = [] := by
      rcases Nat.eq_zero_or_pos l.length with h0 | h0
      · exact List.eq_nil_of_length_eq_zero h0
      · obtain ⟨ad, e, _⟩ := hr.2.2 h0
        cases e
    clear hr
    subst h0
    go_enter Try.func23, Try.ntmps23
    go_wp2
    go_ret
    exact ⟨_, rfl, Kd.R_nil _ _ _ _ _, Below.refl _ _⟩
  | some ad =>
    have hcell : Aside0 (∀ j u, (encs (Value.int .i64) l)[j]? = some u → w.cell? (ad.add j) = some u) := ⟨fun j u hu => by
      obtain ⟨x, hx, rfl⟩ : ∃ x, l[j]? = some x ∧ Value.int .i64 x = u := by
        unfold encs at hu
        rw [List.getElem?_map] at hu
        exact Option.map_eq_some_iff.1 hu
      have hj : j < l.length := (List.getElem?_eq_some_iff.1 hx).1
      obtain ⟨ad', e, hcl⟩ := Kd.at_int hr (j : Int) (by omega) (by omega)
      injection e with e
      subst e
      rw [Int.toNat_natCast] at hcl
      rw [hcl]
      simp [rd, List.getD_eq_getElem?_getD, hx]⟩
    obtain ⟨i0, hi0, hs0⟩ := Option.map_eq_some_iff.1 info3
    obtain ⟨hz0, hs0⟩ := Prod.mk.injEq .. ▸ hs0
    obtain ⟨hz1, hz2⟩ := Prod.mk.injEq .. ▸ hs0
    have hl2 := Aside0.mk hl
    clear hr hl hs0
    go_enter Try.func23, Try.ntmps23
    go_wp2_with (at_builtin; refine wpList_append_own _ rfl (.tmp 5) (.tmp 6) 25 rfl w.heap.size 3 i0 (.int .i64 0) 1 8 Try.underlying25 hi0 hz0 hz1 hz2 rfl (by decide) _ _ _ rfl (World.ownsRow_made w #[] 0 (Nat.le_refl _) (Nat.zero_le _) (by simp)) ad l.length c (encs (Value.int .i64) l) rfl ?qc1 ?qc2 ?qc3 ?qc4 ?qc5 ?qc6 ?_)
    case qc1 => rw [encs_length, Nat.mul_one]
    case qc2 =>
      intro j u hu
      exact Lib.cell?_alloc_some _ (hcell.out j u hu)
    case qc3 =>
      intro u hu
      obtain ⟨x, _, rfl⟩ := List.mem_map.1 hu
      rfl
    case qc4 => rw [Nat.zero_add]; exact Nat.le_trans hl2.out (by decide)
    case qc5 => rw [Nat.zero_add]; have := hl2.out; omega
    case qc6 => simp
    intro v1 w1 hown hgrow hnil
    have HO := Aside0.mk hown
    have HG := Aside0.mk hgrow
    clear hown hgrow hnil
    go_wp2
    go_ret
    refine ⟨v1, rfl, Kd.R_of_own HO.out (fun _ _ => trivial), ?_⟩
    exact ((Below.refl _ w).alloc (Nat.le_refl _) _).grown HG.out (by simp) (by intro k hk; simp [Value.ownBlock] at hk; omega)
end Go.Proofs.Ytcpkbgfemohlmaa.P
