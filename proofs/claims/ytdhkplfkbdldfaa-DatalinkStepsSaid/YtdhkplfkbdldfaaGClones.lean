/- slices.Clone at frames and at numbers. -/
import Derived.Test.YtdhkplfkbdldfaaP0
import Derived.Lib.SliceRun
namespace Go.Proofs.Ytdhkplfkbdldfaa.P
open Go.RowKit Go.Proofs.YtdhkplfkbdldfaaW.PrintWords
set_option linter.unusedVariables false
theorem R_made {α : Type} (d : Kd α) (e : Nat) (w : World) (ok : Nat → Prop) (hok : ok w.heap.size) : d.R e (w.alloc (.cells #[] e)) w.heap.size ok (.slice (some ⟨w.heap.size, 0, none⟩) 0 0) [] := by
  refine ⟨fun k hk => ?_, [], ?_, ⟨by simp, fun j x hx => by simp at hx⟩⟩
  · have : k = w.heap.size := by simpa [Value.ownBlock] using hk.symm
    rw [this]; exact hok
  · exact World.ownsRow_made w #[] 0 (Nat.le_refl _) (Nat.zero_le _) (by simp)
set_option maxHeartbeats 4000000 in
set_option maxRecDepth 1000000 in
theorem clone_frames (A : Option Addr) (c : Nat) (l : List S46) (w : World) (hr : Kd.C k46 w A l.length l) (hc : l.length ≤ c) (hl : l.length ≤ 4398046511104) :
    Calls Try.prog 31 #[.slice A l.length c] w fun e w' => ∃ v0_ : Value, e = .returned (v0_) ∧ Kd.R k46 46 w' w.heap.size (fun _ => True) v0_ l ∧ Below w.heap.size w w' := by
  have q := fun (w : World) (a : Option Addr) (n c n' c' : Nat) => Lib.run_eql_slice_nil (P := Try.prog) w 27 46 a n c n' c' Try.underlying27
  cases A with
  | none =>
    have h0 : l = [] := by
      rcases Nat.eq_zero_or_pos l.length with h0 | h0
      · exact List.eq_nil_of_length_eq_zero h0
      · obtain ⟨ad, e, _⟩ := hr.2.2 h0
        cases e
    clear hr
    subst h0
    go_enter Try.func31, Try.ntmps31
    go_wp2
    go_ret
    exact ⟨_, rfl, Kd.R_nil _ _ _ _ _, Below.refl _ _⟩
  | some ad =>
    have HR := Aside0.mk hr
    have HL := Aside0.mk hl
    clear hr hl
    go_enter Try.func31, Try.ntmps31
    go_wp2_with (at_builtin; refine Kd.R_append_rows k46 (w0 := w) w.heap.size rfl (.tmp 5) (.tmp 6) 27 46 (.agg #[.int .i64 0, .int .i64 0]) 16 rfl Try.underlying27 info46 rfl (by decide) (by decide) (.slice (some ⟨w.heap.size, 0, none⟩) 0 0) [] l (some ad) l.length c (fun _ => True) (fun _ => False) rfl rfl (R_made _ _ _ _ trivial) (Kd.C_alloc HR.out _) (fun x cs h => by rw [k46_open h]; exact k46_mkM _ _ _ _) (fun k hk => hk.elim) (fun _ _ => trivial) (below_alloc (Below.refl _ _) _) ?qc1 ?qc2 ?_)
    case qc1 => simp
    case qc2 => have := HL.out; simp; omega
    intro v1 w1 ho hb hg hv
    have HO := Aside0.mk ho
    have HB := Aside0.mk hb
    clear ho hb hg hv
    go_wp2
    go_ret
    exact ⟨v1, rfl, HO.out, HB.out⟩
set_option maxHeartbeats 4000000 in
set_option maxRecDepth 1000000 in
theorem clone_ints (A : Option Addr) (c : Nat) (l : List Int) (w : World) (hr : Kd.C (Kd.int .i64) w A l.length l) (hc : l.length ≤ c) (hl : l.length ≤ 4398046511104) :
    Calls Try.prog 32 #[.slice A l.length c] w fun e w' => ∃ v0_ : Value, e = .returned (v0_) ∧ Kd.R (Kd.int .i64) 3 w' w.heap.size (fun _ => True) v0_ l ∧ Below w.heap.size w w' := by
  have q := fun (w : World) (a : Option Addr) (n c n' c' : Nat) => Lib.run_eql_slice_nil (P := Try.prog) w 22 3 a n c n' c' Try.underlying22
  cases A with
  | none =>
    have h0 : l = [] := by
      rcases Nat.eq_zero_or_pos l.length with h0 | h0
      · exact List.eq_nil_of_length_eq_zero h0
      · obtain ⟨ad, e, _⟩ := hr.2.2 h0
        cases e
    clear hr
    subst h0
    go_enter Try.func32, Try.ntmps32
    go_wp2
    go_ret
    exact ⟨_, rfl, Kd.R_nil _ _ _ _ _, Below.refl _ _⟩
  | some ad =>
    have HR := Aside0.mk hr
    have HL := Aside0.mk hl
    clear hr hl
    go_enter Try.func32, Try.ntmps32
    go_wp2_with (at_builtin; refine Kd.R_append_rows (Kd.int .i64) (w0 := w) w.heap.size rfl (.tmp 5) (.tmp 6) 22 3 (.int .i64 0) 8 rfl Try.underlying22 info3 rfl (by decide) (by decide) (.slice (some ⟨w.heap.size, 0, none⟩) 0 0) [] l (some ad) l.length c (fun _ => True) (fun _ => False) rfl rfl (R_made _ _ _ _ trivial) (Kd.C_alloc HR.out _) (fun x cs h => h) (fun k hk => hk.elim) (fun _ _ => trivial) (below_alloc (Below.refl _ _) _) ?qc1 ?qc2 ?_)
    case qc1 => simp
    case qc2 => have := HL.out; simp; omega
    intro v1 w1 ho hb hg hv
    have HO := Aside0.mk ho
    have HB := Aside0.mk hb
    clear ho hb hg hv
    go_wp2
    go_ret
    exact ⟨v1, rfl, HO.out, HB.out⟩
end Go.Proofs.Ytdhkplfkbdldfaa.P
