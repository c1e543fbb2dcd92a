/- datalink.Valid. -/
import Derived.Test.YtdhkplfkbdldfaaDClos
import Derived.Laws.EntriesVeiled
namespace Go.Proofs.Ytdhkplfkbdldfaa.P
open Go.RowKit Go.Proofs.YtdhkplfkbdldfaaW.PrintWords Go.Shelf
set_option linter.unusedVariables false
set_option linter.unusedSimpArgs false
instance (x : DL) : Decidable (ValidD x) := by unfold ValidD; infer_instance
def datalink_Valid.f (a0 a1 a2 a3 a4 : Int) (l5 : List S46) (l6 : List Int) : Option Bool := some (decide (ValidD ⟨a0, a1, a2, a3, a4, l5, l6⟩))
theorem dv_false {a0 a1 a2 a3 a4 : Int} {l5 : List S46} {l6 : List Int} {r : Bool} (h : datalink_Valid.f a0 a1 a2 a3 a4 l5 l6 = some r) (hn : ¬ ValidD ⟨a0, a1, a2, a3, a4, l5, l6⟩) : false = r := by
  unfold datalink_Valid.f at h
  rw [decide_eq_false hn] at h
  exact Option.some.inj h
theorem dv_true {a0 a1 a2 a3 a4 : Int} {l5 : List S46} {l6 : List Int} {r : Bool} (h : datalink_Valid.f a0 a1 a2 a3 a4 l5 l6 = some r) (hn : ValidD ⟨a0, a1, a2, a3, a4, l5, l6⟩) : true = r := by
  unfold datalink_Valid.f at h
  rw [decide_eq_true hn] at h
  exact Option.some.inj h
set_option maxHeartbeats 8000000 in
set_option maxRecDepth 1000000 in
theorem dv_head (a0 a1 a2 a3 a4 : Int) (A5 : Option Addr) (c5 : Nat) (l5 : List S46) (A6 : Option Addr) (c6 : Nat) (l6 : List Int) (r : Bool) (w : World) (hr5 : Kd.C k46 w A5 l5.length l5) (hc5 : l5.length ≤ c5) (hr6 : Kd.C (Kd.int .i64) w A6 l6.length l6) (hc6 : l6.length ≤ c6) (h : datalink_Valid.f a0 a1 a2 a3 a4 l5 l6 = some r) (hbad : a0 < 1 ∨ 8 < a0 ∨ a1 < 2 * a0 + 2 ∨ 64 < a1) :
    Calls Try.prog 14 #[.agg #[.int .i64 a0, .int .i64 a1, .int .i64 a2, .int .i64 a3, .int .i64 a4, .slice A5 l5.length c5, .slice A6 l6.length c6]] w fun e w' => e = .returned (.bool r) ∧ Below w.heap.size w w' := by
  have hu := Try.underlying29
  have hr : false = r := dv_false h (by rintro ⟨v1, v2, v3, v4, _⟩; dsimp only at v1 v2 v3 v4; omega)
  subst hr
  have B1 := Aside0.mk (below_alloc (Below.refl w.heap.size w) (.cells #[.int .i64 a0, .int .i64 a1, .int .i64 a2, .int .i64 a3, .int .i64 a4, .slice A5 l5.length c5, .slice A6 l6.length c6] 29))
  clear h hr5 hr6
  by_cases h1 : a0 < 1
  · have d1 : decide (a0 < 1) = true := decide_eq_true h1
    clear hbad
    go_enter Try.func14, Try.ntmps14
    go_wp2
    go_ret
    exact ⟨rfl, B1.out⟩
  have d1 : decide (a0 < 1) = false := decide_eq_false h1
  by_cases h2 : 8 < a0
  · have d2 : decide (8 < a0) = true := decide_eq_true h2
    clear hbad
    go_enter Try.func14, Try.ntmps14
    go_wp2
    go_ret
    exact ⟨rfl, B1.out⟩
  have d2 : decide (8 < a0) = false := decide_eq_false h2
  by_cases h3 : a1 < 2 * a0 + 2
  · have d3 : decide (a1 < 2 * a0 + 2) = true := decide_eq_true h3
    clear hbad
    go_enter Try.func14, Try.ntmps14
    go_wp2
    go_ret
    exact ⟨rfl, B1.out⟩
  have d3 : decide (a1 < 2 * a0 + 2) = false := decide_eq_false h3
  have h4 : 64 < a1 := by omega
  have d4 : decide (64 < a1) = true := decide_eq_true h4
  clear hbad
  go_enter Try.func14, Try.ntmps14
  go_wp2
  go_ret
  exact ⟨rfl, B1.out⟩
set_option maxHeartbeats 8000000 in
set_option maxRecDepth 1000000 in
theorem dv_mid (a0 a1 a2 a3 a4 : Int) (A5 : Option Addr) (c5 : Nat) (l5 : List S46) (A6 : Option Addr) (c6 : Nat) (l6 : List Int) (r : Bool) (w : World) (hr5 : Kd.C k46 w A5 l5.length l5) (hc5 : l5.length ≤ c5) (hr6 : Kd.C (Kd.int .i64) w A6 l6.length l6) (hc6 : l6.length ≤ c6) (h : datalink_Valid.f a0 a1 a2 a3 a4 l5 l6 = some r) (h1 : ¬ a0 < 1) (h2 : ¬ 8 < a0) (h3 : ¬ a1 < 2 * a0 + 2) (h4 : ¬ 64 < a1) (hbad : ¬ (isLab a1 a2 = true ∧ isLab a1 a4 = true ∧ ¬ a3 < 0 ∧ ¬ 1073741824 < a3 ∧ ¬ a0 < (l5.length : Int) ∧ ¬ a0 < (l6.length : Int))) :
    Calls Try.prog 14 #[.agg #[.int .i64 a0, .int .i64 a1, .int .i64 a2, .int .i64 a3, .int .i64 a4, .slice A5 l5.length c5, .slice A6 l6.length c6]] w fun e w' => e = .returned (.bool r) ∧ Below w.heap.size w w' := by
  have hu := Try.underlying29
  have hr : false = r := dv_false h (by
    rintro ⟨v1, v2, v3, v4, v5, v6, v7, v8, v9, v10, v11, v12, _⟩
    dsimp only at v5 v6 v7 v8 v9 v10 v11 v12
    exact hbad ⟨decide_eq_true ⟨v5, v6⟩, decide_eq_true ⟨v7, v8⟩, by omega, by omega, by omega, by omega⟩)
  subst hr
  clear h hr5 hr6
  have d1 : decide (a0 < 1) = false := decide_eq_false h1
  have d2 : decide (8 < a0) = false := decide_eq_false h2
  have d3 : decide (a1 < 2 * a0 + 2) = false := decide_eq_false h3
  have d4 : decide (64 < a1) = false := decide_eq_false h4
  have HC := Aside0.mk (show ((w.alloc (.cells #[.int .i64 a0, .int .i64 a1, .int .i64 a2, .int .i64 a3, .int .i64 a4, .slice A5 l5.length c5, .slice A6 l6.length c6] 29)).alloc (.cells #[.func (.func 25) #[] #[.pointer (some ⟨w.heap.size, 0, none⟩)]] 51)).cell? ⟨w.heap.size, 1, none⟩ = some (.int .i64 a1) from (blk_cell (blk_alloc (blk_new _ _) _) 1).trans rfl)
  have B1 := Aside0.mk (below_alloc (below_alloc (Below.refl w.heap.size w) (.cells #[.int .i64 a0, .int .i64 a1, .int .i64 a2, .int .i64 a3, .int .i64 a4, .slice A5 l5.length c5, .slice A6 l6.length c6] 29)) (.cells #[.func (.func 25) #[] #[.pointer (some ⟨w.heap.size, 0, none⟩)]] 51))
  cases hp2 : isLab a1 a2 with
  | false =>
    clear hbad
    go_enter Try.func14, Try.ntmps14
    go_wp2_with (go_at_call 25; refine (label_calls (m := a1) _ (by exact HC.out)).mono ?_; rintro e w1 ⟨rfl, q1, rfl⟩)
    go_ret
    first | exact ⟨rfl, pw_below_drewN B1.out _⟩ | exact ⟨rfl, pw_below_drewN (pw_below_drewN B1.out _) _⟩
  | true =>
  cases hp4 : isLab a1 a4 with
  | false =>
    clear hbad
    go_enter Try.func14, Try.ntmps14
    go_wp2_with (go_at_call 25; refine (label_calls (m := a1) _ (by exact HC.out)).mono ?_; rintro e w1 ⟨rfl, q1, rfl⟩)
    go_ret
    first | exact ⟨rfl, pw_below_drewN B1.out _⟩ | exact ⟨rfl, pw_below_drewN (pw_below_drewN B1.out _) _⟩
  | true =>
  by_cases e5 : a3 < 0
  · have d55 : decide (a3 < 0) = true := decide_eq_true e5
    clear hbad
    go_enter Try.func14, Try.ntmps14
    go_wp2_with (go_at_call 25; refine (label_calls (m := a1) _ (by exact HC.out)).mono ?_; rintro e w1 ⟨rfl, q1, rfl⟩)
    go_ret
    first | exact ⟨rfl, pw_below_drewN B1.out _⟩ | exact ⟨rfl, pw_below_drewN (pw_below_drewN B1.out _) _⟩
  have d55 : decide (a3 < 0) = false := decide_eq_false e5
  by_cases e6 : 1073741824 < a3
  · have d56 : decide (1073741824 < a3) = true := decide_eq_true e6
    clear hbad
    go_enter Try.func14, Try.ntmps14
    go_wp2_with (go_at_call 25; refine (label_calls (m := a1) _ (by exact HC.out)).mono ?_; rintro e w1 ⟨rfl, q1, rfl⟩)
    go_ret
    first | exact ⟨rfl, pw_below_drewN B1.out _⟩ | exact ⟨rfl, pw_below_drewN (pw_below_drewN B1.out _) _⟩
  have d56 : decide (1073741824 < a3) = false := decide_eq_false e6
  by_cases e7 : a0 < (l5.length : Int)
  · have d57 : decide (a0 < (l5.length : Int)) = true := decide_eq_true e7
    clear hbad
    go_enter Try.func14, Try.ntmps14
    go_wp2_with (go_at_call 25; refine (label_calls (m := a1) _ (by exact HC.out)).mono ?_; rintro e w1 ⟨rfl, q1, rfl⟩)
    go_ret
    first | exact ⟨rfl, pw_below_drewN B1.out _⟩ | exact ⟨rfl, pw_below_drewN (pw_below_drewN B1.out _) _⟩
  have d57 : decide (a0 < (l5.length : Int)) = false := decide_eq_false e7
  have e8 : a0 < (l6.length : Int) := Classical.byContradiction fun hn => hbad ⟨hp2, hp4, e5, e6, e7, hn⟩
  have d58 : decide (a0 < (l6.length : Int)) = true := decide_eq_true e8
  clear hbad
  go_enter Try.func14, Try.ntmps14
  go_wp2_with (go_at_call 25; refine (label_calls (m := a1) _ (by exact HC.out)).mono ?_; rintro e w1 ⟨rfl, q1, rfl⟩)
  go_ret
  first | exact ⟨rfl, pw_below_drewN B1.out _⟩ | exact ⟨rfl, pw_below_drewN (pw_below_drewN B1.out _) _⟩
end Go.Proofs.Ytdhkplfkbdldfaa.P
