/- datalink.perform: one event at a valid link in memory. -/
import Derived.Test.YtdhkplfkbdldfaaGPerf1
import Derived.Test.YtdhkplfkbdldfaaGPerf2
import Derived.Test.YtdhkplfkbdldfaaGPerf3
import Derived.Test.YtdhkplfkbdldfaaGPerf4
namespace Go.Proofs.Ytdhkplfkbdldfaa.P
open Go.RowKit Go.Proofs.YtdhkplfkbdldfaaW.PrintWords Go.Shelf
set_option linter.unusedVariables false
set_option linter.unusedSimpArgs false
set_option maxHeartbeats 8000000 in
set_option maxRecDepth 1000000 in
theorem perform_0 {base g : Nat} {W : World} {x : DL} {Af Aa : Option Addr} {cf ca : Nat} (kind at_ : Int) (h : LinkAt base g W x Af cf Aa ca) (h1 : kind ≠ 1) (h2 : kind ≠ 2) (h3 : kind ≠ 3) (h4 : kind ≠ 4) (h5 : kind ≠ 5) :
    Calls Try.prog 24 #[.pointer (some ⟨g, 0, none⟩), .agg #[.int .i64 kind, .int .i64 at_]] W fun e w' => e = .returned (.tuple #[.int .i64 0, .bool false]) ∧ Left base g W w' x Af Aa := by
  have hu := Try.underlying40
  have H := Aside0.mk h
  have B1 := Aside0.mk (below_alloc (Below.refl W.heap.size W) (.cells #[.int .i64 kind, .int .i64 at_] 40))
  have k1 : (kind == 1) = false := beq_eq_false_iff_ne.mpr h1
  have k2 : (kind == 2) = false := beq_eq_false_iff_ne.mpr h2
  have k3 : (kind == 3) = false := beq_eq_false_iff_ne.mpr h3
  have k4 : (kind == 4) = false := beq_eq_false_iff_ne.mpr h4
  have k5 : (kind == 5) = false := beq_eq_false_iff_ne.mpr h5
  have q1 : (kind = 1) = False := eq_false h1
  have q2 : (kind = 2) = False := eq_false h2
  have q3 : (kind = 3) = False := eq_false h3
  have q4 : (kind = 4) = False := eq_false h4
  have q5 : (kind = 5) = False := eq_false h5
  clear h
  go_enter Try.func24, Try.ntmps24
  go_wp2
  all_goals
    go_ret2
    exact ⟨rfl, H.out.left B1.out⟩
theorem perform_calls {base g : Nat} {W : World} {x : DL} {Af Aa : Option Addr} {cf ca : Nat} (V : ValidD x) (kind at_ : Int) (h : LinkAt base g W x Af cf Aa ca) :
    Calls Try.prog 24 #[.pointer (some ⟨g, 0, none⟩), .agg #[.int .i64 kind, .int .i64 at_]] W fun e w' => e = .returned (.tuple #[.int .i64 (stepD x kind at_).2.1, .bool (stepD x kind at_).2.2]) ∧ Left base g W w' (stepD x kind at_).1 Af Aa := by
  obtain ⟨v1, v2, v3, v4, v5, v6, v7, v8, v9, v10, v11, v12, v13, v14⟩ := V
  unfold stepD
  split
  · rename_i hk; subst hk
    split
    · rename_i hr; exact perform_1room at_ h hr v2
    · rename_i hr; exact perform_1full at_ h hr
  · rename_i h1
    split
    · rename_i hk; subst hk
      split
      · rename_i hr; exact perform_2none at_ h hr
      · rename_i f r hr; exact perform_2 at_ f r h hr v2
    · rename_i h2
      split
      · rename_i hk; subst hk
        split
        · rename_i hr; exact perform_3none at_ h hr
        · rename_i a r hr; exact perform_3 at_ a r h hr v5 v6 v4 v9 v10
      · rename_i h3
        split
        · rename_i hk; subst hk
          split
          · rename_i hr; exact perform_4 at_ h hr.1 hr.2 (by omega)
          · rename_i hr; exact perform_4none at_ h hr
        · rename_i h4
          split
          · rename_i hk; subst hk
            split
            · rename_i hr; exact perform_5 at_ h hr.1 hr.2 (by omega)
            · rename_i hr; exact perform_5none at_ h hr
          · rename_i h5; exact perform_0 kind at_ h h1 h2 h3 h4 h5
end Go.Proofs.Ytdhkplfkbdldfaa.P
