/- datalink.perform: transmission. -/
import Derived.Test.YtdhkplfkbdldfaaGPerf0
import Derived.Deep.QuietTactic
import Derived.BigQuiet
import Derived.Shelf.RegionOpenPlain
namespace Go.Proofs.Ytdhkplfkbdldfaa.P
open Go.RowKit Go.Proofs.YtdhkplfkbdldfaaW.PrintWords Go.Shelf
set_option linter.unusedVariables false
set_option linter.unusedSimpArgs false
set_option maxHeartbeats 8000000 in
set_option maxRecDepth 1000000 in
theorem perform_1full {base g : Nat} {W : World} {x : DL} {Af Aa : Option Addr} {cf ca : Nat} (at_ : Int) (h : LinkAt base g W x Af cf Aa ca) (hc : ¬ (x.fr.length : Int) < x.cap) :
    Calls Try.prog 24 #[.pointer (some ⟨g, 0, none⟩), .agg #[.int .i64 1, .int .i64 at_]] W fun e w' => e = .returned (.tuple #[.int .i64 0, .bool false]) ∧ Left base g W w' x Af Aa := by
  have hu := Try.underlying40
  have H := Aside0.mk h
  have hb1 : Below W.heap.size W (W.alloc (.cells #[.int .i64 1, .int .i64 at_] 40)) := below_alloc (Below.refl _ _) _
  have H1 := Aside0.mk (h.kept hb1)
  have B1 := Aside0.mk hb1
  have hcb : decide ((x.fr.length : Int) < x.cap) = false := decide_eq_false hc
  clear h hb1 hc
  go_enter Try.func24, Try.ntmps24
  go_wp2_with fail
  generalize W.alloc (.cells #[.int .i64 1, .int .i64 at_] 40) = W1 at H1 B1 ⊢
  have z0 : W1.cell? ⟨g, 0, none⟩ = some (.int .i64 x.cap) := (blk_cell H1.out.blk 0).trans rfl
  have z5 : W1.cell? ⟨g, 5, none⟩ = some (.slice Af x.fr.length cf) := (blk_cell H1.out.blk 5).trans rfl
  go_quiet (fail)
  go_wp2
  go_ret2
  exact ⟨rfl, H.out.left (pw_below_drewN B1.out nq)⟩
set_option maxHeartbeats 8000000 in
set_option maxRecDepth 1000000 in
theorem perform_1room {base g : Nat} {W : World} {x : DL} {Af Aa : Option Addr} {cf ca : Nat} (at_ : Int) (h : LinkAt base g W x Af cf Aa ca) (hc : (x.fr.length : Int) < x.cap) (h8 : x.cap ≤ 8) :
    Calls Try.prog 24 #[.pointer (some ⟨g, 0, none⟩), .agg #[.int .i64 1, .int .i64 at_]] W fun e w' => e = .returned (.tuple #[.int .i64 0, .bool false]) ∧ Left base g W w' { x with fr := x.fr ++ [⟨x.lab, x.item⟩] } Af Aa := by
  have hu := Try.underlying40
  have H := Aside0.mk h
  have hb1 : Below W.heap.size W (W.alloc (.cells #[.int .i64 1, .int .i64 at_] 40)) := below_alloc (Below.refl _ _) _
  have H1 := Aside0.mk (h.kept hb1)
  have B1 := Aside0.mk hb1
  have hcb : decide ((x.fr.length : Int) < x.cap) = true := decide_eq_true hc
  have h7 : x.fr.length ≤ 7 := by omega
  have mixed : Try.prog.follows Departure.mixedOrders = true := by kernel_rfl
  clear h hb1 hc
  go_enter Try.func24, Try.ntmps24
  go_wp2_with fail
  generalize W.alloc (.cells #[.int .i64 1, .int .i64 at_] 40) = W1 at H1 B1 ⊢
  have z0 : W1.cell? ⟨g, 0, none⟩ = some (.int .i64 x.cap) := (blk_cell H1.out.blk 0).trans rfl
  have z2 : W1.cell? ⟨g, 2, none⟩ = some (.int .i64 x.lab) := (blk_cell H1.out.blk 2).trans rfl
  have z3 : W1.cell? ⟨g, 3, none⟩ = some (.int .i64 x.item) := (blk_cell H1.out.blk 3).trans rfl
  have z5 : W1.cell? ⟨g, 5, none⟩ = some (.slice Af x.fr.length cf) := (blk_cell H1.out.blk 5).trans rfl
  go_quiet (fail)
  go_wp2_with fail
  have H2 := Aside0.mk (H1.out.kept (W := W1) (w' := (W1.drewN nq).drew) (below_drew1 (pw_below_drewN (Below.refl _ _) nq)))
  have B2 := Aside0.mk (below_drew1 (pw_below_drewN B1.out nq))
  have z5' : ((W1.drewN (nq + 1)).alloc (.cells #[.int .i64 x.lab, .int .i64 x.item] 46)).cell? ⟨g, 5, none⟩ = some (.slice Af x.fr.length cf) := (blk_cell (blk_alloc (blk_drewN H1.out.blk _) _) 5).trans rfl
  go_region_law_o (refine Kd.R_append_step k46 (w0 := W) base (by simp [Region.wanted]) (.tmp 26) (.tmp 36) 27 46 (.agg #[(.int .i64 0), (.int .i64 0)]) 16 rfl Try.underlying27 info46 rfl (by decide) (by omega) (.slice Af x.fr.length cf) x.fr (⟨x.lab, x.item⟩ : S46) [.int .i64 x.lab, .int .i64 x.item] (fun _ => True) (fun _ => False) (by simp [Act.eval, Act.put]) (by simp [Act.eval, Act.put]) (k46_mkM _ _ _ (⟨x.lab, x.item⟩ : S46)) (fun _ hk => hk.elim) (fun _ _ => trivial) H2.out.fr (B2.out.mono H.out.sz) H2.out.sz (by omega) ?_; intro v3 w3 ho hb hg hat; obtain ⟨A3, c3, rfl, _, _⟩ := Kd.R_reads ho; have HO3 := Aside0.mk ho; have HB3 := Aside0.mk hb; have HG3 := Aside0.mk hg; have HT3 := Aside0.mk hat; clear ho hb hg hat; have BK3 := Aside0.mk (blk_grown H2.out.blk HG3.out (Kd.R_ne H2.out.fr H2.out.blk (by decide))); have y5 : w3.cell? ⟨g, 5, none⟩ = some (.slice Af x.fr.length cf) := (blk_cell BK3.out 5).trans rfl; have f5 := blk_frozen BK3.out 5)
  all_goals
    have HL : Aside0 (LinkAt base g (w3.setCell ⟨g, 5, none⟩ (.slice A3 (x.fr.length + 1) c3)) { x with fr := x.fr ++ [⟨x.lab, x.item⟩] } A3 c3 Aa ca) := ⟨by
      have := H2.out.setFr (frs := x.fr ++ [(⟨x.lab, x.item⟩ : S46)]) (A3 := A3) (c3 := c3) HO3.out HG3.out
      rwa [show (x.fr ++ [(⟨x.lab, x.item⟩ : S46)]).length = x.fr.length + 1 by simp] at this⟩
    have HK : Aside0 (Kept W (w3.setCell ⟨g, 5, none⟩ (.slice A3 (x.fr.length + 1) c3)) (Turned g Af Aa)) := ⟨(Kept.of_grown HG3.out (Kept.of_below B2.out _) (fun k hk => .inl (turned_fr g Af Aa _ _ k hk))).setCell (.inl (turned_g g Af Aa)) _⟩
    have HB : Aside0 (Below base W (w3.setCell ⟨g, 5, none⟩ (.slice A3 (x.fr.length + 1) c3))) := ⟨HB3.out.setCell (p := ⟨g, 5, none⟩) H.out.lo _⟩
    go_wp2
    go_ret2
    exact ⟨rfl, _, _, _, _, HL.out, HB.out, HK.out, .inl rfl⟩
end Go.Proofs.Ytdhkplfkbdldfaa.P
