/- datalink.perform: losses. -/
import Derived.Test.YtdhkplfkbdldfaaGPerf0
import Derived.Deep.QuietTactic
import Derived.BigQuiet
import Derived.Shelf.RegionOpenPlain
namespace Go.Proofs.Ytdhkplfkbdldfaa.P
open Go.RowKit Go.Proofs.YtdhkplfkbdldfaaW.PrintWords Go.Shelf
set_option linter.unusedVariables false
set_option linter.unusedSimpArgs false
set_option maxHeartbeats 8000000 in
set_option maxRecDepth 1000000 in
theorem perform_4none {base g : Nat} {W : World} {x : DL} {Af Aa : Option Addr} {cf ca : Nat} (at_ : Int) (h : LinkAt base g W x Af cf Aa ca) (hc : ¬ (0 ≤ at_ ∧ at_ < x.fr.length)) :
    Calls Try.prog 24 #[.pointer (some ⟨g, 0, none⟩), .agg #[.int .i64 4, .int .i64 at_]] W fun e w' => e = .returned (.tuple #[.int .i64 0, .bool false]) ∧ Left base g W w' x Af Aa := by
  have hu := Try.underlying40
  have H := Aside0.mk h
  have hb1 : Below W.heap.size W (W.alloc (.cells #[.int .i64 4, .int .i64 at_] 40)) := below_alloc (Below.refl _ _) _
  have H1 := Aside0.mk (h.kept hb1)
  have B1 := Aside0.mk hb1
  clear h hb1
  have z5 : (W.alloc (.cells #[.int .i64 4, .int .i64 at_] 40)).cell? ⟨g, 5, none⟩ = some (.slice Af x.fr.length cf) := (blk_cell H1.out.blk 5).trans rfl
  by_cases h0 : 0 ≤ at_
  · have hl : ¬ at_ < (x.fr.length : Int) := fun h => hc ⟨h0, h⟩
    have hd0 : decide (0 ≤ at_) = true := decide_eq_true h0
    have hd1 : decide (at_ < (x.fr.length : Int)) = false := decide_eq_false hl
    clear hc
    go_enter Try.func24, Try.ntmps24
    go_wp2_with (fail)
    have ze : (W.alloc (.cells #[.int .i64 4, .int .i64 at_] 40)).cell? ⟨W.heap.size, 1, none⟩ = some (.int .i64 at_) := (blk_cell (blk_new _ _) 1).trans rfl
    generalize W.alloc (.cells #[.int .i64 4, .int .i64 at_] 40) = W1 at H1 B1 z5 ze ⊢
    go_quiet (fail)
    go_wp2
    go_ret2
    exact ⟨rfl, H.out.left (by first | exact B1.out | exact below_drew1 B1.out | exact pw_below_drewN B1.out _)⟩
  · have hd0 : decide (0 ≤ at_) = false := decide_eq_false h0
    clear hc
    go_enter Try.func24, Try.ntmps24
    go_wp2_with (fail)
    have ze : (W.alloc (.cells #[.int .i64 4, .int .i64 at_] 40)).cell? ⟨W.heap.size, 1, none⟩ = some (.int .i64 at_) := (blk_cell (blk_new _ _) 1).trans rfl
    generalize W.alloc (.cells #[.int .i64 4, .int .i64 at_] 40) = W1 at H1 B1 z5 ze ⊢
    go_quiet (fail)
    go_wp2
    go_ret2
    exact ⟨rfl, H.out.left (by first | exact B1.out | exact below_drew1 B1.out | exact pw_below_drewN B1.out _)⟩
set_option maxHeartbeats 8000000 in
set_option maxRecDepth 1000000 in
theorem perform_4 {base g : Nat} {W : World} {x : DL} {Af Aa : Option Addr} {cf ca : Nat} (at_ : Int) (h : LinkAt base g W x Af cf Aa ca) (h0 : 0 ≤ at_) (hl : at_ < x.fr.length) (h8 : x.fr.length ≤ 8) :
    Calls Try.prog 24 #[.pointer (some ⟨g, 0, none⟩), .agg #[.int .i64 4, .int .i64 at_]] W fun e w' => e = .returned (.tuple #[.int .i64 0, .bool false]) ∧ Left base g W w' { x with fr := x.fr.eraseIdx at_.toNat } Af Aa := by
  have hu := Try.underlying40
  have mixed : Try.prog.follows Departure.mixedOrders = true := by kernel_rfl
  have H := Aside0.mk h
  have hb1 : Below W.heap.size W (W.alloc (.cells #[.int .i64 4, .int .i64 at_] 40)) := below_alloc (Below.refl _ _) _
  have H1 := Aside0.mk (h.kept hb1)
  have B1 := Aside0.mk hb1
  obtain ⟨gf, rfl, hgf⟩ := h.head_fr (by omega)
  have hd0 : decide (0 ≤ at_) = true := decide_eq_true h0
  have hd1 : decide (at_ < (x.fr.length : Int)) = true := decide_eq_true hl
  obtain ⟨i, rfl⟩ : ∃ i : Nat, at_ = (i : Int) := ⟨at_.toNat, by omega⟩
  have hi : i < x.fr.length := by omega
  have hsl : 2 ≤ maxLen := by decide
  obtain ⟨r, hr⟩ : ∃ r, r = x.fr.eraseIdx i := ⟨_, rfl⟩
  have hlr : x.fr.length - 1 = r.length := by rw [hr, List.length_eraseIdx_of_lt hi]
  have HR := Aside0.mk hr
  have HLR := Aside0.mk hlr
  rw [show ((i : Int)).toNat = i from rfl, ← hr]
  clear h hb1 hr hlr
  have z5 : (W.alloc (.cells #[.int .i64 4, .int .i64 i] 40)).cell? ⟨g, 5, none⟩ = some (.slice (some ⟨gf, 0, none⟩) x.fr.length cf) := (blk_cell H1.out.blk 5).trans rfl
  go_enter Try.func24, Try.ntmps24
  go_wp2_with (fail)
  have ze : (W.alloc (.cells #[.int .i64 4, .int .i64 i] 40)).cell? ⟨W.heap.size, 1, none⟩ = some (.int .i64 i) := (blk_cell (blk_new _ _) 1).trans rfl
  generalize W.alloc (.cells #[.int .i64 4, .int .i64 i] 40) = W1 at H1 B1 z5 ze ⊢
  go_quiet (fail)
  have H2 := Aside0.mk (H1.out.kept (W := W1) (w' := W1.drewN nq) (pw_below_drewN (Below.refl _ _) nq))
  have B2 := Aside0.mk (pw_below_drewN B1.out nq)
  have z5' : (W1.drewN nq).cell? ⟨g, 5, none⟩ = some (.slice (some ⟨gf, 0, none⟩) x.fr.length cf) := z5
  have ze' : (W1.drewN nq).cell? ⟨W.heap.size, 1, none⟩ = some (.int .i64 i) := ze
  clear z5 ze H1 B1
  generalize W1.drewN nq = W2 at H2 B2 z5' ze' ⊢
  have hw : IntKind.i64.wrap ((i : Int) + 1) = ((i + 1 : Nat) : Int) := by rw [Go.Proofs.YtdhkplfkbdldfaaW.PrintLast.i64_w]; unfold Go.RowKit.wrap64; omega
  go_wp2_with (fail)
  go_region_with_o (go_at_call 33; refine (calls_of_args ?hA (delete_frames (i := i) (j := i + 1) rfl (H2.out.kept (below_drew1 (Below.refl _ _))).fr hi (by exact H2.out.sz))).mono ?_; (case hA => first | rfl | (rw [hw]; done) | (simp; done)); rintro e w3 ⟨rfl, ho, hg⟩; rw [← HR.out, HLR.out] at ho; rw [HLR.out]; have HG3 := Aside0.mk hg; have HO3 := Aside0.mk ho; have BK3 := Aside0.mk (blk_grown (H2.out.kept (below_drew1 (Below.refl _ _))).blk hg (Kd.R_ne H2.out.fr H2.out.blk (by decide))); have y53 : w3.cell? ⟨g, 5, none⟩ = some (.slice (some ⟨gf, 0, none⟩) x.fr.length cf) := (blk_cell BK3.out 5).trans rfl; have f5 := blk_frozen BK3.out 5; have HL := Aside0.mk ((H2.out.kept (below_drew1 (Below.refl _ _))).setFr (frs := r) HO3.out HG3.out); have HK : Aside0 (Kept W (w3.setCell ⟨g, 5, none⟩ (.slice (some ⟨gf, 0, none⟩) r.length cf)) (Turned g (some ⟨gf, 0, none⟩) Aa)) := ⟨(Kept.of_grown HG3.out (Kept.of_below (below_drew1 B2.out) _) (fun k hk => .inl (turned_fr g (some ⟨gf, 0, none⟩) Aa x.fr.length cf k hk))).setCell (.inl (turned_g g (some ⟨gf, 0, none⟩) Aa)) _⟩; have HB : Aside0 (Below base W (w3.setCell ⟨g, 5, none⟩ (.slice (some ⟨gf, 0, none⟩) r.length cf))) := ⟨(Below.grown (below_drew1 (B2.out.mono H.out.sz)) hg H2.out.sz (fun k hk => Kd.R_base H2.out.fr k hk)).setCell (p := ⟨g, 5, none⟩) H.out.lo _⟩; clear ho hg)
  all_goals
    go_wp2
    go_ret2
    exact ⟨rfl, _, _, _, _, HL.out, HB.out, HK.out, .inl rfl⟩
set_option maxHeartbeats 8000000 in
set_option maxRecDepth 1000000 in
theorem perform_5none {base g : Nat} {W : World} {x : DL} {Af Aa : Option Addr} {cf ca : Nat} (at_ : Int) (h : LinkAt base g W x Af cf Aa ca) (hc : ¬ (0 ≤ at_ ∧ at_ < x.ak.length)) :
    Calls Try.prog 24 #[.pointer (some ⟨g, 0, none⟩), .agg #[.int .i64 5, .int .i64 at_]] W fun e w' => e = .returned (.tuple #[.int .i64 0, .bool false]) ∧ Left base g W w' x Af Aa := by
  have hu := Try.underlying40
  have H := Aside0.mk h
  have hb1 : Below W.heap.size W (W.alloc (.cells #[.int .i64 5, .int .i64 at_] 40)) := below_alloc (Below.refl _ _) _
  have H1 := Aside0.mk (h.kept hb1)
  have B1 := Aside0.mk hb1
  clear h hb1
  have z5 : (W.alloc (.cells #[.int .i64 5, .int .i64 at_] 40)).cell? ⟨g, 6, none⟩ = some (.slice Aa x.ak.length ca) := (blk_cell H1.out.blk 6).trans rfl
  by_cases h0 : 0 ≤ at_
  · have hl : ¬ at_ < (x.ak.length : Int) := fun h => hc ⟨h0, h⟩
    have hd0 : decide (0 ≤ at_) = true := decide_eq_true h0
    have hd1 : decide (at_ < (x.ak.length : Int)) = false := decide_eq_false hl
    clear hc
    go_enter Try.func24, Try.ntmps24
    go_wp2_with (fail)
    have ze : (W.alloc (.cells #[.int .i64 5, .int .i64 at_] 40)).cell? ⟨W.heap.size, 1, none⟩ = some (.int .i64 at_) := (blk_cell (blk_new _ _) 1).trans rfl
    generalize W.alloc (.cells #[.int .i64 5, .int .i64 at_] 40) = W1 at H1 B1 z5 ze ⊢
    go_quiet (fail)
    go_wp2
    go_ret2
    exact ⟨rfl, H.out.left (by first | exact B1.out | exact below_drew1 B1.out | exact pw_below_drewN B1.out _)⟩
  · have hd0 : decide (0 ≤ at_) = false := decide_eq_false h0
    clear hc
    go_enter Try.func24, Try.ntmps24
    go_wp2_with (fail)
    have ze : (W.alloc (.cells #[.int .i64 5, .int .i64 at_] 40)).cell? ⟨W.heap.size, 1, none⟩ = some (.int .i64 at_) := (blk_cell (blk_new _ _) 1).trans rfl
    generalize W.alloc (.cells #[.int .i64 5, .int .i64 at_] 40) = W1 at H1 B1 z5 ze ⊢
    go_quiet (fail)
    go_wp2
    go_ret2
    exact ⟨rfl, H.out.left (by first | exact B1.out | exact below_drew1 B1.out | exact pw_below_drewN B1.out _)⟩
set_option maxHeartbeats 8000000 in
set_option maxRecDepth 1000000 in
theorem perform_5 {base g : Nat} {W : World} {x : DL} {Af Aa : Option Addr} {cf ca : Nat} (at_ : Int) (h : LinkAt base g W x Af cf Aa ca) (h0 : 0 ≤ at_) (hl : at_ < x.ak.length) (h8 : x.ak.length ≤ 8) :
    Calls Try.prog 24 #[.pointer (some ⟨g, 0, none⟩), .agg #[.int .i64 5, .int .i64 at_]] W fun e w' => e = .returned (.tuple #[.int .i64 0, .bool false]) ∧ Left base g W w' { x with ak := x.ak.eraseIdx at_.toNat } Af Aa := by
  have hu := Try.underlying40
  have mixed : Try.prog.follows Departure.mixedOrders = true := by kernel_rfl
  have H := Aside0.mk h
  have hb1 : Below W.heap.size W (W.alloc (.cells #[.int .i64 5, .int .i64 at_] 40)) := below_alloc (Below.refl _ _) _
  have H1 := Aside0.mk (h.kept hb1)
  have B1 := Aside0.mk hb1
  obtain ⟨gf, rfl, hgf⟩ := h.head_ak (by omega)
  have hd0 : decide (0 ≤ at_) = true := decide_eq_true h0
  have hd1 : decide (at_ < (x.ak.length : Int)) = true := decide_eq_true hl
  obtain ⟨i, rfl⟩ : ∃ i : Nat, at_ = (i : Int) := ⟨at_.toNat, by omega⟩
  have hi : i < x.ak.length := by omega
  have hsl : 2 ≤ maxLen := by decide
  obtain ⟨r, hr⟩ : ∃ r, r = x.ak.eraseIdx i := ⟨_, rfl⟩
  have hlr : x.ak.length - 1 = r.length := by rw [hr, List.length_eraseIdx_of_lt hi]
  have HR := Aside0.mk hr
  have HLR := Aside0.mk hlr
  rw [show ((i : Int)).toNat = i from rfl, ← hr]
  clear h hb1 hr hlr
  have z5 : (W.alloc (.cells #[.int .i64 5, .int .i64 i] 40)).cell? ⟨g, 6, none⟩ = some (.slice (some ⟨gf, 0, none⟩) x.ak.length ca) := (blk_cell H1.out.blk 6).trans rfl
  go_enter Try.func24, Try.ntmps24
  go_wp2_with (fail)
  have ze : (W.alloc (.cells #[.int .i64 5, .int .i64 i] 40)).cell? ⟨W.heap.size, 1, none⟩ = some (.int .i64 i) := (blk_cell (blk_new _ _) 1).trans rfl
  generalize W.alloc (.cells #[.int .i64 5, .int .i64 i] 40) = W1 at H1 B1 z5 ze ⊢
  go_quiet (fail)
  have H2 := Aside0.mk (H1.out.kept (W := W1) (w' := W1.drewN nq) (pw_below_drewN (Below.refl _ _) nq))
  have B2 := Aside0.mk (pw_below_drewN B1.out nq)
  have z5' : (W1.drewN nq).cell? ⟨g, 6, none⟩ = some (.slice (some ⟨gf, 0, none⟩) x.ak.length ca) := z5
  have ze' : (W1.drewN nq).cell? ⟨W.heap.size, 1, none⟩ = some (.int .i64 i) := ze
  clear z5 ze H1 B1
  generalize W1.drewN nq = W2 at H2 B2 z5' ze' ⊢
  have hw : IntKind.i64.wrap ((i : Int) + 1) = ((i + 1 : Nat) : Int) := by rw [Go.Proofs.YtdhkplfkbdldfaaW.PrintLast.i64_w]; unfold Go.RowKit.wrap64; omega
  go_wp2_with (fail)
  go_region_with_o (go_at_call 34; refine (calls_of_args ?hA (delete_ints (i := i) (j := i + 1) rfl (H2.out.kept (below_drew1 (Below.refl _ _))).ak hi (by exact H2.out.sz))).mono ?_; (case hA => first | rfl | (rw [hw]; done) | (simp; done)); rintro e w3 ⟨rfl, ho, hg⟩; rw [← HR.out, HLR.out] at ho; rw [HLR.out]; have HG3 := Aside0.mk hg; have HO3 := Aside0.mk ho; have BK3 := Aside0.mk (blk_grown (H2.out.kept (below_drew1 (Below.refl _ _))).blk hg (Kd.R_ne H2.out.ak H2.out.blk (by decide))); have y53 : w3.cell? ⟨g, 6, none⟩ = some (.slice (some ⟨gf, 0, none⟩) x.ak.length ca) := (blk_cell BK3.out 6).trans rfl; have f5 := blk_frozen BK3.out 6; have HL := Aside0.mk ((H2.out.kept (below_drew1 (Below.refl _ _))).setAk (aks := r) HO3.out HG3.out); have HK : Aside0 (Kept W (w3.setCell ⟨g, 6, none⟩ (.slice (some ⟨gf, 0, none⟩) r.length ca)) (Turned g Af (some ⟨gf, 0, none⟩))) := ⟨(Kept.of_grown HG3.out (Kept.of_below (below_drew1 B2.out) _) (fun k hk => .inl (turned_ak g Af (some ⟨gf, 0, none⟩) x.ak.length ca k hk))).setCell (.inl (turned_g g Af (some ⟨gf, 0, none⟩))) _⟩; have HB : Aside0 (Below base W (w3.setCell ⟨g, 6, none⟩ (.slice (some ⟨gf, 0, none⟩) r.length ca))) := ⟨(Below.grown (below_drew1 (B2.out.mono H.out.sz)) hg H2.out.sz (fun k hk => Kd.R_base H2.out.ak k hk)).setCell (p := ⟨g, 6, none⟩) H.out.lo _⟩; clear ho hg)
  all_goals
    go_wp2
    go_ret2
    exact ⟨rfl, _, _, _, _, HL.out, HB.out, HK.out, .inl rfl⟩
end Go.Proofs.Ytdhkplfkbdldfaa.P
