/- datalink.perform: acknowledgement. -/
import Derived.Test.YtdhkplfkbdldfaaGPerf0
import Derived.Deep.QuietTactic
import Derived.BigQuiet
import Derived.Shelf.RegionOpenPlain
namespace Go.Proofs.Ytdhkplfkbdldfaa.P
open Go.RowKit Go.Proofs.YtdhkplfkbdldfaaW.PrintWords Go.Shelf
set_option linter.unusedVariables false
set_option linter.unusedSimpArgs false
set_option maxHeartbeats 8000000 in
set_option maxRecDepth 1000000 in
theorem perform_3none {base g : Nat} {W : World} {x : DL} {Af Aa : Option Addr} {cf ca : Nat} (at_ : Int) (h : LinkAt base g W x Af cf Aa ca) (hc : x.ak = []) :
    Calls Try.prog 24 #[.pointer (some ⟨g, 0, none⟩), .agg #[.int .i64 3, .int .i64 at_]] W fun e w' => e = .returned (.tuple #[.int .i64 0, .bool false]) ∧ Left base g W w' x Af Aa := by
  have hu := Try.underlying40
  have H := Aside0.mk h
  have hb1 : Below W.heap.size W (W.alloc (.cells #[.int .i64 3, .int .i64 at_] 40)) := below_alloc (Below.refl _ _) _
  have H1 := Aside0.mk (h.kept hb1)
  have B1 := Aside0.mk hb1
  have hl : x.ak.length = 0 := by rw [hc]; rfl
  clear h hb1 hc
  go_enter Try.func24, Try.ntmps24
  have z5 : (W.alloc (.cells #[.int .i64 3, .int .i64 at_] 40)).cell? ⟨g, 6, none⟩ = some (.slice Aa 0 ca) := by have := (blk_cell H1.out.blk 6).trans rfl; rwa [hl] at this
  go_wp2
  go_ret2
  exact ⟨rfl, H.out.left B1.out⟩
set_option maxHeartbeats 8000000 in
set_option maxRecDepth 1000000 in
theorem perform_3 {base g : Nat} {W : World} {x : DL} {Af Aa : Option Addr} {cf ca : Nat} (at_ : Int) (a : Int) (r : List Int) (h : LinkAt base g W x Af cf Aa ca) (hc : x.ak = a :: r) (hl0 : 0 ≤ x.lab) (hl1 : x.lab < x.mod) (hm : x.mod ≤ 64) (hi0 : 0 ≤ x.item) (hi1 : x.item ≤ 1073741824) :
    Calls Try.prog 24 #[.pointer (some ⟨g, 0, none⟩), .agg #[.int .i64 3, .int .i64 at_]] W fun e w' => e = .returned (.tuple #[.int .i64 0, .bool false]) ∧ Left base g W w' (if a = x.lab then { x with ak := r, lab := (x.lab + 1) % x.mod, item := min (x.item + 1) 1073741824 } else { x with ak := r }) Af Aa := by
  have hu := Try.underlying40
  have mixed : Try.prog.follows Departure.mixedOrders = true := by kernel_rfl
  have H := Aside0.mk h
  have hb1 : Below W.heap.size W (W.alloc (.cells #[.int .i64 3, .int .i64 at_] 40)) := below_alloc (Below.refl _ _) _
  have H1 := Aside0.mk (h.kept hb1)
  have B1 := Aside0.mk hb1
  have hl : 0 < x.ak.length := by rw [hc]; simp
  have hlb : ((x.ak.length : Int) == 0) = false := beq_eq_false_iff_ne.mpr (by omega)
  obtain ⟨gf, rfl, hgf⟩ := h.head_ak hl
  have hf0 : (W.alloc (.cells #[.int .i64 3, .int .i64 at_] 40)).cell? ⟨gf, 0, none⟩ = some (.int .i64 a) := by
    obtain ⟨ad, had, hr⟩ := (Kd.R_reads' (h.kept hb1).ak).2.2.2.2 (by omega)
    obtain rfl : (⟨gf, 0, none⟩ : Addr) = ad := Option.some.inj had
    obtain ⟨cs, _, hcs, hcc⟩ := hr 0 a (by rw [hc]; rfl)
    have hcs : cs = [.int .i64 a] := hcs
    subst hcs
    simpa [Addr.add] using (hcc 0 _ rfl)
  have HC := Aside0.mk hc
  have he : x.ak.eraseIdx 0 = r := by rw [hc]; rfl
  have hlr : x.ak.length - 1 = r.length := by rw [hc]; simp
  have HE := Aside0.mk he
  have HLR := Aside0.mk hlr
  have hsl : 2 ≤ maxLen := by decide
  clear h hb1 hc he hlr
  go_enter Try.func24, Try.ntmps24
  have z2 : (W.alloc (.cells #[.int .i64 3, .int .i64 at_] 40)).cell? ⟨g, 2, none⟩ = some (.int .i64 x.lab) := (blk_cell H1.out.blk 2).trans rfl
  have z6 : (W.alloc (.cells #[.int .i64 3, .int .i64 at_] 40)).cell? ⟨g, 6, none⟩ = some (.slice (some ⟨gf, 0, none⟩) x.ak.length ca) := (blk_cell H1.out.blk 6).trans rfl
  have hrl : r.length ≤ ca := by have := (Kd.R_reads' H.out.ak).2.1; have := HLR.out; omega
  have hmz : x.mod ≠ 0 := by omega
  by_cases hal : a = x.lab
  · have hab : (a == x.lab) = true := by rw [hal]; simp
    go_wp2_with (go_at_call 34; refine (delete_ints (i := 0) (j := 1) rfl H1.out.ak hl H1.out.sz).mono ?_; rintro e w3 ⟨rfl, ho, hg⟩; rw [HE.out, HLR.out] at ho; rw [HLR.out]; have HG3 := Aside0.mk hg; have HO3 := Aside0.mk ho; have BK3 := Aside0.mk (blk_grown H1.out.blk hg (Kd.R_ne H1.out.ak H1.out.blk (by decide))); have y53 : w3.cell? ⟨g, 6, none⟩ = some (.slice (some ⟨gf, 0, none⟩) x.ak.length ca) := (blk_cell BK3.out 6).trans rfl; have f5 := blk_frozen BK3.out 6; have y51 : w3.cell? ⟨g, 1, none⟩ = some (.int .i64 x.mod) := (blk_cell BK3.out 1).trans rfl; have y52 : w3.cell? ⟨g, 2, none⟩ = some (.int .i64 x.lab) := (blk_cell BK3.out 2).trans rfl; have y54 : w3.cell? ⟨g, 3, none⟩ = some (.int .i64 x.item) := (blk_cell BK3.out 3).trans rfl; have f52 := blk_frozen BK3.out 2; have f53 := blk_frozen BK3.out 3; have HL := Aside0.mk (H1.out.setAk (aks := r) HO3.out HG3.out); have HK : Aside0 (Kept W (w3.setCell ⟨g, 6, none⟩ (.slice (some ⟨gf, 0, none⟩) r.length ca)) (Turned g Af (some ⟨gf, 0, none⟩))) := ⟨(Kept.of_grown HG3.out (Kept.of_below B1.out _) (fun k hk => .inl (turned_ak g Af (some ⟨gf, 0, none⟩) x.ak.length ca k hk))).setCell (.inl (turned_g g Af (some ⟨gf, 0, none⟩))) _⟩; have HB : Aside0 (Below base W (w3.setCell ⟨g, 6, none⟩ (.slice (some ⟨gf, 0, none⟩) r.length ca))) := ⟨(Below.grown (B1.out.mono H.out.sz) hg H1.out.sz (fun k hk => Kd.R_base H1.out.ak k hk)).setCell (p := ⟨g, 6, none⟩) H.out.lo _⟩; clear ho hg)
    clear y53 f5 y51 y52 y54 f52 f53 z2 z6 hf0 hlb
    generalize (w3.setCell ⟨g, 6, none⟩ (.slice (some ⟨gf, 0, none⟩) r.length ca)) = W3 at HL HK HB ⊢
    have z1 : W3.cell? ⟨g, 1, none⟩ = some (.int .i64 x.mod) := (blk_cell HL.out.blk 1).trans rfl
    have z2 : W3.cell? ⟨g, 2, none⟩ = some (.int .i64 x.lab) := (blk_cell HL.out.blk 2).trans rfl
    have z3 : W3.cell? ⟨g, 3, none⟩ = some (.int .i64 x.item) := (blk_cell HL.out.blk 3).trans rfl
    have g2 := blk_frozen HL.out.blk 2
    have g3 := blk_frozen HL.out.blk 3
    go_region_with_o (fail)
    all_goals go_wp2_with (fail)
    all_goals
      go_ret2
      refine ⟨rfl, Af, cf, some ⟨gf, 0, none⟩, ca, ?_, below_drew1 ((HB.out.setCell (p := ⟨g, 2, none⟩) H.out.lo _).setCell (p := ⟨g, 3, none⟩) H.out.lo _), Kept.drew ((HK.out.setCell (.inl (turned_g g _ _)) _).setCell (.inl (turned_g g _ _)) _), .inl rfl⟩
      first
      | (rw [show min (x.item + 1) 1073741824 = 1073741824 by omega]; exact ((HL.out.setLab ((x.lab + 1) % x.mod)).setItem 1073741824).kept (below_drew1 (Below.refl _ _)))
      | (rw [show min (x.item + 1) 1073741824 = x.item + 1 by omega]; exact ((HL.out.setLab ((x.lab + 1) % x.mod)).setItem (x.item + 1)).kept (below_drew1 (Below.refl _ _)))
  · have hab : (a == x.lab) = false := by simp [hal]
    go_wp2_with (go_at_call 34; refine (delete_ints (i := 0) (j := 1) rfl H1.out.ak hl H1.out.sz).mono ?_; rintro e w3 ⟨rfl, ho, hg⟩; rw [HE.out, HLR.out] at ho; rw [HLR.out]; have HG3 := Aside0.mk hg; have HO3 := Aside0.mk ho; have BK3 := Aside0.mk (blk_grown H1.out.blk hg (Kd.R_ne H1.out.ak H1.out.blk (by decide))); have y53 : w3.cell? ⟨g, 6, none⟩ = some (.slice (some ⟨gf, 0, none⟩) x.ak.length ca) := (blk_cell BK3.out 6).trans rfl; have f5 := blk_frozen BK3.out 6; have y51 : w3.cell? ⟨g, 1, none⟩ = some (.int .i64 x.mod) := (blk_cell BK3.out 1).trans rfl; have y52 : w3.cell? ⟨g, 2, none⟩ = some (.int .i64 x.lab) := (blk_cell BK3.out 2).trans rfl; have y54 : w3.cell? ⟨g, 3, none⟩ = some (.int .i64 x.item) := (blk_cell BK3.out 3).trans rfl; have f52 := blk_frozen BK3.out 2; have f53 := blk_frozen BK3.out 3; have HL := Aside0.mk (H1.out.setAk (aks := r) HO3.out HG3.out); have HK : Aside0 (Kept W (w3.setCell ⟨g, 6, none⟩ (.slice (some ⟨gf, 0, none⟩) r.length ca)) (Turned g Af (some ⟨gf, 0, none⟩))) := ⟨(Kept.of_grown HG3.out (Kept.of_below B1.out _) (fun k hk => .inl (turned_ak g Af (some ⟨gf, 0, none⟩) x.ak.length ca k hk))).setCell (.inl (turned_g g Af (some ⟨gf, 0, none⟩))) _⟩; have HB : Aside0 (Below base W (w3.setCell ⟨g, 6, none⟩ (.slice (some ⟨gf, 0, none⟩) r.length ca))) := ⟨(Below.grown (B1.out.mono H.out.sz) hg H1.out.sz (fun k hk => Kd.R_base H1.out.ak k hk)).setCell (p := ⟨g, 6, none⟩) H.out.lo _⟩; clear ho hg)
    go_ret2
    exact ⟨rfl, _, _, _, _, HL.out, HB.out, HK.out, .inl rfl⟩
end Go.Proofs.Ytdhkplfkbdldfaa.P
