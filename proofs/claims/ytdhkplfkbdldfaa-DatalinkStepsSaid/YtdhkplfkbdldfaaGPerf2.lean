/- datalink.perform: delivery. -/
import Derived.Test.YtdhkplfkbdldfaaGPerf0
import Derived.Deep.QuietTactic
import Derived.BigQuiet
import Derived.Shelf.RegionOpenPlain
namespace Go.Proofs.Ytdhkplfkbdldfaa.P
open Go.RowKit Go.Proofs.YtdhkplfkbdldfaaW.PrintWords Go.Shelf
set_option linter.unusedVariables false
set_option linter.unusedSimpArgs false
set_option maxHeartbeats 8000000 in
set_option maxRecDepth 1000000 in
theorem perform_2none {base g : Nat} {W : World} {x : DL} {Af Aa : Option Addr} {cf ca : Nat} (at_ : Int) (h : LinkAt base g W x Af cf Aa ca) (hc : x.fr = []) :
    Calls Try.prog 24 #[.pointer (some ⟨g, 0, none⟩), .agg #[.int .i64 2, .int .i64 at_]] W fun e w' => e = .returned (.tuple #[.int .i64 0, .bool false]) ∧ Left base g W w' x Af Aa := by
  have hu := Try.underlying40
  have H := Aside0.mk h
  have hb1 : Below W.heap.size W (W.alloc (.cells #[.int .i64 2, .int .i64 at_] 40)) := below_alloc (Below.refl _ _) _
  have H1 := Aside0.mk (h.kept hb1)
  have B1 := Aside0.mk hb1
  have hl : x.fr.length = 0 := by rw [hc]; rfl
  clear h hb1 hc
  go_enter Try.func24, Try.ntmps24
  have z5 : (W.alloc (.cells #[.int .i64 2, .int .i64 at_] 40)).cell? ⟨g, 5, none⟩ = some (.slice Af 0 cf) := by have := (blk_cell H1.out.blk 5).trans rfl; rwa [hl] at this
  go_wp2
  go_ret2
  exact ⟨rfl, H.out.left B1.out⟩
set_option maxHeartbeats 8000000 in
set_option maxRecDepth 1000000 in
theorem perform_2 {base g : Nat} {W : World} {x : DL} {Af Aa : Option Addr} {cf ca : Nat} (at_ : Int) (f : S46) (r : List S46) (h : LinkAt base g W x Af cf Aa ca) (hc : x.fr = f :: r) (h8 : x.cap ≤ 8) :
    Calls Try.prog 24 #[.pointer (some ⟨g, 0, none⟩), .agg #[.int .i64 2, .int .i64 at_]] W fun e w' => e = .returned (.tuple #[.int .i64 (if f.f0 = x.last then 0 else f.f1), .bool (decide (f.f0 ≠ x.last))]) ∧ Left base g W w' { x with fr := r, last := f.f0, ak := if (x.ak.length : Int) < x.cap then x.ak ++ [f.f0] else x.ak } Af Aa := by
  have hu := Try.underlying40
  have mixed : Try.prog.follows Departure.mixedOrders = true := by kernel_rfl
  have H := Aside0.mk h
  have hb1 : Below W.heap.size W (W.alloc (.cells #[.int .i64 2, .int .i64 at_] 40)) := below_alloc (Below.refl _ _) _
  have H1 := Aside0.mk (h.kept hb1)
  have B1 := Aside0.mk hb1
  have hl : 0 < x.fr.length := by rw [hc]; simp
  have hlb : ((x.fr.length : Int) == 0) = false := beq_eq_false_iff_ne.mpr (by omega)
  obtain ⟨gf, rfl, hgf⟩ := h.head_fr hl
  obtain ⟨ad, had, hf0, hf1⟩ := at_T46 (Kd.R_reads' (h.kept hb1).fr).2.2 0 (Int.le_refl _) (by omega)
  obtain rfl : (⟨gf, 0, none⟩ : Addr) = ad := Option.some.inj had
  have hget : rd_T46 x.fr 0 = f := by rw [hc]; rfl
  rw [hget] at hf0 hf1
  have hf0 : (W.alloc (.cells #[.int .i64 2, .int .i64 at_] 40)).cell? ⟨gf, 0, none⟩ = some (.int .i64 f.f0) := hf0
  have hf1 : (W.alloc (.cells #[.int .i64 2, .int .i64 at_] 40)).cell? ⟨gf, 1, none⟩ = some (.int .i64 f.f1) := hf1
  have hgf1 : gf < (W.alloc (.cells #[.int .i64 2, .int .i64 at_] 40)).heap.size := by simp; omega
  have HC := Aside0.mk hc
  have he : x.fr.eraseIdx 0 = r := by rw [hc]; rfl
  have hlr : x.fr.length - 1 = r.length := by rw [hc]; simp
  have HE := Aside0.mk he
  have HLR := Aside0.mk hlr
  have hsl : 2 ≤ maxLen := by decide
  clear h hb1 hc had hget he hlr
  go_enter Try.func24, Try.ntmps24
  have z0 : (W.alloc (.cells #[.int .i64 2, .int .i64 at_] 40)).cell? ⟨g, 0, none⟩ = some (.int .i64 x.cap) := (blk_cell H1.out.blk 0).trans rfl
  have z4 : (W.alloc (.cells #[.int .i64 2, .int .i64 at_] 40)).cell? ⟨g, 4, none⟩ = some (.int .i64 x.last) := (blk_cell H1.out.blk 4).trans rfl
  have z5 : (W.alloc (.cells #[.int .i64 2, .int .i64 at_] 40)).cell? ⟨g, 5, none⟩ = some (.slice (some ⟨gf, 0, none⟩) x.fr.length cf) := (blk_cell H1.out.blk 5).trans rfl
  have z6 : (W.alloc (.cells #[.int .i64 2, .int .i64 at_] 40)).cell? ⟨g, 6, none⟩ = some (.slice Aa x.ak.length ca) := (blk_cell H1.out.blk 6).trans rfl
  have H2 := Aside0.mk (H1.out.kept (below_alloc (Below.refl _ _) (.cells #[.int .i64 f.f0, .int .i64 f.f1] 46)))
  have B2 := Aside0.mk (below_alloc B1.out (.cells #[.int .i64 f.f0, .int .i64 f.f1] 46))
  have y5 : ((W.alloc (.cells #[.int .i64 2, .int .i64 at_] 40)).alloc (.cells #[.int .i64 f.f0, .int .i64 f.f1] 46)).cell? ⟨g, 5, none⟩ = some (.slice (some ⟨gf, 0, none⟩) x.fr.length cf) := (blk_cell H2.out.blk 5).trans rfl
  have BF := Aside0.mk (blk_new (W.alloc (.cells #[.int .i64 2, .int .i64 at_] 40)) (.cells #[.int .i64 f.f0, .int .i64 f.f1] 46))
  have hrl : r.length ≤ cf := by have := (Kd.R_reads' H.out.fr).2.1; have := HLR.out; omega
  go_wp2_with (go_at_call 33; refine (delete_frames (i := 0) (j := 1) rfl H2.out.fr hl H2.out.sz).mono ?_; rintro e w3 ⟨rfl, ho, hg⟩; rw [HE.out, HLR.out] at ho; rw [HLR.out]; have HG3 := Aside0.mk hg; have HO3 := Aside0.mk ho; have BK3 := Aside0.mk (blk_grown H2.out.blk hg (Kd.R_ne H2.out.fr H2.out.blk (by decide))); have y53 : w3.cell? ⟨g, 5, none⟩ = some (.slice (some ⟨gf, 0, none⟩) x.fr.length cf) := (blk_cell BK3.out 5).trans rfl; have f5 := blk_frozen BK3.out 5; have HL := Aside0.mk (H2.out.setFr (frs := r) HO3.out HG3.out); have HK : Aside0 (Kept W (w3.setCell ⟨g, 5, none⟩ (.slice (some ⟨gf, 0, none⟩) r.length cf)) (Turned g (some ⟨gf, 0, none⟩) Aa)) := ⟨(Kept.of_grown HG3.out (Kept.of_below B2.out _) (fun k hk => .inl (turned_fr g (some ⟨gf, 0, none⟩) Aa x.fr.length cf k hk))).setCell (.inl (turned_g g (some ⟨gf, 0, none⟩) Aa)) _⟩; have HB : Aside0 (Below base W (w3.setCell ⟨g, 5, none⟩ (.slice (some ⟨gf, 0, none⟩) r.length cf))) := ⟨(Below.grown (B2.out.mono H.out.sz) hg H2.out.sz (fun k hk => Kd.R_base H2.out.fr k hk)).setCell (p := ⟨g, 5, none⟩) H.out.lo _⟩; clear ho hg)
  have BK4 := blk_far (p := ⟨g, 5, none⟩) (blk_grown BF.out HG3.out (by rw [World.size_alloc]; intro he; injection he with he; omega)) (by rw [World.size_alloc]; show W.heap.size + 1 ≠ g; have := blk_lt H.out.blk; omega) (.slice (some ⟨gf, 0, none⟩) r.length cf)
  rw [World.size_alloc] at BK4
  have BF4 := Aside0.mk BK4
  clear BK4 y53 f5 z0 z4 z5 z6 y5 hf0 hf1 hgf1 hlb
  generalize (w3.setCell ⟨g, 5, none⟩ (.slice (some ⟨gf, 0, none⟩) r.length cf)) = W3 at HL HK HB BF4 ⊢
  have z0 : W3.cell? ⟨g, 0, none⟩ = some (.int .i64 x.cap) := (blk_cell HL.out.blk 0).trans rfl
  have z4 : W3.cell? ⟨g, 4, none⟩ = some (.int .i64 x.last) := (blk_cell HL.out.blk 4).trans rfl
  have z6 : W3.cell? ⟨g, 6, none⟩ = some (.slice Aa x.ak.length ca) := (blk_cell HL.out.blk 6).trans rfl
  have y0 : W3.cell? ⟨W.heap.size + 1, 0, none⟩ = some (.int .i64 f.f0) := (blk_cell BF4.out 0).trans rfl
  have y1 : W3.cell? ⟨W.heap.size + 1, 1, none⟩ = some (.int .i64 f.f1) := (blk_cell BF4.out 1).trans rfl
  by_cases hroom : (x.ak.length : Int) < x.cap
  · have hcb : decide ((x.ak.length : Int) < x.cap) = true := decide_eq_true hroom
    go_quiet (fail)
    go_wp2_with (fail)
    have HL2 := Aside0.mk (HL.out.kept (W := W3) (w' := (W3.drewN nq).drew) (below_drew1 (pw_below_drewN (Below.refl _ _) nq)))
    have HB2 : Aside0 (Below base W (W3.drewN nq).drew) := ⟨below_drew1 (pw_below_drewN HB.out nq)⟩
    have HK2 : Aside0 (Kept W (W3.drewN nq).drew (Turned g (some ⟨gf, 0, none⟩) Aa)) := ⟨(HK.out.drewN nq).drew⟩
    have BF2 := Aside0.mk (blk_drew (blk_drewN BF4.out nq))
    have z6' : ((W3.drewN (nq + 1)).alloc (.cells #[.int .i64 f.f0] 3)).cell? ⟨g, 6, none⟩ = some (.slice Aa x.ak.length ca) := (blk_cell (blk_alloc (blk_drewN HL.out.blk _) _) 6).trans rfl
    have hak : x.ak.length ≤ 7 := by have := h8; omega
    go_region_law_o (refine Kd.R_append_step (Kd.int .i64) (w0 := W) base (by simp [Region.wanted]) (.tmp 76) (.tmp 79) 22 3 (.int .i64 0) 8 rfl Try.underlying22 info3 rfl (by decide) (by omega) (.slice Aa x.ak.length ca) x.ak f.f0 [.int .i64 f.f0] (fun _ => True) (fun _ => False) (by simp [Act.eval, Act.put]) (by simp [Act.eval, Act.put]) (by exact rfl) (fun _ hk => hk.elim) (fun _ _ => trivial) HL2.out.ak HB2.out HL2.out.sz (by omega) ?_; intro v3 w5 ho hb hg hat; obtain ⟨A5, c5, rfl, _, _⟩ := Kd.R_reads ho; have HO5 := Aside0.mk ho; have HB5 := Aside0.mk hb; have HG5 := Aside0.mk hg; have HT5 := Aside0.mk hat; clear ho hb hg hat; have BK5 := Aside0.mk (blk_grown HL2.out.blk HG5.out (Kd.R_ne HL2.out.ak HL2.out.blk (by decide))); have y65 : w5.cell? ⟨g, 6, none⟩ = some (.slice Aa x.ak.length ca) := (blk_cell BK5.out 6).trans rfl; have f6 := blk_frozen BK5.out 6)
    all_goals
      have HL5 : Aside0 (LinkAt base g (w5.setCell ⟨g, 6, none⟩ (.slice A5 (x.ak.length + 1) c5)) { x with fr := r, ak := x.ak ++ [f.f0] } (some ⟨gf, 0, none⟩) cf A5 c5) := ⟨by
        have := HL2.out.setAk (aks := x.ak ++ [f.f0]) (A3 := A5) (c3 := c5) HO5.out HG5.out
        rwa [show (x.ak ++ [f.f0]).length = x.ak.length + 1 by simp] at this⟩
      have HK6 : Aside0 (Kept W (w5.setCell ⟨g, 6, none⟩ (.slice A5 (x.ak.length + 1) c5)) (Turned g (some ⟨gf, 0, none⟩) Aa)) := ⟨(Kept.of_grown HG5.out HK2.out (fun k hk => .inl (turned_ak g _ Aa _ _ k hk))).setCell (.inl (turned_g g _ Aa)) _⟩
      have HB6 : Aside0 (Below base W (w5.setCell ⟨g, 6, none⟩ (.slice A5 (x.ak.length + 1) c5))) := ⟨HB5.out.setCell (p := ⟨g, 6, none⟩) H.out.lo _⟩
      have hne : some (W.heap.size + 1) ≠ (Value.slice Aa x.ak.length ca).ownBlock := fun he => by have := Kd.R_lt H.out.ak _ he.symm; omega
      have BF6 := Aside0.mk (blk_far (p := ⟨g, 6, none⟩) (blk_grown BF2.out HG5.out hne) (by show W.heap.size + 1 ≠ g; have := blk_lt H.out.blk; omega) (.slice A5 (x.ak.length + 1) c5))
      have hown : (Value.slice A5 0 0).ownBlock = (Value.slice Aa 0 0).ownBlock ∨ ∃ k, (Value.slice A5 0 0).ownBlock = some k ∧ W.heap.size ≤ k := by
        have h_ := HT5.out
        rw [own_len A5 _ _ 0 0, own_len Aa _ _ 0 0] at h_
        exact h_.imp id (fun ⟨k, hk, hb⟩ => ⟨k, hk, Nat.le_trans HK2.out.1 hb⟩)
      clear y65 f6 z6' hne
      generalize (w5.setCell ⟨g, 6, none⟩ (.slice A5 (x.ak.length + 1) c5)) = W5 at HL5 HK6 HB6 BF6 ⊢
      have z4 : W5.cell? ⟨g, 4, none⟩ = some (.int .i64 x.last) := (blk_cell HL5.out.blk 4).trans rfl
      have y0 : W5.cell? ⟨W.heap.size + 1, 0, none⟩ = some (.int .i64 f.f0) := (blk_cell BF6.out 0).trans rfl
      have y1 : W5.cell? ⟨W.heap.size + 1, 1, none⟩ = some (.int .i64 f.f1) := (blk_cell BF6.out 1).trans rfl
      have f4 := blk_frozen HL5.out.blk 4
      by_cases hfr : f.f0 = x.last
      · have hfb : (f.f0 != x.last) = false := by rw [hfr]; simp
        go_wp2_with (fail)
        go_quiet (fail)
        go_wp2
        go_ret2
        have e_ : ({ x with fr := r, ak := x.ak ++ [f.f0] } : DL) = { x with fr := r, ak := x.ak ++ [x.last] } := by first | rfl | rw [hfr]
        refine ⟨rfl, _, _, _, _, (e_ ▸ HL5.out).kept (pw_below_drewN (Below.refl _ _) _), pw_below_drewN HB6.out _, HK6.out.drewN _, hown⟩
      · have hfb : (f.f0 != x.last) = true := by simp [hfr]
        go_wp2_with (fail)
        go_quiet (fail)
        go_wp2
        go_ret2
        refine ⟨rfl, _, _, _, _, (HL5.out.kept (W := W5) (w' := W5.drewN nq) (pw_below_drewN (Below.refl _ _) _)).setLast f.f0, (pw_below_drewN HB6.out _).setCell (p := ⟨g, 4, none⟩) H.out.lo _, (HK6.out.drewN _).setCell (.inl (turned_g g _ Aa)) _, hown⟩
  · have hcb : decide ((x.ak.length : Int) < x.cap) = false := decide_eq_false hroom
    go_quiet (fail)
    have HL5 := Aside0.mk (HL.out.kept (W := W3) (w' := W3.drewN nq) (pw_below_drewN (Below.refl _ _) nq))
    have HB5 : Aside0 (Below base W (W3.drewN nq)) := ⟨pw_below_drewN HB.out nq⟩
    have HK5 : Aside0 (Kept W (W3.drewN nq) (Turned g (some ⟨gf, 0, none⟩) Aa)) := ⟨HK.out.drewN nq⟩
    have BF5 := Aside0.mk (blk_drewN BF4.out nq)
    generalize W3.drewN nq = W5 at HL5 HK5 HB5 BF5 ⊢
    have z4 : W5.cell? ⟨g, 4, none⟩ = some (.int .i64 x.last) := (blk_cell HL5.out.blk 4).trans rfl
    have y0 : W5.cell? ⟨W.heap.size + 1, 0, none⟩ = some (.int .i64 f.f0) := (blk_cell BF5.out 0).trans rfl
    have y1 : W5.cell? ⟨W.heap.size + 1, 1, none⟩ = some (.int .i64 f.f1) := (blk_cell BF5.out 1).trans rfl
    have f4 := blk_frozen HL5.out.blk 4
    by_cases hfr : f.f0 = x.last
    · have hfb : (f.f0 != x.last) = false := by rw [hfr]; simp
      go_wp2_with (fail)
      go_quiet (fail)
      go_wp2
      go_ret2
      have e_ : ({ x with fr := r, ak := x.ak } : DL) = { x with fr := r, ak := x.ak } := by first | rfl | rw [hfr]
      refine ⟨rfl, _, _, _, _, (e_ ▸ HL5.out).kept (pw_below_drewN (Below.refl _ _) _), pw_below_drewN HB5.out _, HK5.out.drewN _, (.inl rfl)⟩
    · have hfb : (f.f0 != x.last) = true := by simp [hfr]
      go_wp2_with (fail)
      go_quiet (fail)
      go_wp2
      go_ret2
      refine ⟨rfl, _, _, _, _, (HL5.out.kept (W := W5) (w' := W5.drewN nq) (pw_below_drewN (Below.refl _ _) _)).setLast f.f0, (pw_below_drewN HB5.out _).setCell (p := ⟨g, 4, none⟩) H.out.lo _, (HK5.out.drewN _).setCell (.inl (turned_g g _ Aa)) _, (.inl rfl)⟩
end Go.Proofs.Ytdhkplfkbdldfaa.P
