/- slices.Backward: the elements of a row, the last one first, as contracts for ranges over it. -/
import Derived.Test.YtdhkplfkbdldfaaP0
import Derived.RangeFuncNested
import Derived.RangeFuncBound
import Derived.RangeFuncCalls
import Derived.RangeFuncLeaves
import Derived.Shelf.Abstract
import Derived.WalkKit
import Derived.OwnWalkIn
import Derived.TacticsInMore
import Derived.LoopNIn
import Derived.LoopIn
namespace Go.Proofs.Ytdhkplfkbdldfaa.P
open Go.RowKit Go.Proofs.YtdhkplfkbdldfaaW.PrintWords Go.Shelf
attribute [local go_sem] Oper.semAt_some
set_option linter.unusedVariables false
set_option linter.unusedSimpArgs false
/-- What a range over Backward meets, from place k - 1 down. -/
def back {α : Type} (at_ : Int → α) : Nat → List (Int × α)
  | 0 => []
  | k + 1 => ((k : Int), at_ (k : Int)) :: back at_ k
theorem back_len {α : Type} (at_ : Int → α) : ∀ k, (back at_ k).length = k
  | 0 => rfl
  | k + 1 => by simp [back, back_len at_ k]
/-- What a round that goes on keeps: what lay below n0, and the iterator's own box. -/
def KeepsBox (n0 b : Nat) (A B : World) : Prop := Below n0 A B ∧ B.heap[b]? = A.heap[b]?
theorem keepsBox_t {n0 b : Nat} {A B C : World} (h : KeepsBox n0 b A B) (k : KeepsBox n0 b B C) : KeepsBox n0 b A C := ⟨h.1.trans k.1, k.2.trans h.2⟩
theorem keepsBox_b {n0 b : Nat} {w : World} (hn : n0 ≤ w.heap.size) (hb : b < w.heap.size) (W : World) (l : Nat) (o o' : Obj) (hl : w.heap.size ≤ l) (h : W.heap[l]? = some o) (hc : o.isCells = false) (hw : o.isWalk = false) : KeepsBox n0 b W (W.putObj l o') :=
  ⟨belowK_b hn W l o o' hl h hc hw, World.putObj_heap_other (by omega)⟩
theorem at_int {w : World} {A : Option Addr} {n : Nat} {xs : List Int} (h : Kd.C (Kd.int .i64) w A n xs) (i : Int) (h0 : 0 ≤ i) (h1 : i < n) : ∃ ad, A = some ad ∧ w.cell? (ad.add i.toNat) = some (.int .i64 (rd xs i)) := by
  obtain ⟨ad, c, e, hc, hk, hcell⟩ := ReadsRow.get_ h 0 i h0 h1
  have hk : c = [.int .i64 (xs.getD i.toNat 0)] := hk
  subst hk
  refine ⟨ad, e, ?_⟩
  have := hcell 0 _ rfl
  rwa [show i.toNat * (Kd.int .i64).sz + 0 = i.toNat from by show i.toNat * 1 + 0 = i.toNat; omega] at this

theorem backF_calls (A : Option Addr) (n c : Nat) (w : World) : Calls Try.prog 29 #[.slice A n c] w fun e w' => e = .returned (.func (.func 36) #[] #[.pointer (some ⟨w.heap.size, 0, none⟩)]) ∧ w' = w.alloc (.cells #[.slice A n c] 27) := by
  go_enter Try.func29, Try.ntmps29
  go_wp2
  go_ret
  exact ⟨rfl, rfl⟩
set_option maxHeartbeats 4000000 in
set_option maxRecDepth 100000 in
theorem backF_in (m l Bs : Nat) (w0 : World) (A : Option Addr) (c : Nat) (xs : List S46) (hR0 : Kd.C k46 w0 A xs.length xs) (hc : xs.length ≤ c) (hlen : xs.length ≤ 1000000) (J Jx : List (Int × S46) → World → Prop)
    (hY : ∀ pre x W1, J pre W1 → pre.length < xs.length → YieldAt Fence.wide (m - 1) Try.prog l #[.int .i64 x.1, .agg #[.int .i64 x.2.f0, .int .i64 x.2.f1]] W1 fun e W' => (e = .returned (.bool true) ∧ J (pre ++ [x]) W' ∧ KeepsBox w0.heap.size Bs W1 W') ∨ (e = .returned (.bool false) ∧ Jx (pre ++ [x]) W'))
    (W : World) (hb : W.heap[Bs]? = some (.cells #[.slice A xs.length c] 27 (0, 0))) (hB0 : Below w0.heap.size w0 W) (h0 : J [] W) :
    CallsIn Fence.wide m Try.prog 36 #[.func (.yield l) #[] #[], .pointer (some ⟨Bs, 0, none⟩)] W fun e W' => (∃ v, e = .returned v) ∧ ((∃ ys, ys = back (rd_T46 xs) xs.length ∧ J ys W') ∨ (∃ pre, True ∧ Jx pre W')) := by
  have HR0 := Aside0.mk hR0
  clear hR0
  have hcs : W.cell? ⟨Bs, 0, none⟩ = some (.slice A xs.length c) := (blk_cell hb 0).trans rfl
  refine callsIn_of_wp Try.func36 rfl trivial ?_ rfl
  simp only [Try.ntmps36, List.size_toArray, List.length_cons, List.length_nil, Nat.reduceAdd, Nat.reduceSub, Array.replicate_succ, Array.replicate_zero, List.push_toArray, List.append_toArray, List.nil_append, List.cons_append]
  have HH := Aside0.mk hb
  have HB0 := Aside0.mk hB0
  clear hb hB0
  gi_wp2
  clear hcs
  gi_loopw [3] (fun s3 wr => ∃ (pre : List (Int × S46)) (i : Int) (k : Nat), s3 = .int .i64 i ∧ -1 ≤ i ∧ i < (xs.length : Int) ∧ Aside0 (i + 1 = (k : Int)) ∧ Aside0 (back (rd_T46 xs) xs.length = pre ++ back (rd_T46 xs) k) ∧ Aside0 (pre.length + k = xs.length) ∧ Aside0 (J pre wr) ∧ Aside0 (Below w0.heap.size w0 wr) ∧ Aside0 (wr.heap[Bs]? = some (.cells #[.slice A xs.length c] 27 (0, 0))))
    (fun s3 _ => (intOf s3 + 1).toNat)
  case atStart => exact ⟨[], _, xs.length, rfl, by omega, by omega, ⟨by omega⟩, ⟨rfl⟩, ⟨by simp⟩, ⟨h0⟩, HB0, HH⟩
  case round =>
    obtain ⟨pre, i, k, rfl, hi0, hi1, HK, HX, HL, HJ, HB, HS⟩ := hrel
    have hcs : wr.cell? ⟨Bs, 0, none⟩ = some (.slice A xs.length c) := (blk_cell HS.out 0).trans rfl
    by_cases hz : 0 ≤ i
    · obtain ⟨k, rfl⟩ : ∃ q, k = q + 1 := ⟨k - 1, by have := HK.out; omega⟩
      obtain rfl : i = (k : Int) := by have := HK.out; omega
      obtain ⟨fn, tmps, assign, body, hy, hR⟩ := hY pre ((k : Int), rd_T46 xs (k : Int)) wr HJ.out (by have := HL.out; omega)
      dsimp only at hy
      obtain ⟨ad, rfl, hx0, hx1⟩ := at_T46 (Kd.C_below HR0.out HB.out) (k : Int) hz hi1
      rw [Int.toNat_natCast] at hx0 hx1
      gi_wp2
      refine ⟨nofun, hR.mono ?_⟩
      rintro e W3 (⟨rfl, hJ3, hk3⟩ | ⟨rfl, hJx3⟩)
      · gi_wp2
        go_roundw
        case rel => exact ⟨pre ++ [((k : Int), rd_T46 xs (k : Int))], _, k, rfl, by omega, by omega, ⟨by omega⟩, ⟨by rw [HX.out, List.append_assoc]; rfl⟩, ⟨by have := HL.out; simp; omega⟩, ⟨hJ3⟩, ⟨HB.out.trans hk3.1⟩, ⟨hk3.2.trans HS.out⟩⟩
        case measure => simp [intOf]
      · gi_wp2
        refine bodyPost_ret (results_none rfl _ _ _) rfl ?_
        exact ⟨⟨_, rfl⟩, .inr ⟨_, trivial, hJx3⟩⟩
    · obtain rfl : k = 0 := by have := HK.out; omega
      gi_wp2
      go_end0
      refine ⟨⟨_, rfl⟩, .inl ?_⟩
      have e := HX.out
      rw [show back (rd_T46 xs) 0 = [] from rfl, List.append_nil] at e
      rw [e]; exact HJ.out
theorem backF_stops (n Bs : Nat) (w0 w : World) (A : Option Addr) (c : Nat) (xs : List S46) (hR0 : Kd.C k46 w0 A xs.length xs) (hc : xs.length ≤ c) (hlen : xs.length ≤ 1000000) (hb : w.heap[Bs]? = some (.cells #[.slice A xs.length c] 27 (0, 0))) (hB0 : Below w0.heap.size w0 w) :
    SeqStopsK Fence.wide n Try.prog 36 #[.pointer (some ⟨Bs, 0, none⟩)] (fun x : Int × S46 => #[.int .i64 x.1, .agg #[.int .i64 x.2.f0, .int .i64 x.2.f1]]) (KeepsBox w0.heap.size Bs) (fun ys => ys = back (rd_T46 xs) xs.length) (fun _ => True) xs.length w := fun l J Jx W hW _ _ hY h0 =>
  backF_in n l Bs w0 A c xs hR0 hc hlen J Jx hY W (blk_below hb hW) (below_step hB0 hW) h0

theorem backI_calls (A : Option Addr) (n c : Nat) (w : World) : Calls Try.prog 30 #[.slice A n c] w fun e w' => e = .returned (.func (.func 37) #[] #[.pointer (some ⟨w.heap.size, 0, none⟩)]) ∧ w' = w.alloc (.cells #[.slice A n c] 22) := by
  go_enter Try.func30, Try.ntmps30
  go_wp2
  go_ret
  exact ⟨rfl, rfl⟩
set_option maxHeartbeats 4000000 in
set_option maxRecDepth 100000 in
theorem backI_in (m l Bs : Nat) (w0 : World) (A : Option Addr) (c : Nat) (xs : List Int) (hR0 : Kd.C (Kd.int .i64) w0 A xs.length xs) (hc : xs.length ≤ c) (hlen : xs.length ≤ 1000000) (J Jx : List (Int × Int) → World → Prop)
    (hY : ∀ pre x W1, J pre W1 → pre.length < xs.length → YieldAt Fence.wide (m - 1) Try.prog l #[.int .i64 x.1, .int .i64 x.2] W1 fun e W' => (e = .returned (.bool true) ∧ J (pre ++ [x]) W' ∧ KeepsBox w0.heap.size Bs W1 W') ∨ (e = .returned (.bool false) ∧ Jx (pre ++ [x]) W'))
    (W : World) (hb : W.heap[Bs]? = some (.cells #[.slice A xs.length c] 22 (0, 0))) (hB0 : Below w0.heap.size w0 W) (h0 : J [] W) :
    CallsIn Fence.wide m Try.prog 37 #[.func (.yield l) #[] #[], .pointer (some ⟨Bs, 0, none⟩)] W fun e W' => (∃ v, e = .returned v) ∧ ((∃ ys, ys = back (rd xs) xs.length ∧ J ys W') ∨ (∃ pre, True ∧ Jx pre W')) := by
  have HR0 := Aside0.mk hR0
  clear hR0
  have hcs : W.cell? ⟨Bs, 0, none⟩ = some (.slice A xs.length c) := (blk_cell hb 0).trans rfl
  refine callsIn_of_wp Try.func37 rfl trivial ?_ rfl
  simp only [Try.ntmps37, List.size_toArray, List.length_cons, List.length_nil, Nat.reduceAdd, Nat.reduceSub, Array.replicate_succ, Array.replicate_zero, List.push_toArray, List.append_toArray, List.nil_append, List.cons_append]
  have HH := Aside0.mk hb
  have HB0 := Aside0.mk hB0
  clear hb hB0
  gi_wp2
  clear hcs
  gi_loopw [3] (fun s3 wr => ∃ (pre : List (Int × Int)) (i : Int) (k : Nat), s3 = .int .i64 i ∧ -1 ≤ i ∧ i < (xs.length : Int) ∧ Aside0 (i + 1 = (k : Int)) ∧ Aside0 (back (rd xs) xs.length = pre ++ back (rd xs) k) ∧ Aside0 (pre.length + k = xs.length) ∧ Aside0 (J pre wr) ∧ Aside0 (Below w0.heap.size w0 wr) ∧ Aside0 (wr.heap[Bs]? = some (.cells #[.slice A xs.length c] 22 (0, 0))))
    (fun s3 _ => (intOf s3 + 1).toNat)
  case atStart => exact ⟨[], _, xs.length, rfl, by omega, by omega, ⟨by omega⟩, ⟨rfl⟩, ⟨by simp⟩, ⟨h0⟩, HB0, HH⟩
  case round =>
    obtain ⟨pre, i, k, rfl, hi0, hi1, HK, HX, HL, HJ, HB, HS⟩ := hrel
    have hcs : wr.cell? ⟨Bs, 0, none⟩ = some (.slice A xs.length c) := (blk_cell HS.out 0).trans rfl
    by_cases hz : 0 ≤ i
    · obtain ⟨k, rfl⟩ : ∃ q, k = q + 1 := ⟨k - 1, by have := HK.out; omega⟩
      obtain rfl : i = (k : Int) := by have := HK.out; omega
      obtain ⟨fn, tmps, assign, body, hy, hR⟩ := hY pre ((k : Int), rd xs (k : Int)) wr HJ.out (by have := HL.out; omega)
      dsimp only at hy
      obtain ⟨ad, rfl, hx0⟩ := at_int (Kd.C_below HR0.out HB.out) (k : Int) hz hi1
      rw [Int.toNat_natCast] at hx0
      gi_wp2
      refine ⟨nofun, hR.mono ?_⟩
      rintro e W3 (⟨rfl, hJ3, hk3⟩ | ⟨rfl, hJx3⟩)
      · gi_wp2
        go_roundw
        case rel => exact ⟨pre ++ [((k : Int), rd xs (k : Int))], _, k, rfl, by omega, by omega, ⟨by omega⟩, ⟨by rw [HX.out, List.append_assoc]; rfl⟩, ⟨by have := HL.out; simp; omega⟩, ⟨hJ3⟩, ⟨HB.out.trans hk3.1⟩, ⟨hk3.2.trans HS.out⟩⟩
        case measure => simp [intOf]
      · gi_wp2
        refine bodyPost_ret (results_none rfl _ _ _) rfl ?_
        exact ⟨⟨_, rfl⟩, .inr ⟨_, trivial, hJx3⟩⟩
    · obtain rfl : k = 0 := by have := HK.out; omega
      gi_wp2
      go_end0
      refine ⟨⟨_, rfl⟩, .inl ?_⟩
      have e := HX.out
      rw [show back (rd xs) 0 = [] from rfl, List.append_nil] at e
      rw [e]; exact HJ.out
theorem backI_stops (n Bs : Nat) (w0 w : World) (A : Option Addr) (c : Nat) (xs : List Int) (hR0 : Kd.C (Kd.int .i64) w0 A xs.length xs) (hc : xs.length ≤ c) (hlen : xs.length ≤ 1000000) (hb : w.heap[Bs]? = some (.cells #[.slice A xs.length c] 22 (0, 0))) (hB0 : Below w0.heap.size w0 w) :
    SeqStopsK Fence.wide n Try.prog 37 #[.pointer (some ⟨Bs, 0, none⟩)] (fun x : Int × Int => #[.int .i64 x.1, .int .i64 x.2]) (KeepsBox w0.heap.size Bs) (fun ys => ys = back (rd xs) xs.length) (fun _ => True) xs.length w := fun l J Jx W hW _ _ hY h0 =>
  backI_in n l Bs w0 A c xs hR0 hc hlen J Jx hY W (blk_below hb hW) (below_step hB0 hW) h0
end Go.Proofs.Ytdhkplfkbdldfaa.P
