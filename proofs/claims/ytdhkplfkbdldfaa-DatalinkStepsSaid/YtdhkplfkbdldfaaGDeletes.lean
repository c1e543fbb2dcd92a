/- slices.Delete of one element of frames and of numbers: the row without that element, in the same block. -/
import Derived.Test.YtdhkplfkbdldfaaP0
import Derived.Shelf.RegionOpenPlain
import Derived.Lib.SliceRun
namespace Go.Proofs.Ytdhkplfkbdldfaa.P
open Go.RowKit Go.Proofs.YtdhkplfkbdldfaaW.PrintWords Go.Shelf Go.Lib
set_option linter.unusedVariables false
/-- Cells behind the row's last element are written. -/
theorem R_behind {α : Type} {d : Kd α} {e : Nat} {w : World} {base : Nat} {ok : Nat → Prop} {g m c o : Nat} {xs : List α} (vs : List Value) (h : d.R e w base ok (.slice (some ⟨g, 0, none⟩) m c) xs) (ho : m * d.sz ≤ o) (hoc : o + vs.length ≤ c * d.sz) :
    d.R e (w.setCells g o vs) base ok (.slice (some ⟨g, 0, none⟩) m c) xs ∧ w.grownBy (w.setCells g o vs) (some g) := by
  obtain ⟨hm, _, _⟩ := Kd.R_reads' h
  obtain ⟨hok, inner, hown, hr⟩ := h
  rcases hown.2 with ⟨hv, _⟩ | ⟨g', cap', cur, hv, hb, hh, hnc, hcm, hcs, htake⟩
  · cases hv
  injection hv with ha _ hc
  injection ha with ha
  injection ha with hg
  subst hg; subst hc
  have hfit : o + vs.length ≤ cur.size := by rw [hcs]; omega
  obtain ⟨cur', h3, h4, h5⟩ := setCells_row vs o w cur hh hfit
  obtain ⟨s1, s2, s3, s4⟩ := setCells_same g vs o w
  have hfar : ∀ k', k' ≠ g → (w.setCells g o vs).heap[k']? = w.heap[k']? := fun k' hk' => setCells_far vs _ k' hk'
  have hgo : some g = (Value.slice (some ⟨g, 0, none⟩) m c).ownBlock := by simp [Value.ownBlock]
  refine ⟨⟨hok, inner, ⟨hown.1, .inr ⟨g, c, cur', by rw [hm], hb, h3, hnc, hcm, by rw [h4, hcs], ?_⟩⟩, ?_⟩, ⟨s1, s2, s3, by rw [s4]; exact Nat.le_refl _, fun k' _ hk' => hfar k' (fun he => hk' (by rw [he]))⟩⟩
  · rw [h5, List.append_assoc, List.take_append_of_le_length (by rw [List.length_take, Array.length_toList]; show xs.length * d.sz ≤ min o cur.size; rw [hcs, ← hm]; omega), List.take_take, Nat.min_eq_left (by show xs.length * d.sz ≤ o; rw [← hm]; omega)]
    exact htake
  · exact hr.imp_ fun p q hp => d.M_move (fun k' hk' => hfar k' (fun he => hk'.2 (by rw [← hgo, he]))) hp
/-- 'clear' of one element. -/
theorem run_clear_one {P : Program} (w : World) (t e ty : TypeId) (z : Value) (ht : P.underlying t = some (.slice e)) (hv : ∀ w, (zeroValue e).run P w = .ok z w) (h1 : ∀ u ∈ z.cells.toList, u.oneCell' = true) (h0 : (Builtin.zeroCells z.cells 1) = z.cells) (b o c : Nat)
    (hc : ∀ j, j < z.cells.size → (w.cell? ⟨b, o + j, none⟩).isSome = true) (hf : ∀ j, j < z.cells.size → w.frozen? ⟨b, o + j, none⟩ = false) :
    (Builtin.clear_ #[t] ty #[.slice (some ⟨b, o, none⟩) 1 c]).run P w = .ok (.tuple #[]) (w.setCells b o z.cells.toList) := by
  have hst := run_storeCells_cells (P := P) b o z.cells.toList 0 w (by simpa using hc) (by simpa using hf) h1
  simp only [Nat.add_zero] at hst
  simp [Builtin.clear_, run_underlying ht, hv, h0, hst]
/-- An append whose run is known, in a region that draws its order. -/
theorem step_append_at {P : Program} {ops : Array Oper} {o : Oper} {a : Act} {w w1 : World} {K : Act → World → Prop} {Q : Exit → Act → World → Prop} {E : Prop}
    (hg : o.guard = none) (s x : Operand) (t : TypeId) (ho : o.op = Op.call { callee := Callee.builtin Builtin.append, args := #[s, x], argTypes := #[t, t] }) (v y r : Value) (hs : a.eval s = v) (hx : a.eval x = y)
    (hr : (Builtin.append_ #[t, t] o.type #[v, y]).run P w = .ok r w1) (hK : K (a.put o.dst r) w1) : if Region.wanted o (yielded ops a.tmps) = true then Oper.wp P o a w K Q else E := by
  have hw : Region.wanted o (yielded ops a.tmps) = true := by simp [Region.wanted, hg]
  rw [if_pos hw]
  unfold Oper.wp execOp
  simp only [ho, resolve, invoke, builtin, Sem.run_bind, Sem.run_pure, Result.andThen_ok, List.map_toArray, List.map_cons, List.map_nil, hs, hx, hr]
  exact hK
set_option maxHeartbeats 4000000 in
set_option maxRecDepth 1000000 in
theorem delete_frames {xs : List S46} {g n c i j : Nat} (hj : j = i + 1) {w : World} {base : Nat} {ok : Nat → Prop} (hS : Kd.R k46 46 w base ok (.slice (some ⟨g, 0, none⟩) n c) xs) (hi : i < n) (hbase : base ≤ w.heap.size) :
    Calls Try.prog 33 #[.slice (some ⟨g, 0, none⟩) n c, .int .i64 i, .int .i64 (j : Int)] w fun e w' => e = .returned (.slice (some ⟨g, 0, none⟩) (n - 1) c) ∧ Kd.R k46 46 w' base ok (.slice (some ⟨g, 0, none⟩) (n - 1) c) (xs.eraseIdx i) ∧ w.grownBy w' (some g) := by
  have hx := Kd.R_reads' hS
  have hn := hx.1
  have hnc := hx.2.1
  have hcm : c ≤ maxLen := by
    obtain ⟨inner, ho⟩ := Kd.R_own hS
    rcases ho.2 with ⟨hv, _⟩ | ⟨g', cap', cur, hv, hb, hh, _, hcm, _⟩
    · cases hv
    · injection hv with _ _ hc; subst hc; exact hcm
  have hm : c ≤ 9223372036854775807 := Nat.le_trans hcm (by decide)
  have HN := Aside0.mk hn
  clear hx hcm hn
  have HS := Aside0.mk hS
  clear hS
  have hcl : Aside0 (∀ w1 ty, Kd.R k46 46 w1 base ok (.slice (some ⟨g, 0, none⟩) (n - 1) c) (xs.eraseIdx i) → (Builtin.clear_ #[27] ty #[.slice (some ⟨g, (n - 1) * 2, none⟩) 1 (c - (n - 1))]).run Try.prog w1 = .ok (.tuple #[]) (w1.setCells g ((n - 1) * 2) [.int .i64 0, .int .i64 0])) := ⟨fun w1 ty h => by
    obtain ⟨inner, ho⟩ := Kd.R_own h
    rcases ho.2 with ⟨hv, _⟩ | ⟨g', cap', cur, hv, hb, hh, _, _, hcs, _⟩
    · cases hv
    injection hv with ha _ hc
    injection ha with ha
    injection ha with hg
    subst hg; subst hc
    have hcs : cur.size = c * 2 := hcs
    exact run_clear_one w1 27 46 ty (.agg #[.int .i64 0, .int .i64 0]) Try.underlying27 Try.zeroValue46 (by intro u hu; simp [Value.cells] at hu; simp [hu, Value.oneCell']) (by kernel_rfl) g ((n - 1) * 2) (c - (n - 1))
      (fun j hj => by have hj : j < 2 := hj; rw [cell_of_row w1 g _ cur 46 (0, 0) hh]; simp; omega) (fun j _ => blk_frozen hh _)⟩
  have hbs : base ≤ w.drew.heap.size := hbase
  have hij : i < j := by omega
  have hjn : j ≤ n := by omega
  have hic : i ≤ c := by omega
  have hjc : j ≤ c := by omega
  have HJ := Aside0.mk hj
  clear hj
  obtain ⟨A, hA⟩ : ∃ A : Addr, (if c = j then some (⟨g, 0, none⟩ : Addr) else some ⟨g, j * 2, none⟩) = some A := by
    by_cases h : c = j
    · exact ⟨_, if_pos h⟩
    · exact ⟨_, if_neg h⟩
  have HA : Aside0 (some A = if c = i + 1 then some (⟨g, 0, none⟩ : Addr) else (some (⟨g, 0, none⟩ : Addr)).map (·.add ((i + 1) * (k46).sz))) := ⟨by
    rw [← HJ.out, ← hA]
    by_cases h : c = j
    · rw [if_pos h, if_pos h]
    · rw [if_neg h, if_neg h]
      show some (⟨g, j * 2, none⟩ : Addr) = some ((⟨g, 0, none⟩ : Addr).add (j * 2))
      rw [Addr.add_lit, Nat.zero_add]⟩
  have mixed : Try.prog.follows Departure.mixedOrders = true := by kernel_rfl
  obtain ⟨i0, hi0, hs0⟩ := Option.map_eq_some_iff.1 info46
  replace hs0 : i0.size = 2 := by injection hs0 with _ hs0; injection hs0
  have HR := Kd.R_drew HS.out
  obtain ⟨w1, happ, h1, hg1⟩ := Kd.R_delete_run (P := Try.prog) (k46) (W := w.drew) base 27 27 46 i0 Try.underlying27 hi0 hs0 (k := i) HR hi HA.out (c - j)
  rw [← HJ.out] at happ
  have hS1 := h1
  have HAPP := Aside0.mk happ
  clear happ
  have hcl := fun ty => hcl.out w1 ty hS1
  have HS1 := Aside0.mk hS1
  have HG1 := Aside0.mk hg1
  have HN1 := Aside0.mk (Kd.R_reads' hS1).1
  have hn1 : n - 1 ≤ c := by omega
  have hn2 : n - (n - 1) = 1 := by omega
  have hn3 : ¬ c = n - 1 := by omega
  have hn4 : i + (n - j) = n - 1 := by have := HJ.out; omega
  clear HR h1 hS1 hg1 hs0 hi0
  go_enter Try.func33, Try.ntmps33
  go_wp2_with fail
  go_region_law_o (refine step_append_at rfl (.tmp 22) (.tmp 25) 27 rfl _ _ _ (by simp [Act.eval, Act.put]) (by simp [Act.eval, Act.put]) HAPP.out ?_)
  go_wp2
  go_ret
  obtain ⟨b1, b2⟩ := R_behind [.int .i64 0, .int .i64 0] HS1.out (o := (n - 1) * 2) (show (n - 1) * 2 ≤ (n - 1) * 2 by omega) (show (n - 1) * 2 + 2 ≤ c * 2 by omega)
  have hg0 : w.grownBy w1 (some g) := ⟨HG1.out.os, HG1.out.tape, HG1.out.output, HG1.out.size, HG1.out.block⟩
  exact ⟨rfl, b1, World.grownBy.trans hg0 b2⟩
set_option maxHeartbeats 4000000 in
set_option maxRecDepth 1000000 in
theorem delete_ints {xs : List Int} {g n c i j : Nat} (hj : j = i + 1) {w : World} {base : Nat} {ok : Nat → Prop} (hS : Kd.R (Kd.int .i64) 3 w base ok (.slice (some ⟨g, 0, none⟩) n c) xs) (hi : i < n) (hbase : base ≤ w.heap.size) :
    Calls Try.prog 34 #[.slice (some ⟨g, 0, none⟩) n c, .int .i64 i, .int .i64 (j : Int)] w fun e w' => e = .returned (.slice (some ⟨g, 0, none⟩) (n - 1) c) ∧ Kd.R (Kd.int .i64) 3 w' base ok (.slice (some ⟨g, 0, none⟩) (n - 1) c) (xs.eraseIdx i) ∧ w.grownBy w' (some g) := by
  have hx := Kd.R_reads' hS
  have hn := hx.1
  have hnc := hx.2.1
  have hcm : c ≤ maxLen := by
    obtain ⟨inner, ho⟩ := Kd.R_own hS
    rcases ho.2 with ⟨hv, _⟩ | ⟨g', cap', cur, hv, hb, hh, _, hcm, _⟩
    · cases hv
    · injection hv with _ _ hc; subst hc; exact hcm
  have hm : c ≤ 9223372036854775807 := Nat.le_trans hcm (by decide)
  have HN := Aside0.mk hn
  clear hx hcm hn
  have HS := Aside0.mk hS
  clear hS
  have hcl : Aside0 (∀ w1 ty, Kd.R (Kd.int .i64) 3 w1 base ok (.slice (some ⟨g, 0, none⟩) (n - 1) c) (xs.eraseIdx i) → (Builtin.clear_ #[22] ty #[.slice (some ⟨g, n - 1, none⟩) 1 (c - (n - 1))]).run Try.prog w1 = .ok (.tuple #[]) (w1.setCells g (n - 1) [.int .i64 0])) := ⟨fun w1 ty h => by
    obtain ⟨inner, ho⟩ := Kd.R_own h
    rcases ho.2 with ⟨hv, _⟩ | ⟨g', cap', cur, hv, hb, hh, _, _, hcs, _⟩
    · cases hv
    injection hv with ha _ hc
    injection ha with ha
    injection ha with hg
    subst hg; subst hc
    have hcs : cur.size = c * 1 := hcs
    exact run_clear_one w1 22 3 ty (.int .i64 0) Try.underlying22 Try.zeroValue3 (by intro u hu; simp [Value.cells] at hu; simp [hu, Value.oneCell']) (by kernel_rfl) g (n - 1) (c - (n - 1))
      (fun j hj => by have hj : j < 1 := hj; rw [cell_of_row w1 g _ cur 3 (0, 0) hh]; simp; omega) (fun j _ => blk_frozen hh _)⟩
  have hbs : base ≤ w.drew.heap.size := hbase
  have hij : i < j := by omega
  have hjn : j ≤ n := by omega
  have hic : i ≤ c := by omega
  have hjc : j ≤ c := by omega
  have HJ := Aside0.mk hj
  clear hj
  obtain ⟨A, hA⟩ : ∃ A : Addr, (if c = j then some (⟨g, 0, none⟩ : Addr) else some ⟨g, j, none⟩) = some A := by
    by_cases h : c = j
    · exact ⟨_, if_pos h⟩
    · exact ⟨_, if_neg h⟩
  have HA : Aside0 (some A = if c = i + 1 then some (⟨g, 0, none⟩ : Addr) else (some (⟨g, 0, none⟩ : Addr)).map (·.add ((i + 1) * ((Kd.int .i64)).sz))) := ⟨by
    rw [← HJ.out, ← hA]
    by_cases h : c = j
    · rw [if_pos h, if_pos h]
    · rw [if_neg h, if_neg h]
      show some (⟨g, j, none⟩ : Addr) = some ((⟨g, 0, none⟩ : Addr).add (j * 1))
      rw [Addr.add_lit, Nat.zero_add, Nat.mul_one]⟩
  have mixed : Try.prog.follows Departure.mixedOrders = true := by kernel_rfl
  obtain ⟨i0, hi0, hs0⟩ := Option.map_eq_some_iff.1 info3
  replace hs0 : i0.size = 1 := by injection hs0 with _ hs0; injection hs0
  have HR := Kd.R_drew HS.out
  obtain ⟨w1, happ, h1, hg1⟩ := Kd.R_delete_run (P := Try.prog) ((Kd.int .i64)) (W := w.drew) base 22 22 3 i0 Try.underlying22 hi0 hs0 (k := i) HR hi HA.out (c - j)
  rw [← HJ.out] at happ
  have hS1 := h1
  have HAPP := Aside0.mk happ
  clear happ
  have hcl := fun ty => hcl.out w1 ty hS1
  have HS1 := Aside0.mk hS1
  have HG1 := Aside0.mk hg1
  have HN1 := Aside0.mk (Kd.R_reads' hS1).1
  have hn1 : n - 1 ≤ c := by omega
  have hn2 : n - (n - 1) = 1 := by omega
  have hn3 : ¬ c = n - 1 := by omega
  have hn4 : i + (n - j) = n - 1 := by have := HJ.out; omega
  clear HR h1 hS1 hg1 hs0 hi0
  go_enter Try.func34, Try.ntmps34
  go_wp2_with fail
  go_region_law_o (refine step_append_at rfl (.tmp 22) (.tmp 25) 22 rfl _ _ _ (by simp [Act.eval, Act.put]) (by simp [Act.eval, Act.put]) HAPP.out ?_)
  go_wp2
  go_ret
  obtain ⟨b1, b2⟩ := R_behind [.int .i64 0] HS1.out (o := n - 1) (show (n - 1) * 1 ≤ n - 1 by omega) (show n - 1 + 1 ≤ c * 1 by omega)
  have hg0 : w.grownBy w1 (some g) := ⟨HG1.out.os, HG1.out.tape, HG1.out.output, HG1.out.size, HG1.out.block⟩
  exact ⟨rfl, b1, World.grownBy.trans hg0 b2⟩
end Go.Proofs.Ytdhkplfkbdldfaa.P
