/- The builtin copy of a list of numbers into a row of the call's own of the same length. -/
import Derived.Test.YtcpkbgfemohlmaaP0
import Derived.Laws.IdiomCopy
namespace Go.Proofs.Ytcpkbgfemohlmaa.P
open Go.RowKit Go.Proofs.YtcpkbgfemohlmaaW.PrintWords
set_option linter.unusedVariables false
theorem info3s : (Try.prog.info? 3).map (·.size) = some 1 := by kernel_rfl
theorem R_copy_run {P : Program} {W : World} {base : Nat} {ok : Nat → Prop} {t e ty : TypeId} (ht : P.underlying t = some (.slice e)) (hi : (P.info? e).map (·.size) = some 1) {A B : Option Addr} {n c m sc : Nat} {xs ys : List Int}
    (h : (Kd.int .i64).R e W base ok (.slice A n c) xs) (hs : (Kd.int .i64).C W B ys.length ys) (hm : m = ys.length) (hn : xs.length = ys.length) :
    ∃ w1, (Builtin.copy_ #[t, t] ty #[.slice A n c, .slice B m sc]).run P W = .ok (goInt ys.length) w1 ∧ (Kd.int .i64).R e w1 base ok (.slice A n c) ys ∧ W.grownBy w1 (Value.slice A n c).ownBlock := by
  subst hm
  obtain ⟨hxn, _, _⟩ := Kd.R_reads' h
  rcases Nat.eq_zero_or_pos ys.length with h0 | h0
  · have hy : ys = [] := List.eq_nil_of_length_eq_zero h0
    have hx : xs = [] := List.eq_nil_of_length_eq_zero (by omega)
    subst hy; subst hx
    exact ⟨W, run_copy_none W t t ty e A B n c 0 sc ht hi (by simp), h, ⟨rfl, rfl, rfl, Nat.le_refl _, fun _ _ _ => rfl⟩⟩
  · obtain ⟨ad, rfl, hrow⟩ := hs.2.2 h0
    obtain ⟨hok, inner, hown, hr⟩ := h
    rcases hown.2 with ⟨hv, hz⟩ | ⟨g, cap', cur, hv, hb, hh, hnc, hcm, hcs, htake⟩
    · omega
    injection hv with ha _ hc
    subst ha; subst hc
    have hcs : cur.size = c * 1 := hcs
    have hlen : (encs (Value.int .i64) ys).length = ys.length := encs_length ys
    have hcell : ∀ j v, (encs (Value.int .i64) ys)[j]? = some v → W.cell? (ad.add j) = some v := fun j v hj => by
      obtain ⟨x, hx, rfl⟩ : ∃ x, ys[j]? = some x ∧ Value.int .i64 x = v := by
        unfold encs at hj
        rw [List.getElem?_map] at hj
        exact Option.map_eq_some_iff.1 hj
      obtain ⟨cs, hcl, hcv, hcc⟩ := hrow j x hx
      have hcv : cs = [Value.int .i64 x] := hcv
      subst hcv
      have := hcc 0 _ rfl
      rwa [show j * (Kd.int .i64).sz + 0 = j by show j * 1 + 0 = j; omega] at this
    have hrun := run_copy_cells (P := P) W t t ty e g 0 n c ad ys.length sc (encs (Value.int .i64) ys) ht hi (by rw [hlen, hxn, hn]; simp) hcell (fun j hj => by rw [cell_of_row W g _ cur e (0, 0) hh]; simp; omega) (fun j _ => blk_frozen hh _) (fun u hu => by
      obtain ⟨x, _, rfl⟩ := List.mem_map.1 hu
      rfl)
    rw [hlen] at hrun
    have hfit : 0 + (encs (Value.int .i64) ys).length ≤ cur.size := by rw [hlen, hcs]; omega
    obtain ⟨cur', h3, h4, h5⟩ := setCells_row (encs (Value.int .i64) ys) 0 W cur hh hfit
    obtain ⟨s1, s2, s3, s4⟩ := setCells_same g (encs (Value.int .i64) ys) 0 W
    have hfar : ∀ k', k' ≠ g → (W.setCells g 0 (encs (Value.int .i64) ys)).heap[k']? = W.heap[k']? := fun k' hk' => setCells_far _ _ k' hk'
    refine ⟨_, hrun, Kd.R_of_own ⟨by rw [hlen, Nat.mul_one], .inr ⟨g, c, cur', by rw [hxn, hn], hb, h3, by omega, hcm, by rw [h4, hcs], ?_⟩⟩ hok, ⟨s1, s2, s3, by rw [s4]; exact Nat.le_refl _, fun k' _ hk' => hfar k' (fun he => hk' (by rw [he]; rfl))⟩⟩
    rw [h5, List.take_zero, List.nil_append, Nat.mul_one, ← hlen]
    exact List.take_left' rfl
theorem R_copy {P : Program} {ops : Array Oper} {rest : List Oper} {o : Oper} {a : Act} {Q : Exit → Act → World → Prop} {W : World} {base : Nat} {ok : Nat → Prop} (hgd : o.guard = none) (s x : Operand) (t e : TypeId)
    (ho : o.op = .call { callee := .builtin .copy, args := #[s, x], argTypes := #[t, t] }) (ht : P.underlying t = some (.slice e)) (hi : (P.info? e).map (·.size) = some 1) {A B : Option Addr} {n c m sc : Nat} {xs ys : List Int}
    (hs : a.eval s = .slice A n c) (hx : a.eval x = .slice B m sc) (h : (Kd.int .i64).R e W base ok (.slice A n c) xs) (hC : (Kd.int .i64).C W B ys.length ys) (hm : m = ys.length) (hn : xs.length = ys.length)
    (k : ∀ w1, (Kd.int .i64).R e w1 base ok (.slice A n c) ys → W.grownBy w1 (Value.slice A n c).ownBlock → wpList P ops Q rest (a.put o.dst (goInt ys.length)) w1) : wpList P ops Q (o :: rest) a W := by
  obtain ⟨w1, hr, h1, h2⟩ := R_copy_run (P := P) (ty := o.type) ht hi (sc := sc) h hC hm hn
  refine wpList_plain hgd fun K hK => ?_
  unfold Oper.wp execOp
  simp only [ho, resolve, invoke, builtin, Sem.run_bind, Sem.run_pure, Result.andThen_ok, List.map_toArray, List.map_cons, List.map_nil, hs, hx, hr]
  exact hK _ _ (k w1 h1 h2)
theorem copy_src {w : World} {A : Option Addr} {y l : List Int} (h : y = l) (hC : (Kd.int .i64).C w A l.length l) : (Kd.int .i64).C w A y.length y := by rw [h]; exact hC
theorem copy_len {y l : List Int} (h : y = l) : l.length = y.length := by rw [h]
end Go.Proofs.Ytcpkbgfemohlmaa.P
