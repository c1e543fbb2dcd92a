/- The two maps that graph.Valid makes: what they hold, said as a list of numbers and as a function of two numbers; look-up, store and range in these words. -/
import Derived.Test.YtilmpkoklkgjeaaGPlain
import Derived.Maps.RangeWalk
import Derived.DeepKeys4
namespace Go.Proofs.Ytilmpkoklkgjeaa.P
open Go.RowKit Go.Maps
set_option linter.unusedVariables false

theorem gm_some : ∃ m, Try.prog.types.size = m + 1 := by
  refine Nat.exists_eq_add_one_of_ne_zero fun h => ?_
  have h1 : (74 : Nat) < Try.prog.types.size := of_decide_eq_true (by kernel_rfl)
  rw [h] at h1
  exact absurd h1 (Nat.not_lt_zero _)
theorem gm_laidOut : laidOutB Try.prog = true := by kernel_rfl
theorem gm_rowE : (74 : TypeId) < Try.prog.types.size := of_decide_eq_true (by kernel_rfl)
theorem gm_wideE : (match Try.prog.underlying 74 with | some (.array _ _) | some (.struct _) => true | _ => false) = true := by rw [Try.underlying74]
theorem gm_lawE : Keyed Try.prog 74 := Keyed.of_law (deep_law_laid gm_laidOut (m := 3) (by omega) gm_rowE (by kernel_rfl) gm_wideE)
theorem gm_lawI : Keyed Try.prog 3 := int_keyed Try.underlying3
theorem gm_keyType : Try.prog.keyType 74 = true := by kernel_rfl
theorem gm_cellsE : Try.prog.cellsOf 74 = 2 := by kernel_rfl
theorem gm_cellsI : Try.prog.cellsOf 3 = 1 := by kernel_rfl
theorem gm_zeroB (w : World) : (zeroValue 4).run Try.prog w = .ok (.bool false) w := by kernel_rfl
theorem gm_zeroI (w : World) : (zeroValue 3).run Try.prog w = .ok (.int .i64 0) w := by kernel_rfl

/-- The value of a key of the second map. -/
def endV (a b : Int) : Value := .agg #[.int .i64 a, .int .i64 b]
def endL (a b : Int) : Lit := .string (keyBytes [.int .i64 a, .int .i64 b])
theorem endV_key {a b : Int} (ha : (Lit.int .i64 a).wf = true) (hb : (Lit.int .i64 b).wf = true) : keyOf Try.prog 74 (endV a b) = some (endL a b) := by
  obtain ⟨m, hm⟩ := gm_some
  have hf : (endV a b).formed Try.prog 74 = true := by simp [endV, Value.formed, Try.underlying74, gm_cellsE]
  unfold keyOf
  rw [Try.underlying74]
  simp only [gm_keyType, hf, Bool.and_self, if_true, hm]
  have hl : Try.prog.keyLits (m + 1 + 1) 74 (endV a b).cells.toList = some [.int .i64 a, .int .i64 b] := by
    simp [Program.keyLits, Try.underlying74, Try.underlying3, gm_cellsE, gm_cellsI, endV, Value.cells, ha, hb]
  rw [hl]
  rfl
theorem endV_inv {key : Value} {kl : Lit} (h : keyOf Try.prog 74 key = some kl) : ∃ x : Int × Int, key = endV x.1 x.2 ∧ (Lit.int .i64 x.1).wf = true ∧ (Lit.int .i64 x.2).wf = true := by
  unfold keyOf at h
  rw [Try.underlying74] at h
  simp only [gm_keyType, Bool.true_and] at h
  split at h
  · rename_i hf
    obtain ⟨m, hm⟩ := gm_some
    rw [hm] at h
    cases key <;> simp [Value.formed, Try.underlying74, gm_cellsE] at hf
    rename_i cs
    obtain ⟨c0, c1, rfl⟩ : ∃ c0 c1, cs = #[c0, c1] := by
      match cs, hf with
      | ⟨[c0, c1]⟩, _ => exact ⟨c0, c1, rfl⟩
    obtain ⟨ls, hl, _⟩ := Option.map_eq_some_iff.1 h
    cases c0 <;> cases c1 <;> simp [Program.keyLits, Try.underlying74, Try.underlying3, gm_cellsE, gm_cellsI, Value.cells] at hl
    rename_i k1 n1 k2 n2
    by_cases e1 : k1 = .i64 ∧ (Lit.int .i64 n1).wf = true
    · by_cases e2 : k2 = .i64 ∧ (Lit.int .i64 n2).wf = true
      · obtain ⟨rfl, h1⟩ := e1
        obtain ⟨rfl, h2⟩ := e2
        exact ⟨(n1, n2), rfl, h1, h2⟩
      · rw [if_neg e2] at hl
        split at hl <;> simp at hl
    · rw [if_neg e1] at hl
      simp at hl
  · cases h
theorem endL_ne {a b c d : Int} (ha : (Lit.int .i64 a).wf = true) (hb : (Lit.int .i64 b).wf = true) (hc : (Lit.int .i64 c).wf = true) (hd : (Lit.int .i64 d).wf = true) (hne : ¬ (a = c ∧ b = d)) : endL a b ≠ endL c d := by
  intro e
  have h1 := endV_key ha hb
  rw [e] at h1
  have := gm_lawE.inj h1 (endV_key hc hd)
  simp [endV] at this
  exact hne this

/-! ### the first map: which numbers have been seen -/
theorem plainElem_bool_inv {v : Value} {z : DataW Unit × List MemPlace} (h : plainElem Try.prog 4 v = some z) : ∃ c, v = .bool c ∧ z = (.lit (.bool c), []) := by
  unfold plainElem at h
  rw [Try.underlying4] at h
  cases v <;> simp at h
  exact ⟨_, rfl, h.symm⟩
def SeenIs (w : World) (b : Nat) (L : List Int) : Prop :=
  ∃ D : DataW Unit, w.ownsMap Try.prog 3 (plainElem Try.prog 4) b L.length D ∧ ∀ x, (Lit.int .i64 x).wf = true → D.atKey (.int .i64 x) (.lit (.bool false)) = .lit (.bool (decide (x ∈ L)))
theorem SeenIs.made (w : World) : SeenIs (w.alloc (.map #[] 0)) w.heap.size [] :=
  ⟨.map [], World.ownsMap_made _ _ _ _, fun x _ => by simp [DataW.atKey]⟩
theorem SeenIs.kept {w w1 : World} {b : Nat} {L : List Int} (h : SeenIs w b L) {row : Option Nat} (hg : w.grownBy w1 row) (hne : some b ≠ row) : SeenIs w1 b L := by
  obtain ⟨D, h1, h2⟩ := h
  exact ⟨D, h1.kept hg hne, h2⟩
theorem SeenIs.look {w : World} {b : Nat} {L : List Int} (h : SeenIs w b L) {x : Int} (hx : (Lit.int .i64 x).wf = true) :
    (Instr.lookup 71 (.map (some b)) (.int .i64 x) false).run Try.prog w = .ok (.bool (decide (x ∈ L))) w := by
  obtain ⟨D, h1, h2⟩ := h
  obtain ⟨v, ps, hrun, hv⟩ := h1.lookup gm_lawI Try.underlying71 (gm_zeroB w) (plainElem_bool Try.underlying4 false) (keyOf_int_mk Try.underlying3 hx)
  obtain ⟨c, rfl, hc⟩ := plainElem_bool_inv hv
  simp only [Prod.mk.injEq] at hc
  rw [h2 x hx] at hc
  have : decide (x ∈ L) = c := by simpa using hc.1
  rw [this]
  exact hrun
theorem SeenIs.add {w : World} {b : Nat} {L : List Int} (h : SeenIs w b L) {x : Int} (hx : (Lit.int .i64 x).wf = true) (hn : L.length < 1000) :
    ∃ w1, (Instr.mapUpdate 71 (.map (some b)) (.int .i64 x) (.bool true)).run Try.prog w = .ok () w1 ∧ SeenIs w1 b (L ++ [x]) ∧ w.grownBy w1 (some b) := by
  obtain ⟨D, h1, h2⟩ := h
  obtain ⟨w1, hrun, hown, hg⟩ := h1.update gm_lawI Try.underlying71 (by unfold maxLen; omega) (keyOf_int_mk Try.underlying3 hx) (plainElem_bool Try.underlying4 true)
  refine ⟨w1, hrun, ⟨_, by rw [List.length_append]; exact hown, fun y hy => ?_⟩, hg⟩
  by_cases e : y = x
  · subst e
    rw [atKey_put_same h1.isMap (gm_lawI.key (keyOf_int_mk Try.underlying3 hx))]
    simp
  · rw [atKey_put_other (by intro e1; injection e1 with _ e2; exact e e2), h2 y hy]
    simp [e]

/-! ### the second map: a function of two numbers -/
def FnIs (D : DataW Unit) (f : Int → Int → Int) : Prop :=
  ∀ a b, (Lit.int .i64 a).wf = true → (Lit.int .i64 b).wf = true → D.atKey (endL a b) (.lit (.int .i64 0)) = .lit (.int .i64 (f a b)) ∧ Maps.has D (endL a b) = decide (f a b ≠ 0)
def upd (f : Int → Int → Int) (a b v : Int) : Int → Int → Int := fun x y => if x = a ∧ y = b then v else f x y
def WtIs (w : World) (b n : Nat) (f : Int → Int → Int) : Prop :=
  ∃ D : DataW Unit, w.ownsMap Try.prog 74 (plainElem Try.prog 3) b n D ∧ FnIs D f
theorem WtIs.made (w : World) : WtIs (w.alloc (.map #[] 0)) w.heap.size 0 (fun _ _ => 0) :=
  ⟨.map [], World.ownsMap_made _ _ _ _, fun x y _ _ => ⟨by simp [DataW.atKey], by simp [Maps.has]⟩⟩
theorem WtIs.kept {w w1 : World} {b n : Nat} {f : Int → Int → Int} (h : WtIs w b n f) {row : Option Nat} (hg : w.grownBy w1 row) (hne : some b ≠ row) : WtIs w1 b n f := by
  obtain ⟨D, h1, h2⟩ := h
  exact ⟨D, h1.kept hg hne, h2⟩
theorem WtIs.mono {w : World} {b n m : Nat} {f : Int → Int → Int} (h : WtIs w b n f) (hm : n ≤ m) : WtIs w b m f := by
  obtain ⟨D, h1, h2⟩ := h
  exact ⟨D, h1.mono hm, h2⟩
theorem look_at {w : World} {b n : Nat} {D : DataW Unit} {f : Int → Int → Int} (h1 : w.ownsMap Try.prog 74 (plainElem Try.prog 3) b n D) (h2 : FnIs D f) {x y : Int} (hx : (Lit.int .i64 x).wf = true) (hy : (Lit.int .i64 y).wf = true) :
    (Instr.lookup 72 (.map (some b)) (endV x y) false).run Try.prog w = .ok (.int .i64 (f x y)) w := by
  obtain ⟨c, hrun, hat, _⟩ := h1.lookup_int gm_lawE Try.underlying72 Try.underlying3 (gm_zeroI w) (endV_key hx hy)
  rw [(h2 x y hx hy).1] at hat
  have : f x y = c := by simpa using hat
  rw [this]
  exact hrun
theorem WtIs.look {w : World} {b n : Nat} {f : Int → Int → Int} (h : WtIs w b n f) {x y : Int} (hx : (Lit.int .i64 x).wf = true) (hy : (Lit.int .i64 y).wf = true) :
    (Instr.lookup 72 (.map (some b)) (endV x y) false).run Try.prog w = .ok (.int .i64 (f x y)) w := by
  obtain ⟨D, h1, h2⟩ := h
  exact look_at h1 h2 hx hy
theorem WtIs.add {w : World} {b n : Nat} {f : Int → Int → Int} (h : WtIs w b n f) {x y v : Int} (hx : (Lit.int .i64 x).wf = true) (hy : (Lit.int .i64 y).wf = true) (hv : (Lit.int .i64 v).wf = true) (h0 : v ≠ 0) (hn : n < 100000) :
    ∃ w1, (Instr.mapUpdate 72 (.map (some b)) (endV x y) (.int .i64 v)).run Try.prog w = .ok () w1 ∧ WtIs w1 b (n + 1) (upd f x y v) ∧ w.grownBy w1 (some b) := by
  obtain ⟨D, h1, h2⟩ := h
  obtain ⟨w1, hrun, hown, hg⟩ := h1.update gm_lawE Try.underlying72 (by unfold maxLen; omega) (endV_key hx hy) (plainElem_int Try.underlying3 hv)
  refine ⟨w1, hrun, ⟨_, hown, fun a c ha hc => ?_⟩, hg⟩
  by_cases e : a = x ∧ c = y
  · obtain ⟨rfl, rfl⟩ := e
    rw [atKey_put_same h1.isMap (gm_lawE.key (endV_key hx hy)), has_put_same h1.isMap (gm_lawE.key (endV_key hx hy))]
    simp [upd, h0]
  · have hne := endL_ne ha hc hx hy e
    rw [atKey_put_other hne, has_put_other hne]
    have e1 : upd f x y v a c = f a c := if_neg e
    rw [e1]
    exact h2 a c ha hc
/-- 'for e, w := range weights' under way. -/
def RgIs (w : World) (b r n : Nat) (f : Int → Int → Int) (left : Lit → Bool) (cnt : Nat) : Prop :=
  ∃ D : DataW Unit, w.ranges Try.prog 74 (plainElem Try.prog 3) b r n D left cnt ∧ FnIs D f
theorem RgIs.kept {w w1 : World} {b r n : Nat} {f : Int → Int → Int} {left : Lit → Bool} {cnt : Nat} (h : RgIs w b r n f left cnt) {row : Option Nat} (hg : w.grownBy w1 row) (hb : some b ≠ row) (hr : some r ≠ row) : RgIs w1 b r n f left cnt := by
  obtain ⟨D, h1, h2⟩ := h
  exact ⟨D, h1.kept hg hb hr, h2⟩
theorem RgIs.look {w : World} {b r n : Nat} {f : Int → Int → Int} {left : Lit → Bool} {cnt : Nat} (h : RgIs w b r n f left cnt) {x y : Int} (hx : (Lit.int .i64 x).wf = true) (hy : (Lit.int .i64 y).wf = true) :
    (Instr.lookup 72 (.map (some b)) (endV x y) false).run Try.prog w = .ok (.int .i64 (f x y)) w := by
  obtain ⟨D, h1, h2⟩ := h
  exact look_at h1.owns h2 hx hy
theorem RgIs.left_eq {w : World} {b r n : Nat} {f : Int → Int → Int} {left : Lit → Bool} {cnt : Nat} (h : RgIs w b r n f left cnt) : w.rangeLeft b r = cnt := by
  obtain ⟨D, h1, _⟩ := h
  exact h1.left_eq
section
variable (w : World) {ops : Array Oper} {rest : List Oper} {o : Oper} {a : Act} {Q : Exit → Act → World → Prop}
theorem wpList_range_wt (hg : o.guard = none) (m : Operand) (hop : o.op = Op.range 72 m) (b n : Nat) (f : Int → Int → Int) (hm : a.eval m = .map (some b)) (h : WtIs w b n f)
    (hK : ∀ w1 left cnt, RgIs w1 b w.heap.size n f left cnt → (∀ x y, (Lit.int .i64 x).wf = true → (Lit.int .i64 y).wf = true → left (endL x y) = decide (f x y ≠ 0)) → w.grownBy w1 none → w1.heap.size = w.heap.size + 1 →
      wpList Try.prog ops Q rest (a.put o.dst (.pointer (some ⟨w.heap.size, 0, none⟩))) w1) : wpList Try.prog ops Q (o :: rest) a w := by
  obtain ⟨D, h1, h2⟩ := h
  exact wpList_range_own w hg m _ hop _ _ gm_lawE Try.underlying72 _ b n D hm h1 (fun w1 hr hgr hs => hK w1 _ _ ⟨D, hr, h2⟩ (fun x y hx hy => (h2 x y hx hy).2) hgr hs)
theorem wpList_next_wt (hg : o.guard = none) (it : Operand) (hop : o.op = Op.next it false) (b r n : Nat) (f : Int → Int → Int) (left : Lit → Bool) (cnt : Nat)
    (hit : a.eval it = .pointer (some ⟨r, 0, none⟩)) (h : RgIs w b r n f left cnt)
    (hDone : cnt = 0 → (∀ kl, left kl = false) → wpList Try.prog ops Q rest (a.put o.dst (.tuple #[.bool false])) w)
    (hMore : ∀ (x y c : Int) (w' : World) (cnt' : Nat), (Lit.int .i64 x).wf = true → (Lit.int .i64 y).wf = true → left (endL x y) = true → c = f x y → RgIs w' b r n f (fun z => left z && !z.sameKey (endL x y)) cnt' → cnt' < cnt →
      w.grownBy w' (some r) → w'.heap.size = w.heap.size → (Instr.entry (.pointer (some ⟨r, 0, none⟩))).run Try.prog w' = .ok (.tuple #[endV x y, .int .i64 c]) w' → wpList Try.prog ops Q rest (a.put o.dst (.tuple #[.bool true, endV x y, .int .i64 c])) w') :
    wpList Try.prog ops Q (o :: rest) a w := by
  obtain ⟨D, h1, h2⟩ := h
  refine wpList_next_ranges w hg it hop 74 gm_lawE (plainElem Try.prog 3) (fun x : Int × Int => endV x.1 x.2) (Value.int .i64) (fun key kl hk => by obtain ⟨x, hx, _⟩ := endV_inv hk; exact ⟨x, hx⟩)
    (fun v y hv => by obtain ⟨c, rfl, _⟩ := plainElem_int_inv Try.underlying3 hv; exact ⟨c, rfl⟩) b r n D left cnt hit h1 hDone ?_
  intro x c kl y w' cnt' hkey hlk hv hat hrg hlt hgr hsz hen
  obtain ⟨x', ex, hx1, hx2⟩ := endV_inv hkey
  have e1 : x.1 = x'.1 ∧ x.2 = x'.2 := by simpa [endV] using ex
  rw [← e1.1] at hx1
  rw [← e1.2] at hx2
  obtain rfl : endL x.1 x.2 = kl := Option.some.inj ((endV_key hx1 hx2).symm.trans hkey)
  obtain ⟨c', ec, rfl, hwc⟩ := plainElem_int_inv Try.underlying3 hv
  cases ec
  have hc : c = f x.1 x.2 := by
    have := hat (.lit (.int .i64 0))
    rw [(h2 x.1 x.2 hx1 hx2).1] at this
    simpa using this.symm
  exact hMore x.1 x.2 c w' cnt' hx1 hx2 hlk hc ⟨D, hrg, h2⟩ hlt hgr hsz hen
end
end Go.Proofs.Ytilmpkoklkgjeaa.P
