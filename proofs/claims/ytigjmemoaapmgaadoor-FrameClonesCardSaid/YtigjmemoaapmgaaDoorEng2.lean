/- The engine, continued: joins of two ways, tests of pointers, texts, arrays; tuples; shapes of contracts. -/
import Derived.Test.YtigjmemoaapmgaaDoorEng
set_option linter.unusedVariables false
namespace Go.V
open Go.Instr

/-! ### Two ways that meet again -/
theorem TE.join {P : Program} {Q : Exit → Act → World → Prop} {n : Nat} {ds : List Deferred} {k : List Item} {ρ : Env} {w : World} {c : Operand} {x y : Code} {p : Prop} {_ : Decidable p} {σ : Type} (ks : List Nat) (J : σ → World → Prop) (env : σ → Env)
    (hc : ev ρ c = some (.bool (decide p))) (h1 : p → (∀ s w', J s w' → TE P Q n ds k (env s) w') → TE P Q n ds (.code x :: k) ρ w)
    (h2 : ¬ p → (∀ s w', J s w' → TE P Q n ds k (env s) w') → TE P Q n ds (.code y :: k) ρ w) (h3 : ∀ s w', J s w' → TE P Q n ds k (env s) w') : TE P Q n ds (.code (.cond c x y) :: k) ρ w :=
  TE.ite hc (fun h => h1 h h3) (fun h => h2 h h3)

section
variable {P : Program} {ρ : Env} {dst : Option Tmp} {ty : TypeId} {pos : String} {af : Array Edge} {gd : Option (Nat × Bool)}

/-! ### Pointers -/
theorem run_equalIn_nil {t e : TypeId} (ht : P.underlying t = some (.pointer e)) (p : Option Addr) (d : Nat) (w : World) : (Op.equalIn (d + 1) t (.pointer p) (.pointer none)).run P w = .ok p.isNone w := by
  cases p <;> simp [Op.equalIn, run_underlying ht]
theorem Pure.eqlNil {x y : Operand} {p : Option Addr} {t t' e : TypeId} (ht : P.underlying t = some (.pointer e)) (hx : ev ρ x = some (.pointer p)) (hy : ev ρ y = some (.pointer none)) :
    Pure P ρ ⟨dst, .binOp .eql t x y t', ty, pos, af, gd⟩ (.bool p.isNone) := fun w a hf => by
  have h1 : (eqGuard .eql t x y (.pointer p) (.pointer none)).run P w = .ok () w := by simp [eqGuard]
  have h2 : (binOp .eql t (.pointer p) (.pointer none)).run P w = .ok (.bool p.isNone) w := by
    show (do pure (Value.bool (← Op.equal t (.pointer p) (.pointer none))) : Sem Value).run P w = _
    rw [Sem.run_bind, show Op.equal t (.pointer p) (.pointer none) = Op.equalIn (9999 + 1) t (.pointer p) (.pointer none) from rfl, run_equalIn_nil ht]
    simp
  simp only [execOp, hf.eval hx, hf.eval hy]
  simp [h1, h2]
theorem Pure.neqNil {x y : Operand} {p : Option Addr} {t t' e : TypeId} (ht : P.underlying t = some (.pointer e)) (hx : ev ρ x = some (.pointer p)) (hy : ev ρ y = some (.pointer none)) :
    Pure P ρ ⟨dst, .binOp .neq t x y t', ty, pos, af, gd⟩ (.bool (!p.isNone)) := fun w a hf => by
  have h1 : (eqGuard .neq t x y (.pointer p) (.pointer none)).run P w = .ok () w := by simp [eqGuard]
  have h2 : (binOp .neq t (.pointer p) (.pointer none)).run P w = .ok (.bool (!p.isNone)) w := by
    show (do pure (Value.bool (!(← Op.equal t (.pointer p) (.pointer none)))) : Sem Value).run P w = _
    rw [Sem.run_bind, show Op.equal t (.pointer p) (.pointer none) = Op.equalIn (9999 + 1) t (.pointer p) (.pointer none) from rfl, run_equalIn_nil ht]
    simp
  simp only [execOp, hf.eval hx, hf.eval hy]
  simp [h1, h2]

/-! ### Texts in order -/
theorem Pure.strLss {x y : Operand} {l m : List UInt8} {t t' : TypeId} (hx : ev ρ x = some (.string (str l))) (hy : ev ρ y = some (.string (str m))) :
    Pure P ρ ⟨dst, .binOp .lss t x y t', ty, pos, af, gd⟩ (.bool (decide (Op.bytesLess l m = true))) := fun w a hf => by
  simp [execOp, hf.eval hx, hf.eval hy, eqGuard, binOp, Op.stringOp, str_toList]
theorem Pure.strGtr {x y : Operand} {l m : List UInt8} {t t' : TypeId} (hx : ev ρ x = some (.string (str l))) (hy : ev ρ y = some (.string (str m))) :
    Pure P ρ ⟨dst, .binOp .gtr t x y t', ty, pos, af, gd⟩ (.bool (decide (Op.bytesLess l m = false ∧ l ≠ m))) := fun w a hf => by
  simp [execOp, hf.eval hx, hf.eval hy, eqGuard, binOp, Op.stringOp, str_toList]
  by_cases h : l = m <;> simp [h]

/-! ### Tuples -/
theorem Pure.extract {x : Operand} {vs : List Value} {i : Nat} {v : Value} (hx : ev ρ x = some (.tuple vs.toArray)) (hi : vs[i]? = some v) :
    Pure P ρ ⟨dst, .extract x i, ty, pos, af, gd⟩ v := fun w a hf => by
  simp [execOp, hf.eval hx, Instr.extract, hi]

/-! ### Arrays of numbers, compared -/
theorem run_isAgg_int {e : TypeId} {k : IntKind} (he : P.underlying e = some (.int k)) (w : World) : (isAgg e).run P w = .ok false w := by
  simp [isAgg, run_underlying he]
theorem eqItems_int {e : TypeId} {k : IntKind} (he : P.underlying e = some (.int k)) (d : Nat) (xs ys : List Int) (w : World) : ∀ is : List Nat, (∀ i ∈ is, i < xs.length ∧ i < ys.length) →
    (Op.eqItems (d + 1) e 1 (iv k xs).toArray (iv k ys).toArray is).run P w = .ok (is.all fun i => xs.getD i 0 == ys.getD i 0) w
  | [], _ => by simp [Op.eqItems]
  | i :: is, h => by
    have h1 := h i (by simp)
    have ih := eqItems_int he d xs ys w is (fun j hj => h j (by simp [hj]))
    have e1 : (iv k xs)[i]? = some (.int k (xs.getD i 0)) := iv_get h1.1
    have e2 : (iv k ys)[i]? = some (.int k (ys.getD i 0)) := iv_get h1.2
    have p1 : (part e (iv k xs).toArray (i * 1)).run P w = .ok (.int k (xs.getD i 0)) w := by
      simp [part, run_isAgg_int he, e1]
    have p2 : (part e (iv k ys).toArray (i * 1)).run P w = .ok (.int k (ys.getD i 0)) w := by
      simp [part, run_isAgg_int he, e2]
    simp only [Op.eqItems, Sem.run_bind, p1, p2, Result.andThen_ok, run_equalIn_int w d e k k _ _ he]
    cases hb : (xs.getD i 0 == ys.getD i 0)
    · simp only [List.all_cons, hb, Bool.not_false, if_true, Bool.false_and, Sem.run_pure]
    · simp only [List.all_cons, hb, Bool.not_true, Bool.false_eq_true, if_false, Bool.true_and]
      exact ih
theorem all_getD {xs ys : List Int} {n : Nat} (hx : xs.length = n) (hy : ys.length = n) : ((List.range n).all fun i => xs.getD i 0 == ys.getD i 0) = decide (xs = ys) := by
  by_cases h : xs = ys
  · simp [h]
  · rw [decide_eq_false h]
    apply Bool.eq_false_iff.2
    intro hall
    apply h
    apply List.ext_getElem (by omega)
    intro i h1 h2
    have := List.all_eq_true.1 hall i (by simp; omega)
    simpa [h1, h2] using this
theorem run_eqArr {t e : TypeId} {k : IntKind} {n : Nat} {i : TypeInfo} (ht : P.underlying t = some (.array n e)) (he : P.underlying e = some (.int k)) (hi : P.info? e = some i) (hc : P.cellsOf e = 1) {xs ys : List Int} (hx : xs.length = n) (hy : ys.length = n) (d : Nat) (w : World) :
    (Op.equalIn (d + 2) t (.agg (iv k xs).toArray) (.agg (iv k ys).toArray)).run P w = .ok (decide (xs = ys)) w := by
  rw [run_equalIn_array w (d + 1) _ _ ht hi, hc, eqItems_int he d xs ys w _ (fun j hj => by simp at hj; omega), all_getD hx hy]
theorem Pure.eqlArr {x y : Operand} {t t' e : TypeId} {k : IntKind} {n : Nat} {i : TypeInfo} {xs ys : List Int} (ht : P.underlying t = some (.array n e)) (he : P.underlying e = some (.int k)) (hi : P.info? e = some i) (hc : P.cellsOf e = 1) (hm : P.eqGuardType P.depth t = false)
    (hx : ev ρ x = some (.agg (iv k xs).toArray)) (hy : ev ρ y = some (.agg (iv k ys).toArray)) (h1 : xs.length = n) (h2 : ys.length = n) :
    Pure P ρ ⟨dst, .binOp .eql t x y t', ty, pos, af, gd⟩ (.bool (decide (xs = ys))) := fun w a hf => by
  simp [execOp, hf.eval hx, hf.eval hy, run_eqGuard_agg w _ t x y _ _ hm, run_eql_struct, run_eqArr ht he hi hc h1 h2 9998]
theorem Pure.neqArr {x y : Operand} {t t' e : TypeId} {k : IntKind} {n : Nat} {i : TypeInfo} {xs ys : List Int} (ht : P.underlying t = some (.array n e)) (he : P.underlying e = some (.int k)) (hi : P.info? e = some i) (hc : P.cellsOf e = 1) (hm : P.eqGuardType P.depth t = false)
    (hx : ev ρ x = some (.agg (iv k xs).toArray)) (hy : ev ρ y = some (.agg (iv k ys).toArray)) (h1 : xs.length = n) (h2 : ys.length = n) :
    Pure P ρ ⟨dst, .binOp .neq t x y t', ty, pos, af, gd⟩ (.bool (decide (xs ≠ ys))) := fun w a hf => by
  simp [execOp, hf.eval hx, hf.eval hy, run_eqGuard_agg w _ t x y _ _ hm, run_neq_struct, run_eqArr ht he hi hc h1 h2 9998]
end

/-! ### More steps of a plan; a guarded call -/
section
variable {P : Program} {Q R : Exit → Act → World → Prop} {n : Nat} {ds : List Deferred} {k : List Item} {ρ : Env} {w w' : World} {ops : Array Oper} {S : World → Prop} {π : Plan} {l : List Oper}
variable {i d : Nat} {op : Op} {ty : TypeId} {pos : String} {af : Array Edge} {v : Value}
theorem PL.buildSlice {t e : TypeId} {m size : Nat} {z : Value} {parts : List (Nat × Operand)} {vs : List (Nat × Value)} {cs : List Value} (ho : ops[i]? = some ⟨some d, .buildSlice t m parts.toArray, ty, pos, af, none⟩) (hp : evp ρ parts = some vs)
    (ht : ∀ w, (underlying t).run P w = .ok (.slice e) w) (hz : ∀ w, (sizeOf e).run P w = .ok size w) (hzv : ∀ w, (zeroValue e).run P w = .ok z w) (hm : m * size ≤ 2 ^ 24) (hm0 : 0 < m * size)
    (hfill : Instr.fill (fun i => some (i * size, size)) ((Array.range (m * size)).map (z.cells[· % z.cells.size]!)) vs = some cs.toArray) (hd : Nat.blt d n = true) (hS : ∀ w', S w')
    (h : ∀ g w', Blk w' g e cs → Chg [] w w' → w.heap.size = g → PL P n ds ops R S π ((d, .slice (some ⟨g, 0, none⟩) m m) :: ρ) w') (hi1000 : i < 1000 := by decide) : PL P n ds ops R S (.cons (i, false) π) ρ w :=
  PL.val ho (Run.buildSlice hp ht hz hzv hm hm0 hfill) hd (hS _) (h _ _ (blk_alloc _ _ _) (chg_alloc _ _) rfl) hi1000
theorem PL.append {s x : Operand} {t tx e : TypeId} {j : TypeInfo} {z : Value} {size m q : Nat} {v u : Value} {xs news : List Value} (ho : ops[i]? = some ⟨some d, .call { callee := .builtin .append, args := #[s, x], argTypes := #[t, tx] }, ty, pos, af, none⟩) (hs : ev ρ s = some v) (hx : ev ρ x = some u)
    (ht : P.underlying t = some (.slice e)) (htx : P.underlying tx = some (.slice e) ∨ P.underlying tx = some .string) (hi : P.info? e = some j) (hz : j.zero = some z) (hsize : j.size = size) (hzs : z.cells.size = size) (hb0 : 0 < j.bytes)
    (hd : Nat.blt d n = true) (hrow : Row w e size v q xs) (hsrc : Src P size u m news w) (h1 : ∀ u ∈ news, u.oneCell' = true) (hb : (q + m) * j.bytes ≤ 140737488355328) (hS : ∀ w', S w')
    (h : ∀ v' w', Row w' e size v' (q + m) (xs ++ news) → Chg (own v) w w' → (∀ k, k ∈ own v' → k ∈ own v ∨ w.heap.size ≤ k) → PL P n ds ops R S π ((d, v') :: ρ) w') (hi1000 : i < 1000 := by decide) :
    PL P n ds ops R S (.cons (i, false) π) ρ w := by
  obtain ⟨v', w', hr, h2, h3, h4⟩ := Run.append (ty := ty) (pos := pos) (af := af) (dst := some d) (gd := none) hs hx ht htx hi hz hsize hzs hb0 hrow hsrc h1 hb
  exact PL.val ho hr hd (hS _) (h v' w' h2 h3 h4) hi1000
theorem PL.store {x y : Operand} {g o j : Nat} {t e : TypeId} {cs : List Value} {u : Value} (ho : ops[i]? = some ⟨none, .store t x y, ty, pos, af, none⟩) (hx : ev ρ x = some (.pointer (some ⟨g, o, none⟩))) (hy : ev ρ y = some v) (hz : ∀ w, (sizeOf t).run P w = .ok 1 w) (h1 : v.oneCell' = true)
    (hb : Blk w g e cs) (hi : o = j) (hc : cs[j]? = some u) (hS : ∀ w', S w') (h : ∀ w', Blk w' g e (cs.set j v) → Chg [g] w w' → PL P n ds ops R S π ρ w') (hi1000 : i < 1000 := by decide) : PL P n ds ops R S (.cons (i, false) π) ρ w :=
  PL.eff ho (RunS.store hx hy hz h1 hb hi hc) (hS _) (h _ (blk_setRow hb (by simp)) (chg_setRow _ _ _)) hi1000
theorem wpOp_wanted {K : Act → World → Prop} {a : Act} {g : Nat} {b : Bool} {dj : Nat} (ho : ops[i]? = some ⟨some d, op, ty, pos, af, some (g, b)⟩) (hg : (ops[g]?).bind (·.dst) = some dj) (hj : Nat.blt dj n = true) (hl : look ρ dj = some (.bool b)) (ha : Sat n ds a ρ)
    (h : Oper.wp P ⟨some d, op, ty, pos, af, some (g, b)⟩ a w K Q) : wpOp P ops Q i K a w := by
  unfold wpOp
  simp only [ho]
  rw [wanted_of (g := (g, b)) hg (ha.at_ hj hl)]
  simp only [gb, beq_self_eq_true, if_true]
  exact .inl h
theorem PL.valG {g : Nat} {b : Bool} {dj : Nat} (ho : ops[i]? = some ⟨some d, op, ty, pos, af, some (g, b)⟩) (hg : (ops[g]?).bind (·.dst) = some dj) (hj : Nat.blt dj n = true) (hl : look ρ dj = some (.bool b))
    (hr : Run P ρ ⟨some d, op, ty, pos, af, some (g, b)⟩ w v w') (hd : Nat.blt d n = true) (hS : S w') (h : PL P n ds ops Q S π ((d, v) :: ρ) w') (hi1000 : i < 1000 := by decide) : PL P n ds ops Q S (.cons (i, false) π) ρ w := fun a ha => by
  simp only [wpPlan, hi1000, if_true]
  refine wpOp_wanted ho hg hj hl ha ?_
  unfold Oper.wp
  rw [hr a ha.fits]
  exact ⟨hS, h _ (ha.put v hd)⟩
theorem PL.callG {f g : Nat} {b : Bool} {dj : Nat} {xs : List Operand} {ats : Array TypeId} {vs : List Value} {C : Ending → World → Prop} (ho : ops[i]? = some ⟨some d, .call { callee := .value (.func f), args := xs.toArray, argTypes := ats }, ty, pos, af, some (g, b)⟩)
    (hg : (ops[g]?).bind (·.dst) = some dj) (hj : Nat.blt dj n = true) (hl : look ρ dj = some (.bool b)) (hargs : evs ρ xs = some vs)
    (hf : ∀ args w, (callFunc f args).run P w = .ok (.enter f args) w) (hd : Nat.blt d n = true) (hc : Calls P f vs.toArray w C)
    (h : ∀ e w', C e w' → ∃ v, e = .returned v ∧ S w' ∧ PL P n ds ops Q S π ((d, v) :: ρ) w') (hi1000 : i < 1000 := by decide) : PL P n ds ops Q S (.cons (i, false) π) ρ w := fun a ha => by
  simp only [wpPlan, hi1000, if_true]
  refine wpOp_wanted ho hg hj hl ha ?_
  unfold Oper.wp
  have e1 : (xs.toArray.map a.eval) = vs.toArray := by rw [List.map_toArray, ha.fits.evals hargs]
  rw [execOp_call_go, e1]
  simp only [Array.empty_append, Array.append_empty, hf, Oper.upon_enter]
  refine hc.mono fun e w' he => ?_
  obtain ⟨v, rfl, hs, hv⟩ := h e w' he
  exact ⟨hs, hv _ (ha.put v hd)⟩
theorem OL.callG {f g : Nat} {b : Bool} {dj : Nat} {xs : List Operand} {ats : Array TypeId} {vs : List Value} {C : Ending → World → Prop} (hg : (ops[g]?).bind (·.dst) = some dj) (hj : Nat.blt dj n = true) (hl : look ρ dj = some (.bool b)) (hargs : evs ρ xs = some vs)
    (hf : ∀ args w, (callFunc f args).run P w = .ok (.enter f args) w) (hd : Nat.blt d n = true) (hc : Calls P f vs.toArray w C)
    (h : ∀ e w', C e w' → ∃ v, e = .returned v ∧ OL P n ds ops R l ((d, v) :: ρ) w') :
    OL P n ds ops R (⟨some d, .call { callee := .value (.func f), args := xs.toArray, argTypes := ats }, ty, pos, af, some (g, b)⟩ :: l) ρ w := fun a ha => by
  refine wpList_step fun K hK => ?_
  rw [wanted_of (g := (g, b)) hg (ha.at_ hj hl)]
  simp only [gb, beq_self_eq_true, if_true]
  unfold Oper.wp
  have e1 : (xs.toArray.map a.eval) = vs.toArray := by rw [List.map_toArray, ha.fits.evals hargs]
  rw [execOp_call_go, e1]
  simp only [Array.empty_append, Array.append_empty, hf, Oper.upon_enter]
  refine hc.mono fun e w' he => ?_
  obtain ⟨v, rfl, hv⟩ := h e w' he
  exact hK _ _ (hv _ (ha.put v hd))
end

/-! ### Shapes of contracts -/
/-- It returns a fresh slice of bytes. -/
def RetB (t : TypeId) (l : List UInt8) (w : World) (e : Ending) (w' : World) : Prop := ∃ v, e = .returned v ∧ Row w' t 1 v l.length (bv l) ∧ Chg [] w w' ∧ Mine w.heap.size v
/-- It returns v and has changed the block g alone, which then holds cs. -/
def RetW (v : Value) (g : Nat) (t : TypeId) (cs : List Value) (w : World) (e : Ending) (w' : World) : Prop := e = .returned v ∧ Chg [g] w w' ∧ Blk w' g t cs
theorem sel_T {b : Bool} (h : b = true) : Value.bool b = .bool true := by rw [h]
theorem and15 (x : Int) (h0 : 0 ≤ x) (h1 : x ≤ 255) : Go.bits .and .u8 x 15 = x % 16 := by
  have key : ∀ m : Fin 256, Go.bits .and .u8 (m.val : Int) 15 = (m.val : Int) % 16 := by decide +kernel
  have := key ⟨x.toNat, by omega⟩
  simpa [Int.toNat_of_nonneg h0] using this
theorem bv_one (l : List UInt8) (b : UInt8) : bv l ++ bv [b] = bv (l ++ [b]) := by simp [bv]
theorem rep_snoc {α : Type} (j : Nat) (a : α) : List.replicate (j + 1) a = List.replicate j a ++ [a] := List.replicate_succ'
end Go.V
