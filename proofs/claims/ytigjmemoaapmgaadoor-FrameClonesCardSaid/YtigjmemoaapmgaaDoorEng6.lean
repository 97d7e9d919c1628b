/- The engine, continued: closures, slices of arrays. -/
import Derived.Test.YtigjmemoaapmgaaDoorEng5
set_option linter.unusedVariables false
namespace Go.V
open Go.Instr
section
variable {P : Program} {Q R : Exit → Act → World → Prop} {n : Nat} {ds : List Deferred} {k : List Item} {ρ : Env} {w w' : World} {ops : Array Oper} {S : World → Prop} {π : Plan} {l : List Oper}
variable {i d : Nat} {op : Op} {ty : TypeId} {pos : String} {af : Array Edge} {v : Value} {dst : Option Tmp} {gd : Option (Nat × Bool)}
theorem Pure.makeFunc {fn : Fn} {xs : List Operand} {vs : List Value} (hx : evs ρ xs = some vs) : Pure P ρ ⟨dst, .makeFunc fn #[] xs.toArray, ty, pos, af, gd⟩ (.func fn #[] vs.toArray) := fun w a hf => by
  have e1 : (xs.toArray.map a.eval) = vs.toArray := by rw [List.map_toArray, hf.evals hx]
  simp [execOp, Instr.makeFunc, e1]
/-- A call of a closure, by its contract. -/
theorem OL.callFn {f : Nat} {x : Operand} {first captured : Array Value} {xs : List Operand} {ats : Array TypeId} {vs : List Value} {C : Ending → World → Prop} (hx : ev ρ x = some (.func (.func f) first captured)) (hargs : evs ρ xs = some vs)
    (hf : ∀ args w, (callFunc f args).run P w = .ok (.enter f args) w) (hd : Nat.blt d n = true) (hc : Calls P f (first ++ vs.toArray ++ captured) w C)
    (h : ∀ e w', C e w' → ∃ v, e = .returned v ∧ OL P n ds ops R l ((d, v) :: ρ) w') :
    OL P n ds ops R (⟨some d, .call { callee := .value x, args := xs.toArray, argTypes := ats }, ty, pos, af, none⟩ :: l) ρ w := fun a ha => by
  refine wpList_plain rfl fun K hK => ?_
  unfold Oper.wp
  have e1 : (xs.toArray.map a.eval) = vs.toArray := by rw [List.map_toArray, ha.fits.evals hargs]
  have e2 : execOp a.eval ⟨some d, .call { callee := .value x, args := xs.toArray, argTypes := ats }, ty, pos, af, none⟩ = (do let d ← Deferred.ofValue (a.eval x) (xs.toArray.map a.eval); invoke d.target d.args) := rfl
  rw [e2, ha.fits.eval hx, e1]
  simp only [Deferred.ofValue, Sem.run_bind, Sem.run_pure, Result.andThen_ok, invoke, hf]
  simp only [Oper.upon_enter]
  refine hc.mono fun e w' he => ?_
  obtain ⟨v, rfl, hv⟩ := h e w' he
  exact hK _ _ (hv _ (ha.put v hd))
/-- The beginning of an array, as a slice. -/
theorem Pure.sliceArrTo {x z : Operand} {k' : IntKind} {j : Int} {g m q size : Nat} {t e : TypeId} (ha : ∀ w, (underlying t).run P w = .ok (.array m e) w) (hs : ∀ w, (sizeOf e).run P w = .ok size w)
    (hx : ev ρ x = some (.pointer (some ⟨g, 0, none⟩))) (hz : ev ρ z = some (.int k' j)) (hj : j = q) (h2 : q ≤ m) :
    Pure P ρ ⟨dst, .slice t x none (some z) none, ty, pos, af, gd⟩ (.slice (some ⟨g, 0, none⟩) q m) := fun w a hf => by
  subst hj
  have e0 : (Addr.add ⟨g, 0, none⟩ 0) = ⟨g, 0, none⟩ := rfl
  simp [execOp, hf.eval hx, hf.eval hz, Instr.sliceAt, Instr.sureAddr, ha, Instr.sliceBounds, Instr.sliceBound, asIntOf, h2, hs, e0]
end
/-- A whole array, as a slice. -/
theorem Pure.sliceArr {P : Program} {ρ : Env} {dst : Option Tmp} {ty : TypeId} {pos : String} {af : Array Edge} {gd : Option (Nat × Bool)} {x : Operand} {g m size : Nat} {t e : TypeId} (ha : ∀ w, (underlying t).run P w = .ok (.array m e) w) (hs : ∀ w, (sizeOf e).run P w = .ok size w)
    (hx : ev ρ x = some (.pointer (some ⟨g, 0, none⟩))) : Pure P ρ ⟨dst, .slice t x none none none, ty, pos, af, gd⟩ (.slice (some ⟨g, 0, none⟩) m m) := fun w a hf => by
  have e0 : (Addr.add ⟨g, 0, none⟩ 0) = ⟨g, 0, none⟩ := rfl
  simp [execOp, hf.eval hx, Instr.sliceAt, Instr.sureAddr, ha, Instr.sliceBounds, hs, e0]
/-- What a function that makes a block returns, with OK behind it. -/
def RetPE (t : TypeId) (cs : List Value) (w : World) (e : Ending) (w' : World) : Prop := ∃ g, e = .returned (.tuple #[.pointer (some ⟨g, 0, none⟩), .int .i64 0]) ∧ Blk w' g t cs ∧ Chg [] w w' ∧ w.heap.size ≤ g
theorem Pure.sliceSlTo {P : Program} {ρ : Env} {dst : Option Tmp} {ty : TypeId} {pos : String} {af : Array Edge} {gd : Option (Nat × Bool)} {x z : Operand} {k' : IntKind} {j : Int} {g o len cap q size : Nat} {t e : TypeId}
    (ht : ∀ w, (underlying t).run P w = .ok (.slice e) w) (hs : ∀ w, (sizeOf e).run P w = .ok size w) (hx : ev ρ x = some (.slice (some ⟨g, o, none⟩) len cap)) (hz : ev ρ z = some (.int k' j)) (hj : j = q) (h2 : q ≤ cap) :
    Pure P ρ ⟨dst, .slice t x none (some z) none, ty, pos, af, gd⟩ (.slice (some ⟨g, o, none⟩) q cap) := fun w a hf => by
  subst hj
  have e0 : (Addr.add ⟨g, o, none⟩ 0) = ⟨g, o, none⟩ := rfl
  simp [execOp, hf.eval hx, hf.eval hz, Instr.sliceAt, ht, Instr.slice, Instr.sliceBounds, Instr.sliceBound, asIntOf, h2, hs, e0]
theorem blk_get {cs : List Value} {n j : Nat} {l : List UInt8} (h : cs.take n = bv l) (hj : j < l.length) : cs[j]? = some (.int .u8 (bt l j)) := by
  have h1 : (bv l)[j]? = some (.int .u8 (bt l j)) := bv_get hj
  have hn : j < n := by
    have := congrArg List.length h
    rw [bv_len, List.length_take] at this
    omega
  rw [← h, List.getElem?_take_of_lt hn] at h1
  exact h1
theorem take_set {cs : List Value} {n j : Nat} {l : List UInt8} (h : cs.take n = bv l) (x : UInt8) : (cs.set j (.int .u8 ((x.toNat : Nat) : Int))).take n = bv (l.set j x) := by
  rw [List.take_set, h]
  simp [bv, List.map_set]
theorem u8xor8 (a c : UInt8) : bits .xor .u8 ((a.toNat : Nat) : Int) ((c.toNat : Nat) : Int) = (((a ^^^ c).toNat : Nat) : Int) := by
  have ha := a.toNat_lt
  have hc := c.toNat_lt
  show IntKind.u8.wrap ((BitVec.ofInt 8 (a.toNat : Int) ^^^ BitVec.ofInt 8 (c.toNat : Int)).toNat : Int) = _
  have hx : a.toNat ^^^ c.toNat < 2 ^ 8 := Nat.xor_lt_two_pow (by omega) (by omega)
  rw [BitVec.toNat_xor, BitVec.ofInt_natCast, BitVec.ofInt_natCast, BitVec.toNat_ofNat, BitVec.toNat_ofNat, Nat.mod_eq_of_lt (by omega), Nat.mod_eq_of_lt (by omega), u8w, UInt8.toNat_xor]
  omega
theorem u8_xor_ne {a c : UInt8} (h : c ≠ 0) : a ^^^ c ≠ a := fun e => h (by
  have : a ^^^ (a ^^^ c) = a ^^^ a := by rw [e]
  rw [← UInt8.xor_assoc, UInt8.xor_self, UInt8.zero_xor] at this
  exact this)
theorem Blk.same {w : World} {g : Nat} {t t' : TypeId} {cs cs' : List Value} (h : Blk w g t cs) (h' : Blk w g t' cs') : t = t' := by
  obtain ⟨_, h1, _⟩ := h
  obtain ⟨_, h2, _⟩ := h'
  rw [h1] at h2
  injection h2 with h2
  injection h2
theorem Pure.sliceSlTo' {P : Program} {ρ : Env} {dst : Option Tmp} {ty : TypeId} {pos : String} {af : Array Edge} {gd : Option (Nat × Bool)} {x z : Operand} {k' : IntKind} {j : Int} {A : Option Addr} {len cap q size : Nat} {t e : TypeId}
    (ht : ∀ w, (underlying t).run P w = .ok (.slice e) w) (hs : ∀ w, (sizeOf e).run P w = .ok size w) (hx : ev ρ x = some (.slice A len cap)) (hz : ev ρ z = some (.int k' j)) (hj : j = q) (h2 : q ≤ cap) :
    Pure P ρ ⟨dst, .slice t x none (some z) none, ty, pos, af, gd⟩ (.slice A q cap) := fun w a hf => by
  subst hj
  have e0 : ∀ a : Addr, a.add 0 = a := fun a => rfl
  have e1 : A.map (fun a => a.add 0) = A := by cases A <;> rfl
  simp [execOp, hf.eval hx, hf.eval hz, Instr.sliceAt, ht, Instr.slice, Instr.sliceBounds, Instr.sliceBound, asIntOf, h2, hs, e0, e1]
theorem Row.takeTo {w : World} {e : TypeId} {A : Option Addr} {n c q : Nat} {xs : List Value} (h : Row w e 1 (.slice A n c) n xs) (hq : q ≤ n) : Row w e 1 (.slice A q c) q (xs.take q) := by
  obtain ⟨h1, h2⟩ := h
  refine ⟨by rw [List.length_take]; omega, ?_⟩
  rcases h2 with ⟨h3, h4⟩ | ⟨g, cap, cs, h3, h4, h5, h6, h7⟩
  · injection h3 with a1 a2 a3
    subst a1 a2 a3
    exact .inl ⟨by rw [show q = 0 by omega], by omega⟩
  · injection h3 with a1 a2 a3
    subst a1 a3
    exact .inr ⟨g, c, cs, rfl, h4, by omega, h6, by rw [← h7, List.take_take, Nat.mul_one, Nat.mul_one, Nat.min_eq_left hq]⟩
theorem CellsI.chg0 {w w' : World} {k : IntKind} {A : Option Addr} {l : List Int} (h : CellsI w k A l) (hc : Chg [] w w') : CellsI w' k A l := fun i hi => by
  obtain ⟨g, o, e, h2⟩ := h i hi
  exact ⟨g, o, e, cell_chg h2 hc (by simp)⟩
theorem CellsB.chg0 {w w' : World} {A : Option Addr} {l : List UInt8} (h : CellsB w A l) (hc : Chg [] w w') : CellsB w' A l := fun i hi => by
  obtain ⟨g, o, e, h2⟩ := h i hi
  exact ⟨g, o, e, cell_chg h2 hc (by simp)⟩
/-- All blocks of a slice are among these, or new. -/
def MineIn (bad : List Nat) (B : Nat) (v : Value) : Prop := ∀ k, k ∈ own v → k ∈ bad ∨ B ≤ k
theorem MineIn.self (g B : Nat) {v : Value} : MineIn (g :: own v) B v := fun k hk => .inl (List.mem_cons_of_mem _ hk)
theorem MineIn.step {bad : List Nat} {B s : Nat} {v v' : Value} (h : MineIn bad B v) (hs : B ≤ s) (hn : ∀ k, k ∈ own v' → k ∈ own v ∨ s ≤ k) : MineIn bad B v' := fun k hk => by
  rcases hn k hk with h1 | h1
  · exact h k h1
  · exact .inr (by omega)
theorem Chg.ownIn {bad : List Nat} {w w' w'' : World} {v : Value} (h : Chg bad w w') (h' : Chg (Go.V.own v) w' w'') (hm : MineIn bad w.heap.size v) : Chg bad w w'' := h.trans h' (fun k hk => hm k hk)
theorem MineIn.mine {g B B0 : Nat} {v v' : Value} (h : MineIn (g :: own v) B v') (hv : Mine B0 v) (hg : B0 ≤ g) (hB : B0 ≤ B) : Mine B0 v' := fun k hk => by
  rcases h k hk with h1 | h1
  · rcases List.mem_cons.1 h1 with rfl | h2
    · exact hg
    · exact hv k h2
  · omega
theorem notin_cons {g a : Nat} {l : List Nat} (h : g ≠ a) (h2 : g ∉ l) : g ∉ a :: l := fun hk => by
  rcases List.mem_cons.1 hk with h1 | h1
  · exact h h1
  · exact h2 h1
theorem Row.oneCell {w : World} {e : TypeId} {size n : Nat} {v : Value} {xs : List Value} (h : Row w e size v n xs) : v.oneCell' = true := by
  obtain ⟨A, cap, rfl, _⟩ := h.shape
  rfl
/-- What a closure does that appends bytes to a captured slice. -/
def RetPut (g : Nat) (t e : TypeId) (v : Value) (l : List UInt8) (w : World) (r : Ending) (w' : World) : Prop :=
  ∃ v', r = .returned (.tuple #[]) ∧ Blk w' g t [v'] ∧ Row w' e 1 v' l.length (bv l) ∧ Chg (g :: own v) w w' ∧ MineIn (g :: own v) w.heap.size v'
end Go.V
