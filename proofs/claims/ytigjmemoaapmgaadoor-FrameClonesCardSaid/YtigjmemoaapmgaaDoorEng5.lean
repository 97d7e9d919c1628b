/- The engine, continued: structs compared, new blocks returned, slices of bytes among the arguments. -/
import Derived.Test.YtigjmemoaapmgaaDoorEng4
import Derived.Laws.MakeOwn
set_option linter.unusedVariables false
namespace Go.V
open Go.Instr
section
variable {P : Program} {ρ : Env} {w w' : World} {ty : TypeId} {pos : String} {af : Array Edge} {v : Value} {dst : Option Tmp} {gd : Option (Nat × Bool)}
theorem part_cell {t : TypeId} {cs : Array Value} {off : Nat} {v : Value} (ha : ∀ w, (isAgg t).run P w = .ok false w) (hv : cs[off]? = some v) (w : World) : (part t cs off).run P w = .ok v w := by
  simp [part, ha, hv]
theorem part_row {t : TypeId} {cs : Array Value} {off n : Nat} {vs : List Value} (ha : ∀ w, (isAgg t).run P w = .ok true w) (hs : ∀ w, (sizeOf t).run P w = .ok n w) (hv : cs.extract off (off + n) = vs.toArray) (w : World) : (part t cs off).run P w = .ok (.agg vs.toArray) w := by
  simp [part, ha, hs, hv]
theorem eqF_nil (d : Nat) (xs ys : Array Value) (w : World) : (Op.eqFields d xs ys []).run P w = .ok true w := by simp [Op.eqFields]
theorem eqF_cons {d : Nat} {xs ys : Array Value} {f : Field} {fs : List Field} {a b : Value} {r q : Bool} (hn : f.name ≠ "_") (ha : ∀ w, (part f.type xs f.offset).run P w = .ok a w) (hb : ∀ w, (part f.type ys f.offset).run P w = .ok b w)
    (he : ∀ w, (Op.equalIn d f.type a b).run P w = .ok r w) (hr : ∀ w, (Op.eqFields d xs ys fs).run P w = .ok q w) (w : World) : (Op.eqFields d xs ys (f :: fs)).run P w = .ok (r && q) w := by
  simp only [Op.eqFields, hn, ne_eq, not_false_iff, if_true, Sem.run_bind, ha, hb, he, Result.andThen_ok]
  cases r
  · simp
  · simp [hr]
theorem eq_str {t : TypeId} (h : P.underlying t = some .string) (d : Nat) (l m : List UInt8) (w : World) : (Op.equalIn (d + 1) t (.string (str l)) (.string (str m))).run P w = .ok (decide (l = m)) w := by
  rw [run_equalIn_string w d t _ _ h]
  congr 1
  have e : ∀ l : List UInt8, (str l).toList = l := fun l => by rw [ByteArray.toList_eq]; rfl
  rw [e, e]
  by_cases hlm : l = m <;> simp [hlm]
theorem eq_int {t : TypeId} {k : IntKind} (h : P.underlying t = some (.int k)) (d : Nat) (a b : Int) (w : World) : (Op.equalIn (d + 1) t (.int k a) (.int k b)).run P w = .ok (decide (a = b)) w := by
  rw [run_equalIn_int w d t k k a b h]
  congr 1
theorem Pure.eqlStruct {x y : Operand} {t t' : TypeId} {xs ys : Array Value} {r : Bool} (ht : P.underlying t = some (.struct (P.fieldsOf t))) (hp : P.stoodInHeld t = false) (hm : P.eqGuardType P.depth t = false)
    (hx : ev ρ x = some (.agg xs)) (hy : ev ρ y = some (.agg ys)) (he : ∀ w, (Op.eqFields 9999 xs ys (P.fieldsOf t).toList).run P w = .ok r w) :
    Pure P ρ ⟨dst, .binOp .eql t x y t', ty, pos, af, gd⟩ (.bool r) := fun w a hf => by
  simp [execOp, hf.eval hx, hf.eval hy, run_eqGuard_agg w _ t x y _ _ hm, run_eql_struct, run_equalIn_agg w 9999 t _ _ ht hp, he]
theorem Pure.neqStruct {x y : Operand} {t t' : TypeId} {xs ys : Array Value} {r : Bool} (ht : P.underlying t = some (.struct (P.fieldsOf t))) (hp : P.stoodInHeld t = false) (hm : P.eqGuardType P.depth t = false)
    (hx : ev ρ x = some (.agg xs)) (hy : ev ρ y = some (.agg ys)) (he : ∀ w, (Op.eqFields 9999 xs ys (P.fieldsOf t).toList).run P w = .ok r w) :
    Pure P ρ ⟨dst, .binOp .neq t x y t', ty, pos, af, gd⟩ (.bool (!r)) := fun w a hf => by
  simp [execOp, hf.eval hx, hf.eval hy, run_eqGuard_agg w _ t x y _ _ hm, run_neq_struct, run_equalIn_agg w 9999 t _ _ ht hp, he]
end
/-- What a function that makes a block returns. -/
def RetP (t : TypeId) (cs : List Value) (w : World) (e : Ending) (w' : World) : Prop := ∃ g, e = .returned (.pointer (some ⟨g, 0, none⟩)) ∧ Blk w' g t cs ∧ Chg [] w w' ∧ w.heap.size ≤ g
/-- The cells of a slice of numbers, as far as it goes. -/
def CellsI (w : World) (k : IntKind) (A : Option Addr) (l : List Int) : Prop :=
  ∀ i, i < l.length → ∃ g o, A = some ⟨g, o, none⟩ ∧ w.cell? ⟨g, o + i, none⟩ = some (.int k (l.getD i 0))
/-- The cells of a slice of bytes, as far as it goes. -/
def CellsB (w : World) (A : Option Addr) (l : List UInt8) : Prop :=
  ∀ i, i < l.length → ∃ g o, A = some ⟨g, o, none⟩ ∧ w.cell? ⟨g, o + i, none⟩ = some (.int .u8 (bt l i))
theorem Cells.of_blk {w : World} {g : Nat} {e : TypeId} {L : List (List UInt8)} (h : Blk w g e (tv L)) : Cells w (some ⟨g, 0, none⟩) L := fun i hi => ⟨g, 0, rfl, by
  rw [h.cell]
  simp [tv, hi]⟩
theorem madeCells_one (v : Value) (n : Nat) : madeCells #[v] n = (List.replicate n v).toArray := by
  apply Array.ext
  · simp [madeCells]
  · intro i h1 h2
    simp [madeCells, Nat.mod_one]
section
variable {P : Program} {R : Exit → Act → World → Prop} {n : Nat} {ds : List Deferred} {ρ : Env} {w w' : World} {ops : Array Oper} {l : List Oper}
variable {d : Nat} {ty : TypeId} {pos : String} {af : Array Edge} {v : Value} {dst : Option Tmp} {gd : Option (Nat × Bool)}
theorem OL.makeSlice {x y : Operand} {t e : TypeId} {i : TypeInfo} {z : Value} {k k' : IntKind} {m c : Nat} (hx : ev ρ x = some (.int k (m : Int))) (hy : ev ρ y = some (.int k' (c : Int))) (ht : P.underlying t = some (.slice e)) (hi : P.info? e = some i) (hz : i.zero = some z)
    (hs : i.size = 1) (hzc : z.cells = #[v]) (hmc : m ≤ c) (hb : i.bytes * c ≤ 281474976710656) (hc : c ≤ 9223372036854775807) (hd : Nat.blt d n = true)
    (h : ∀ g w', Blk w' g e (List.replicate c v) → Chg [] w w' → w.heap.size = g → OL P n ds ops R l ((d, .slice (some ⟨g, 0, none⟩) m c) :: ρ) w') : OL P n ds ops R (⟨some d, .makeSlice t x y, ty, pos, af, none⟩ :: l) ρ w :=
  OL.val (v := .slice (some ⟨w.heap.size, 0, none⟩) m c) (w' := w.alloc (.cells (List.replicate c v).toArray e)) (fun a hf => by
    have hb' : (i.bytes : Int) * (c : Int) ≤ 281474976710656 := by
      have h : ((i.bytes * c : Nat) : Int) ≤ 281474976710656 := by omega
      rwa [Int.natCast_mul] at h
    have hr := run_make (P := P) w t e i z ht hi hz k k' (m : Int) (c : Int) (by omega) (by omega) hb' (by omega)
    simp only [Int.toNat_natCast, hs, Nat.mul_one, hzc, madeCells_one] at hr
    simp [execOp, hf.eval hx, hf.eval hy, hr]) hd (h _ _ (by simpa using blk_alloc w e (List.replicate c v)) (chg_alloc _ _) rfl)
end
end Go.V
