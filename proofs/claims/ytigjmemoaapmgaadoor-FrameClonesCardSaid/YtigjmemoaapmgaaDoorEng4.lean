/- The engine, continued: slices of texts, and slices made by their length. -/
import Derived.Test.YtigjmemoaapmgaaDoorEng3
set_option linter.unusedVariables false
namespace Go.V
open Go.Instr
/-- Texts as values. -/
def tv (L : List (List UInt8)) : List Value := L.map fun l => .string (str l)
theorem tv_len (L : List (List UInt8)) : (tv L).length = L.length := by simp [tv]
theorem tv_snoc (L : List (List UInt8)) (l : List UInt8) : tv L ++ [.string (str l)] = tv (L ++ [l]) := by simp [tv]
/-- The cells of a slice of texts, as far as it goes. -/
def Cells (w : World) (A : Option Addr) (L : List (List UInt8)) : Prop :=
  ∀ i, i < L.length → ∃ g o, A = some ⟨g, o, none⟩ ∧ w.cell? ⟨g, o + i, none⟩ = some (.string (str (L.getD i [])))
theorem cell_lt {w : World} {a : Addr} {v : Value} (h : w.cell? a = some v) : a.block < w.heap.size := by
  unfold World.cell? at h
  by_cases hb : a.block < w.heap.size
  · exact hb
  · rw [Array.getElem?_eq_none (by omega)] at h
    simp at h
theorem cell_chg {w w' : World} {bad : List Nat} {a : Addr} {v : Value} (h : w.cell? a = some v) (hc : Chg bad w w') (hb : a.block ∉ bad) : w'.cell? a = some v := by
  have := hc.keep a.block (cell_lt h) hb
  unfold World.cell? at h ⊢
  rw [this]
  exact h
theorem Cells.chg {w w' : World} {A : Option Addr} {L : List (List UInt8)} {bad : List Nat} (h : Cells w A L) (hc : Chg bad w w') (hb : 0 < L.length → ∀ a, A = some a → a.block ∉ bad) : Cells w' A L := fun i hi => by
  obtain ⟨g, o, rfl, h2⟩ := h i hi
  exact ⟨g, o, rfl, cell_chg h2 hc (hb (by omega) ⟨g, o, none⟩ rfl)⟩
theorem Cells.chg0 {w w' : World} {A : Option Addr} {L : List (List UInt8)} (h : Cells w A L) (hc : Chg [] w w') : Cells w' A L := h.chg hc (fun _ _ _ => by simp)
theorem Cells.fresh {w : World} {A : Option Addr} {L : List (List UInt8)} (h : Cells w A L) {g : Nat} (hg : w.heap.size ≤ g) : 0 < L.length → ∀ a, A = some a → a.block ∉ [g] := fun h0 a ha => by
  obtain ⟨g', o, e, h2⟩ := h 0 h0
  obtain rfl : a = ⟨g', o, none⟩ := Option.some.inj (ha.symm.trans e)
  have := cell_lt h2
  simp at this ⊢
  omega
theorem Row.cells {w : World} {e : TypeId} {v : Value} {n : Nat} {L : List (List UInt8)} (h : Row w e 1 v n (tv L)) (hn : n = L.length) : ∃ A cap, v = .slice A L.length cap ∧ Cells w A L := by
  subst hn
  rcases h.2 with ⟨rfl, h0⟩ | ⟨g, cap, cs, rfl, hb, h1, h2, h3⟩
  · exact ⟨none, 0, by rw [h0], fun i hi => by omega⟩
  · refine ⟨_, cap, rfl, fun i hi => ⟨g, 0, rfl, ?_⟩⟩
    rw [hb.cell]
    have : (cs.take (L.length * 1))[i]? = (tv L)[i]? := by rw [h3]
    rw [List.getElem?_take_of_lt (by omega)] at this
    simp only [Nat.zero_add]
    rw [this]
    simp [tv, hi]
theorem Row.lit {w : World} {g n : Nat} {e : TypeId} {cs : List Value} (h : Blk w g e cs) (hn : cs.length = n) : Row w e 1 (.slice (some ⟨g, 0, none⟩) n n) n cs :=
  ⟨by omega, .inr ⟨g, n, cs, rfl, h, Nat.le_refl _, by omega, by rw [List.take_of_length_le]; omega⟩⟩
section
variable {P : Program} {Q R : Exit → Act → World → Prop} {n : Nat} {ds : List Deferred} {k : List Item} {ρ : Env} {w w' : World} {ops : Array Oper} {S : World → Prop} {π : Plan} {l : List Oper}
variable {i d : Nat} {op : Op} {ty : TypeId} {pos : String} {af : Array Edge} {v : Value} {dst : Option Tmp} {gd : Option (Nat × Bool)}
theorem Run.loadCell {x : Operand} {g o : Nat} {t : TypeId} {v : Value} (hx : ev ρ x = some (.pointer (some ⟨g, o, none⟩))) (ha : ∀ w, (isAgg t).run P w = .ok false w) (hcell : w.cell? ⟨g, o, none⟩ = some v) :
    Run P ρ ⟨dst, .load t x, ty, pos, af, gd⟩ w v w := fun a hf => by
  simp [execOp, hf.eval hx, Instr.loadAt, Instr.sureAddr, loadVar, ha, hcell]
theorem Pure.eqlBool' {x y : Operand} {p q : Bool} {t t' : TypeId} (ht : P.underlying t = some .bool) (hx : ev ρ x = some (.bool p)) (hy : ev ρ y = some (.bool q)) :
    Pure P ρ ⟨dst, .binOp .eql t x y t', ty, pos, af, gd⟩ (.bool (p == q)) := Pure.eqlBool hx hy ht
theorem PL.buildSliceC {t e : TypeId} {m size : Nat} {z : Value} {parts : List (Nat × Operand)} {vs : List (Nat × Value)} {cs : List Value} (ho : ops[i]? = some ⟨some d, .buildSlice t m parts.toArray, ty, pos, af, none⟩) (hp : evp ρ parts = some vs)
    (ht : ∀ w, (underlying t).run P w = .ok (.slice e) w) (hz : ∀ w, (sizeOf e).run P w = .ok size w) (hzv : ∀ w, (zeroValue e).run P w = .ok z w) (hm : m * size ≤ 2 ^ 24) (hm0 : 0 < m * size)
    (hfill : Instr.fill (fun i => some (i * size, size)) ((Array.range (m * size)).map (z.cells[· % z.cells.size]!)) vs = some cs.toArray) (hd : Nat.blt d n = true) (hS : ∀ w', Chg [] w w' → S w')
    (h : ∀ g w', Blk w' g e cs → Chg [] w w' → w.heap.size = g → PL P n ds ops R S π ((d, .slice (some ⟨g, 0, none⟩) m m) :: ρ) w') (hi1000 : i < 1000 := by decide) : PL P n ds ops R S (.cons (i, false) π) ρ w :=
  PL.val ho (Run.buildSlice hp ht hz hzv hm hm0 hfill) hd (hS _ (chg_alloc _ _)) (h _ _ (blk_alloc _ _ _) (chg_alloc _ _) rfl) hi1000
theorem PL.appendC {s x : Operand} {t tx e : TypeId} {j : TypeInfo} {z : Value} {size m q : Nat} {v u : Value} {xs news : List Value} (ho : ops[i]? = some ⟨some d, .call { callee := .builtin .append, args := #[s, x], argTypes := #[t, tx] }, ty, pos, af, none⟩) (hs : ev ρ s = some v) (hx : ev ρ x = some u)
    (ht : P.underlying t = some (.slice e)) (htx : P.underlying tx = some (.slice e) ∨ P.underlying tx = some .string) (hi : P.info? e = some j) (hz : j.zero = some z) (hsize : j.size = size) (hzs : z.cells.size = size) (hb0 : 0 < j.bytes)
    (hd : Nat.blt d n = true) (hrow : Row w e size v q xs) (hsrc : Src P size u m news w) (h1 : ∀ u ∈ news, u.oneCell' = true) (hb : (q + m) * j.bytes ≤ 140737488355328) (hS : ∀ w', Chg (own v) w w' → S w')
    (h : ∀ v' w', Row w' e size v' (q + m) (xs ++ news) → Chg (own v) w w' → (∀ k, k ∈ own v' → k ∈ own v ∨ w.heap.size ≤ k) → PL P n ds ops R S π ((d, v') :: ρ) w') (hi1000 : i < 1000 := by decide) :
    PL P n ds ops R S (.cons (i, false) π) ρ w := by
  obtain ⟨v', w', hr, h2, h3, h4⟩ := Run.append (ty := ty) (pos := pos) (af := af) (dst := some d) (gd := none) hs hx ht htx hi hz hsize hzs hb0 hrow hsrc h1 hb
  exact PL.val ho hr hd (hS _ h3) (h v' w' h2 h3 h4) hi1000
end
/-- What a function that makes a list of texts returns. -/
def RetT (t : TypeId) (L : List (List UInt8)) (w : World) (e : Ending) (w' : World) : Prop := ∃ v, e = .returned v ∧ Row w' t 1 v L.length (tv L) ∧ Chg [] w w' ∧ Mine w.heap.size v
theorem u8sh (n k : Nat) : ((n : Int) / (k : Int)) % 256 = (((UInt8.ofNat (n / k)).toNat : Nat) : Int) := by rw [← u8nat, Int.natCast_ediv]
end Go.V
