/- Structs among the arguments, cell by cell. Conditions: none. -/
import Derived.Test.YtigjmemoaapmgaaDoorLawKit3
set_option linter.unusedVariables false
namespace Go.V
open Go.ChangeShapes Go.WideShapes Go.RowKit
section
variable {H : Type} {enc : TypeId × Value → H} {P : Program} {w : World} {base b0 : Nat} {spare : Nat → Bool} {held : Bool} {r : Reach}
/-- A struct among the arguments: its cells, and how each field reads. -/
theorem open_struct {t n : TypeId} {v : Value} {d : DataW H} {ps : List MemPlace} {fs : List Field} (ht : P.underlying t = some (.struct fs.toArray)) (hct : P.cellsOf t = n) (hval : Value.okWide P w r b0 t v) (hd : DataW.Trod enc P w base spare held t v d ps) :
    ∃ (cs : List Value) (k : Nat) (xs : List (DataW H × List MemPlace)), v = .agg cs.toArray ∧ cs.length = n ∧ ∀ (i : Nat) (f : Field), fs[i]? = some f → P.cellsOf f.type = 1 → f.offset < n → ∃ c x, cs[f.offset]? = some c ∧ DataW.trod enc P w base spare held k f.type [c] = some x := by
  obtain ⟨cs, rfl, hsz⟩ := okWide_struct ht hval
  obtain ⟨fuel, hf⟩ := hd
  obtain ⟨xs, k, -, -, hl, hxl, hx⟩ := DataW.trod_struct ht hf
  have hl' : cs.toList.length = n := hl.trans hct
  refine ⟨cs.toList, k, xs, by simp, hl', fun i f hi hc ho => ?_⟩
  have h1 := hx i f (by simpa using hi)
  have hlt : i < xs.length := by
    rw [hxl]
    have := (List.getElem?_eq_some_iff.1 hi).1
    simpa using this
  have h2 : ((Value.agg cs).cells.toList.drop f.offset).take (P.cellsOf f.type) = [cs.toList[f.offset]] := by
    show (cs.toList.drop f.offset).take (P.cellsOf f.type) = _
    rw [hc, List.drop_eq_getElem_cons (by omega)]
    rfl
  rw [h2, List.getElem?_eq_getElem hlt] at h1
  exact ⟨_, _, List.getElem?_eq_getElem (by omega), h1⟩
theorem trod_str1 {t : TypeId} {c : Value} {k : Nat} {x : DataW H × List MemPlace} (ht : P.underlying t = some .string) (h : DataW.trod enc P w base spare held k t [c] = some x) : ∃ l : List UInt8, c = .string (str l) ∧ l.length ≤ maxLen := by
  obtain ⟨s, hs, -, hl⟩ := DataW.trod_string ht h
  obtain rfl : c = .string s := by simpa using hs
  exact ⟨s.data.toList, by rw [← str_eta s]; rfl, hl⟩
theorem trod_i64 {t : TypeId} {c : Value} {k : Nat} {x : DataW H × List MemPlace} (ht : P.underlying t = some (.int .i64)) (h : DataW.trod enc P w base spare held k t [c] = some x) : ∃ z : Int, c = .int .i64 z ∧ -9223372036854775808 ≤ z ∧ z ≤ 9223372036854775807 := by
  obtain ⟨z, rfl, -, hw⟩ := trod_int1 ht h
  exact ⟨z, rfl, bounds_i64 hw⟩
theorem trod_u16 {t : TypeId} {c : Value} {k : Nat} {x : DataW H × List MemPlace} (ht : P.underlying t = some (.int .u16)) (h : DataW.trod enc P w base spare held k t [c] = some x) : ∃ n : Nat, c = .int .u16 (n : Int) ∧ n ≤ 65535 := by
  obtain ⟨z, rfl, -, hw⟩ := trod_int1 ht h
  have := bounds_u16 hw
  exact ⟨z.toNat, by rw [show ((z.toNat : Nat) : Int) = z by omega], by omega⟩
theorem trod_texts {t e : TypeId} {c : Value} {k : Nat} {x : DataW H × List MemPlace} (ht : P.underlying t = some (.slice e)) (he : P.underlying e = some .string) (hc : P.cellsOf e = 1) (h : DataW.trod enc P w base spare held k t [c] = some x) :
    ∃ A cap L, c = .slice A (List.length L) cap ∧ Cells w A L := by
  rcases open_strings ht he hc h with ⟨hcs, hx⟩ | ⟨a', len', cap', ss, hcs, _, hl, hm, hz, hx, hcell, hsz⟩
  · obtain rfl : c = .slice none 0 0 := by simpa using hcs
    exact ⟨none, 0, [], rfl, fun i hi => by simp at hi⟩
  · obtain rfl : c = .slice (some a') len' cap' := by simpa using hcs
    have hle : len' ≤ ss.length := by
      rw [hz]
      split <;> omega
    refine ⟨some a', cap', (ss.take len').map (·.data.toList), by simp [hle], fun i hi => ?_⟩
    have hi' : i < len' := by simpa [hle] using hi
    obtain ⟨e1, e2⟩ := add_spot (hcell 0 (by omega)) (hcell i (by omega))
    refine ⟨_, _, by rw [e1], ?_⟩
    rw [e2]
    congr 2
    have : (ss.getD i ByteArray.empty) = str (ss.getD i ByteArray.empty).data.toList := (str_eta _).symm
    rw [this]
    congr 1
    simp [List.getD, hi', show i < ss.length by omega]
/-- The cells of a slice of numbers, as far as it goes. -/
theorem trod_numbers {t e : TypeId} {kk : IntKind} {c : Value} {k : Nat} {x : DataW H × List MemPlace} (ht : P.underlying t = some (.slice e)) (he : P.underlying e = some (.int kk)) (hc : P.cellsOf e = 1) (h : DataW.trod enc P w base spare held k t [c] = some x) :
    ∃ A cap l, c = .slice A (List.length l) cap ∧ CellsI w kk A l ∧ ∀ z, z ∈ l → (Lit.int kk z).wf = true := by
  rcases open_ints ht he hc h with ⟨hcs, hx⟩ | ⟨a', len', cap', zs, hcs, _, hl, hm, hz, hx, hcell, hwf⟩
  · obtain rfl : c = .slice none 0 0 := by simpa using hcs
    exact ⟨none, 0, [], rfl, fun i hi => by simp at hi, fun z hz => by simp at hz⟩
  · obtain rfl : c = .slice (some a') len' cap' := by simpa using hcs
    have hle : len' ≤ zs.length := by
      rw [hz]
      split <;> omega
    refine ⟨some a', cap', zs.take len', by simp [hle], fun i hi => ?_, fun z hz => hwf z (List.mem_of_mem_take hz)⟩
    have hi' : i < len' := by simpa [hle] using hi
    obtain ⟨e1, e2⟩ := add_spot (hcell 0 (by omega)) (hcell i (by omega))
    refine ⟨_, _, by rw [e1], ?_⟩
    rw [e2]
    congr 2
    simp [List.getD, hi', show i < zs.length by omega]
end
theorem four_of {cs : List Value} (h : cs.length = 4) {a b c d : Value} (h0 : cs[0]? = some a) (h1 : cs[1]? = some b) (h2 : cs[2]? = some c) (h3 : cs[3]? = some d) : cs = [a, b, c, d] := by
  match cs, h with
  | [x, y, z, u], _ =>
    simp at h0 h1 h2 h3
    simp [h0, h1, h2, h3]
theorem trod_bytes {H : Type} {enc : TypeId × Value → H} {P : Program} {w : World} {base : Nat} {spare : Nat → Bool} {held : Bool} {t e : TypeId} {c : Value} {k : Nat} {x : DataW H × List MemPlace} (ht : P.underlying t = some (.slice e)) (he : P.underlying e = some (.int .u8)) (hc : P.cellsOf e = 1) (h : DataW.trod enc P w base spare held k t [c] = some x) :
    ∃ A cap l, c = .slice A (List.length l) cap ∧ CellsB w A l := by
  obtain ⟨A, cap, l, rfl, hl, hw⟩ := trod_numbers ht he hc h
  refine ⟨A, cap, l.map (fun z => UInt8.ofNat z.toNat), by simp, fun i hi => ?_⟩
  have hi' : i < l.length := by simpa using hi
  obtain ⟨g, o, e1, e2⟩ := hl i hi'
  refine ⟨g, o, e1, ?_⟩
  rw [e2]
  congr 2
  have hb := bounds_u8 (hw (l.getD i 0) (by simp [List.getD, hi']))
  unfold bt
  have : (l.map (fun z => UInt8.ofNat z.toNat)).getD i 0 = UInt8.ofNat (l.getD i 0).toNat := by simp [List.getD, hi']
  rw [this, UInt8.toNat_ofNat', Nat.mod_eq_of_lt (by omega)]
  omega
theorem eight_of {cs : List Value} (h : cs.length = 8) {a b c d e f g i : Value} (h0 : cs[0]? = some a) (h1 : cs[1]? = some b) (h2 : cs[2]? = some c) (h3 : cs[3]? = some d) (h4 : cs[4]? = some e) (h5 : cs[5]? = some f) (h6 : cs[6]? = some g) (h7 : cs[7]? = some i) : cs = [a, b, c, d, e, f, g, i] := by
  match cs, h with
  | [x0, x1, x2, x3, x4, x5, x6, x7], _ =>
    simp at h0 h1 h2 h3 h4 h5 h6 h7
    simp [h0, h1, h2, h3, h4, h5, h6, h7]
end Go.V
