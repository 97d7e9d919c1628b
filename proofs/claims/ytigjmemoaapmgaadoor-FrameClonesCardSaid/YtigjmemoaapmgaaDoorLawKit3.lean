/- A slice of bytes among the arguments. Conditions: none. -/
import Derived.Test.YtigjmemoaapmgaaDoorLawKit2
import Derived.Test.YtigjmemoaapmgaaDoorEng5
import Derived.ChangeSlices
set_option linter.unusedVariables false
namespace Go.V
open Go.ChangeShapes Go.WideShapes Go.RowKit
/-- A slice of bytes among the arguments. -/
theorem open_bytes {H : Type} {enc : TypeId × Value → H} {P : Program} {w : World} {base b0 : Nat} {spare : Nat → Bool} {held : Bool} {r : Reach} {t e : TypeId} {v : Value} {d : DataW H} {ps : List MemPlace}
    (ht : P.underlying t = some (.slice e)) (he : P.underlying e = some (.int .u8)) (hc : P.cellsOf e = 1) (hval : Value.okWide P w r b0 t v) (hd : DataW.Trod enc P w base spare held t v d ps) :
    ∃ A cap l, v = .slice A (List.length l) cap ∧ CellsB w A l := by
  obtain ⟨a, len, cap, rfl⟩ := okWide_slice ht hval
  obtain ⟨fuel, hf⟩ := hd
  rcases open_ints ht he hc hf with ⟨hcs, hx⟩ | ⟨a', len', cap', zs, hcs, _, hl, hm, hz, hx, hcell, hwf⟩
  · simp [Value.cells] at hcs
    obtain ⟨rfl, rfl, rfl⟩ := hcs
    exact ⟨none, 0, [], rfl, fun i hi => by simp at hi⟩
  · simp [Value.cells] at hcs
    obtain ⟨rfl, rfl, rfl⟩ := hcs
    have hle : len ≤ zs.length := by
      rw [hz]
      split <;> omega
    refine ⟨some a', cap, (zs.take len).map (fun z => UInt8.ofNat z.toNat), by simp [hle], fun i hi => ?_⟩
    have hi' : i < len := by simpa [hle] using hi
    obtain ⟨e1, e2⟩ := add_spot (hcell 0 (by omega)) (hcell i (by omega))
    refine ⟨_, _, by rw [e1], ?_⟩
    rw [e2]
    congr 2
    have hw := bounds_u8 (hwf (zs.getD i 0) (by
      have : i < zs.length := by omega
      simp [List.getD, this]))
    unfold bt
    have : ((zs.take len).map (fun z => UInt8.ofNat z.toNat)).getD i 0 = UInt8.ofNat (zs.getD i 0).toNat := by
      simp [List.getD, hi', show i < zs.length by omega]
    rw [this, UInt8.toNat_ofNat', Nat.mod_eq_of_lt (by omega)]
    have e : zs[i]?.getD 0 = zs.getD i 0 := rfl
    omega
end Go.V
