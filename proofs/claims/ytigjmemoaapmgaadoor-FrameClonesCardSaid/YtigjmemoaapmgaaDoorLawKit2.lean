/- A slice of texts among the arguments. Conditions: none. -/
import Derived.Test.YtigjmemoaapmgaaDoorLawKit
import Derived.Test.YtigjmemoaapmgaaDoorEng4
import Derived.SliceStrings
set_option linter.unusedVariables false
namespace Go.V
open Go.ChangeShapes Go.WideShapes Go.RowKit
theorem add_spot {w : World} {a : Addr} {i : Nat} {v v0 : Value} (h0 : w.cell? (a.add 0) = some v0) (h : w.cell? (a.add i) = some v) : a = ⟨a.block, a.off, none⟩ ∧ w.cell? ⟨a.block, a.off + i, none⟩ = some v := by
  obtain ⟨b, o, s⟩ := a
  have hs : s = none := by
    cases s with
    | none => rfl
    | some x =>
      exfalso
      simp only [Addr.add, if_true] at h0
      unfold World.cell? at h0
      split at h0
      · simp at h0
      · simp at h0
  subst hs
  refine ⟨rfl, ?_⟩
  by_cases hi : i = 0
  · subst hi
    simpa [Addr.add] using h
  · simpa [Addr.add, hi] using h
/-- A slice of texts among the arguments. -/
theorem open_texts {H : Type} {enc : TypeId × Value → H} {P : Program} {w : World} {base b0 : Nat} {spare : Nat → Bool} {held : Bool} {r : Reach} {t e : TypeId} {v : Value} {d : DataW H} {ps : List MemPlace}
    (ht : P.underlying t = some (.slice e)) (he : P.underlying e = some .string) (hc : P.cellsOf e = 1) (hval : Value.okWide P w r b0 t v) (hd : DataW.Trod enc P w base spare held t v d ps) :
    ∃ A cap L, v = .slice A (List.length L) cap ∧ Cells w A L := by
  obtain ⟨a, len, cap, rfl⟩ := okWide_slice ht hval
  obtain ⟨fuel, hf⟩ := hd
  rcases open_strings ht he hc hf with ⟨hcs, hx⟩ | ⟨a', len', cap', ss, hcs, _, hl, hm, hz, hx, hcell, hsz⟩
  · simp [Value.cells] at hcs
    obtain ⟨rfl, rfl, rfl⟩ := hcs
    exact ⟨none, 0, [], rfl, fun i hi => by simp at hi⟩
  · simp [Value.cells] at hcs
    obtain ⟨rfl, rfl, rfl⟩ := hcs
    have hle : len ≤ ss.length := by
      rw [hz]
      split <;> omega
    refine ⟨some a', cap, (ss.take len).map (·.data.toList), by simp [hle], fun i hi => ?_⟩
    have hi' : i < len := by simpa [hle] using hi
    obtain ⟨e1, e2⟩ := add_spot (hcell 0 (by omega)) (hcell i (by omega))
    refine ⟨_, _, by rw [e1], ?_⟩
    rw [e2]
    congr 2
    have : (ss.getD i ByteArray.empty) = str (ss.getD i ByteArray.empty).data.toList := (str_eta _).symm
    rw [this]
    congr 1
    simp [List.getD, hi', show i < ss.length by omega]
end Go.V
