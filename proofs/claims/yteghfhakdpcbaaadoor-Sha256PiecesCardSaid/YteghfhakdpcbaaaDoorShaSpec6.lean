/- Hashes, compared, in plain Lean. -/
import Derived.Test.YteghfhakdpcbaaaDoorEng5
import Derived.Test.YteghfhakdpcbaaaDoorShaSpec3
set_option linter.unusedVariables false
namespace Go.Sha
open Go.V
theorem hash_longer (s t : List UInt8) : hashCells (s ++ t) = hashCells s ↔ t = [] := by
  constructor
  · intro h
    have := congrArg (fun l => l[9]?) h
    simp [hashCells, sv, iv, S8.l] at this
    exact List.eq_nil_of_length_eq_zero (by omega)
  · rintro rfl
    rw [List.append_nil]
theorem hash_longer' (s t : List UInt8) : hashCells s = hashCells (s ++ t) ↔ t = [] := ⟨fun h => (hash_longer s t).1 h.symm, fun h => ((hash_longer s t).2 h).symm⟩
theorem hash_parts (a b : List UInt8) : hashCells a = hashCells b ↔ (stOf a).l = (stOf b).l ∧ a.drop (cut a) = b.drop (cut b) ∧ a.length = b.length := by
  have hi : ∀ x y : List Int, iv .u32 x = iv .u32 y ↔ x = y := by
    intro x y
    unfold iv
    constructor
    · intro h
      have := congrArg (List.map fun v => match v with | Value.int _ z => z | _ => 0) h
      simpa [List.map_map, Function.comp_def] using this
    · rintro rfl; rfl
  have hs : ∀ x y : List UInt8, str x = str y ↔ x = y := fun x y => ⟨fun h => by have := congrArg (·.data.toList) h; simpa [str] using this, fun h => by rw [h]⟩
  unfold hashCells sv
  constructor
  · intro h
    obtain ⟨h1, h2⟩ := List.append_inj h rfl
    simp only [List.cons.injEq, Value.string.injEq, hs, Value.int.injEq, true_and, and_true] at h2
    exact ⟨(hi _ _).1 h1, h2.1, by omega⟩
  · rintro ⟨h1, h2, h3⟩
    rw [h1, h2, h3]
/-- Whether two hashes are equal. -/
def hashSame (a b : List UInt8) : Bool := decide ((stOf a).l = (stOf b).l) && (decide (a.drop (cut a) = b.drop (cut b)) && (decide ((a.length : Int) = (b.length : Int)) && true))
theorem hashSame_self (a : List UInt8) : hashSame a a = true := by simp [hashSame]
theorem hashSame_iff (a b : List UInt8) : hashSame a b = true ↔ hashCells a = hashCells b := by
  rw [hash_parts]
  simp only [hashSame, Bool.and_true, Bool.and_eq_true, decide_eq_true_eq]
  have : ((a.length : Int) = (b.length : Int)) ↔ a.length = b.length := by omega
  rw [this]
theorem hashSame_longer (s t : List UInt8) : hashSame (s ++ t) s = decide (t = []) := by
  rw [Bool.eq_iff_iff, hashSame_iff, hash_longer, decide_eq_true_eq]
theorem hashSame_longer' (s t : List UInt8) : hashSame s (s ++ t) = decide (t = []) := by
  rw [Bool.eq_iff_iff, hashSame_iff, hash_longer', decide_eq_true_eq]
theorem take_step (m : List UInt8) (p k : Nat) : m.take p ++ (m.drop p).take k = m.take (p + k) := List.take_add.symm
end Go.Sha
