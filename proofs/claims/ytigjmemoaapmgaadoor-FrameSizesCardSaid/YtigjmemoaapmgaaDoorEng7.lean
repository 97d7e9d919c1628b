/- The engine, continued. -/
import Derived.Test.YtigjmemoaapmgaaDoorEng6
set_option linter.unusedVariables false
namespace Go.V
open Go.Instr
section
variable {P : Program} {ρ : Env} {ty : TypeId} {pos : String} {af : Array Edge} {dst : Option Tmp} {gd : Option (Nat × Bool)}
theorem Pure.neqBool' {x y : Operand} {p q : Bool} {t t' : TypeId} (ht : P.underlying t = some .bool) (hx : ev ρ x = some (.bool p)) (hy : ev ρ y = some (.bool q)) :
    Pure P ρ ⟨dst, .binOp .neq t x y t', ty, pos, af, gd⟩ (.bool (!(p == q))) := fun w a hf => by
  have h1 : (eqGuard .neq t x y (.bool p) (.bool q)).run P w = .ok () w := by simp [eqGuard]
  have h2 : (binOp .neq t (.bool p) (.bool q)).run P w = .ok (.bool (!(p == q))) w := by
    show (do pure (Value.bool (!(← Op.equal t (.bool p) (.bool q)))) : Sem Value).run P w = _
    rw [Sem.run_bind, show Op.equal t (.bool p) (.bool q) = Op.equalIn (9999 + 1) t (.bool p) (.bool q) from rfl, run_equalIn_bool' w _ _ _ _ ht]
    simp
  simp only [execOp, hf.eval hx, hf.eval hy]
  simp [h1, h2]
end
theorem bv_set (l : List UInt8) (i : Nat) (x : UInt8) : (bv l).set i (.int .u8 ((x.toNat : Nat) : Int)) = bv (l.set i x) := by simp [bv, List.map_set]
end Go.V
