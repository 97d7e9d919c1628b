/- What the rows lay, and a world in which it lies. -/
import Derived.Test.YteghfhakdpcbaaaDoorRows
import Derived.Test.YteghfhakdpcbaaaDoorLawKit
import Derived.Test.YteghfhakdpcbaaaDoorShaSpec
set_option linter.unusedVariables false
namespace Go.Proofs.YteghfhakdpcbaaaDoor
open Go Go.V Go.Sha
open Go.ChangeShapes Go.WideShapes Go.RowKit
open Go.ChangeMaps (open_string shut_string)
theorem own : ownKnob Tryd.prog.godebug = none := by kernel_rfl
theorem laidOut : laidOutB Tryd.prog = true := by kernel_rfl
theorem globK : Tryd.prog.globalNamed "replevin/sha256.constants" = some 0 := by kernel_rfl
theorem globKt : (Tryd.prog.globals[0]?).map (·.type) = some 75 := by kernel_rfl
theorem cells75 : Tryd.prog.cellsOf 75 = 64 := by kernel_rfl
theorem cells63 : Tryd.prog.cellsOf 63 = 1 := by kernel_rfl
/-- What the row's table gives a walk. -/
theorem tabK {W : World} (h : laidMet Tryd.prog [("replevin/sha256.constants", Rows.laid_replevin_sha256_constants)] W) : ∃ tK, Blk W 0 tK (iv .u32 K) :=
  tab_of_laid (List.mem_singleton.2 rfl) globK globKt Tryd.underlying75 Tryd.underlying63 cells63 cells75 (by decide) h
/-- A world in which the table lies. -/
noncomputable def laidWorld (os : Os) : World :=
  { World.holding Tryd.prog os ⟨#[], #[], []⟩ with heap := (World.holding Tryd.prog os ⟨#[], #[], []⟩).heap.modify 0 fun
      | .cells _ t frozen => .cells (iv .u32 K).toArray t frozen
      | o => o }
theorem laidWorld_row (os : Os) (args : Array Value) : ((laidWorld os).forCall (fun _ _ => 0) ⟨#[], args, []⟩).memory.heap[0]? = some (.cells (iv .u32 K).toArray 75 (0, 0)) := by kernel_rfl
set_option maxRecDepth 100000 in
theorem laidWorld_met (os : Os) (args : Array Value) : laidMet Tryd.prog [("replevin/sha256.constants", Rows.laid_replevin_sha256_constants)] ((laidWorld os).forCall (fun _ _ => 0) ⟨#[], args, []⟩).memory := by
  refine ⟨_, ⟨0, 75, (iv .u32 K).toArray, 8, [], [], globK, globKt, ?_, by kernel_rfl, rfl, rfl⟩, by decide +kernel, fun b off h => ?_⟩
  · simp only [World.var?, globK, Option.bind_some, laidWorld_row]
  · have hb : b = 0 := by
      simp only [List.append_nil, MemPlace.row, List.mem_map] at h
      obtain ⟨i, _, hi⟩ := h
      injection hi with h1 h2
      exact h1.symm
    subst hb
    refine ⟨⟨_, _, laidWorld_row os args⟩, fun u v hc => ?_⟩
    simp only [World.cell?, laidWorld_row os args] at hc
    exfalso
    have hm : Value.iface u v ∈ iv .u32 K := List.mem_of_getElem? (by simpa using hc)
    simp [iv] at hm

end Go.Proofs.YteghfhakdpcbaaaDoor
