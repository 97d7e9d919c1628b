/- What the rows lay, and a world in which it lies. -/
import Derived.Test.YtigjmemoaapmgaaDoorRows
import Derived.Test.YtigjmemoaapmgaaDoorLawKit
import Derived.Test.YtigjmemoaapmgaaDoorFrameSpec
set_option linter.unusedVariables false
namespace Go.Proofs.YtigjmemoaapmgaaDoor
open Go Go.V Go.Sha Go.Frm
open Go.ChangeShapes Go.WideShapes Go.RowKit
open Go.ChangeMaps (open_string shut_string)
theorem own : ownKnob Tryd.prog.godebug = none := by kernel_rfl
theorem laidOut : laidOutB Tryd.prog = true := by kernel_rfl
theorem globK : Tryd.prog.globalNamed "replevin/sha256.constants" = some 1 := by kernel_rfl
theorem globKt : (Tryd.prog.globals[1]?).map (·.type) = some 113 := by kernel_rfl
theorem globF : Tryd.prog.globalNamed "replevin/frame.fields" = some 0 := by kernel_rfl
theorem globFt : (Tryd.prog.globals[0]?).map (·.type) = some 87 := by kernel_rfl
theorem cells113 : Tryd.prog.cellsOf 113 = 64 := by kernel_rfl
theorem cells105 : Tryd.prog.cellsOf 105 = 1 := by kernel_rfl
theorem cells87 : Tryd.prog.cellsOf 87 = 4 := by kernel_rfl
theorem cells3 : Tryd.prog.cellsOf 3 = 1 := by kernel_rfl
/-- What the rows' tables give a walk. -/
theorem tabK {W : World} (h : laidMet Tryd.prog [("replevin/sha256.constants", Rows.laid_replevin_sha256_constants), ("replevin/frame.fields", Rows.laid_replevin_frame_fields)] W) : ∃ tK, Blk W 1 tK (iv .u32 K) :=
  tab_of_laid (List.mem_cons_self) globK globKt Tryd.underlying113 Tryd.underlying105 cells105 cells113 (by decide) h
theorem tabF {W : World} (h : laidMet Tryd.prog [("replevin/sha256.constants", Rows.laid_replevin_sha256_constants), ("replevin/frame.fields", Rows.laid_replevin_frame_fields)] W) : ∃ tF, Blk W 0 tF (iv .i64 fldL) :=
  tab_of_laid (List.mem_cons_of_mem _ (List.mem_singleton.2 rfl)) globF globFt Tryd.underlying87 Tryd.underlying3 cells3 cells87 (by decide) h
def relay (cs : List Value) : Obj → Obj
  | .cells _ t frozen => .cells cs.toArray t frozen
  | o => o
/-- A world in which the tables lie. -/
noncomputable def laidWorld (os : Os) : World :=
  { World.holding Tryd.prog os ⟨#[], #[], []⟩ with heap := ((World.holding Tryd.prog os ⟨#[], #[], []⟩).heap.modify 1 (relay (iv .u32 K))).modify 0 (relay (iv .i64 fldL)) }
theorem laidWorld_rowK (os : Os) (args : Array Value) : ((laidWorld os).forCall (fun _ _ => 0) ⟨#[], args, []⟩).memory.heap[1]? = some (.cells (iv .u32 K).toArray 113 (0, 0)) := by kernel_rfl
theorem laidWorld_rowF (os : Os) (args : Array Value) : ((laidWorld os).forCall (fun _ _ => 0) ⟨#[], args, []⟩).memory.heap[0]? = some (.cells (iv .i64 fldL).toArray 87 (0, 0)) := by kernel_rfl
theorem no_iface {k : IntKind} {l : List Int} {off : Nat} {u : TypeId} {v : Value} (h : (iv k l).toArray[off]? = some (.iface u v)) : False := by
  have hm : Value.iface u v ∈ iv k l := List.mem_of_getElem? (by simpa using h)
  simp [iv] at hm
set_option maxRecDepth 100000 in
theorem laidWorld_met (os : Os) (args : Array Value) : laidMet Tryd.prog [("replevin/sha256.constants", Rows.laid_replevin_sha256_constants), ("replevin/frame.fields", Rows.laid_replevin_frame_fields)] ((laidWorld os).forCall (fun _ _ => 0) ⟨#[], args, []⟩).memory := by
  refine ⟨_, ⟨1, 113, (iv .u32 K).toArray, 8, [], _, globK, globKt, ?_, by kernel_rfl, ⟨0, 87, (iv .i64 fldL).toArray, 8, [], [], globF, globFt, ?_, by kernel_rfl, rfl, rfl⟩, rfl⟩, by decide +kernel, fun b off h => ?_⟩
  · simp only [World.var?, globK, Option.bind_some, laidWorld_rowK]
  · simp only [World.var?, globF, Option.bind_some, laidWorld_rowF]
  · have hb : b = 1 ∨ b = 0 := by
      simp only [List.append_nil, MemPlace.row, List.mem_append, List.mem_map] at h
      rcases h with ⟨i, _, hi⟩ | ⟨i, _, hi⟩
      · injection hi with h1 h2
        exact .inl h1.symm
      · injection hi with h1 h2
        exact .inr h1.symm
    rcases hb with rfl | rfl
    · refine ⟨⟨_, _, laidWorld_rowK os args⟩, fun u v hc => ?_⟩
      simp only [World.cell?, laidWorld_rowK os args] at hc
      exact absurd (by simpa using hc) (fun hc => (no_iface hc).elim)
    · refine ⟨⟨_, _, laidWorld_rowF os args⟩, fun u v hc => ?_⟩
      simp only [World.cell?, laidWorld_rowF os args] at hc
      exact absurd (by simpa using hc) (fun hc => (no_iface hc).elim)

end Go.Proofs.YtigjmemoaapmgaaDoor
