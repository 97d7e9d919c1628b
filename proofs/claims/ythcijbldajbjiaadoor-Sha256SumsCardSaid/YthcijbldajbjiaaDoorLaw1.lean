/- The row and the card of the first law. -/
import Derived.Test.YthcijbldajbjiaaDoorRows
import Derived.Test.YthcijbldajbjiaaDoorCards
import Derived.Test.YthcijbldajbjiaaDoorTie
import Derived.SevenTiedAt
import Derived.Test.YthcijbldajbjiaaDoorLawKit
import Derived.Test.YthcijbldajbjiaaDoorSha5
set_option linter.unusedVariables false
namespace Go.Proofs.YthcijbldajbjiaaDoor
open Go Go.V Go.Sha
open Go.ChangeShapes Go.WideShapes Go.RowKit
open Go.ChangeMaps (open_string shut_string)
theorem own : ownKnob Tryd.prog.godebug = none := by kernel_rfl
theorem laidOut : laidOutB Tryd.prog = true := by kernel_rfl
theorem globK : Tryd.prog.globalNamed "replevin/sha256.constants" = some 0 := by kernel_rfl
theorem globKt : (Tryd.prog.globals[0]?).map (·.type) = some 138 := by kernel_rfl
theorem cells138 : Tryd.prog.cellsOf 138 = 64 := by kernel_rfl
theorem cells86 : Tryd.prog.cellsOf 86 = 1 := by kernel_rfl
/-- What the row's table gives a walk. -/
theorem tabK {W : World} (h : laidMet Tryd.prog [("replevin/sha256.constants", Rows.laid_replevin_sha256_constants)] W) : ∃ tK, Blk W 0 tK (iv .u32 K) :=
  tab_of_laid (List.mem_singleton.2 rfl) globK globKt Tryd.underlying138 Tryd.underlying86 cells86 cells138 (by decide) h
/-- A world in which the table lies. -/
noncomputable def laidWorld (os : Os) : World :=
  { World.holding Tryd.prog os ⟨#[], #[], []⟩ with heap := (World.holding Tryd.prog os ⟨#[], #[], []⟩).heap.modify 0 fun
      | .cells _ t frozen => .cells (iv .u32 K).toArray t frozen
      | o => o }
theorem laidWorld_row (os : Os) (args : Array Value) : ((laidWorld os).forCall (fun _ _ => 0) ⟨#[], args, []⟩).memory.heap[0]? = some (.cells (iv .u32 K).toArray 138 (0, 0)) := by kernel_rfl
set_option maxRecDepth 100000 in
theorem laidWorld_met (os : Os) (args : Array Value) : laidMet Tryd.prog [("replevin/sha256.constants", Rows.laid_replevin_sha256_constants)] ((laidWorld os).forCall (fun _ _ => 0) ⟨#[], args, []⟩).memory := by
  refine ⟨_, ⟨0, 138, (iv .u32 K).toArray, 8, [], [], globK, globKt, ?_, by kernel_rfl, rfl, rfl⟩, by decide +kernel, fun b off h => ?_⟩
  · simp only [World.var?, globK, Option.bind_some, laidWorld_row]
  · have hb : b = 0 := by
      simp only [List.append_nil, MemPlace.row, List.mem_map] at h
      obtain ⟨i, _, hi⟩ := h
      injection hi with h1 h2
      exact h1.symm
    subst hb
    refine ⟨⟨_, _, laidWorld_row os args⟩, fun u v hc => ?_⟩
    simp only [World.cell?, laidWorld_row os args] at hc
    exfalso
    have hm : Value.iface u v ∈ iv .u32 K := List.mem_of_getElem? (by simpa using hc)
    simp [iv] at hm

set_option maxRecDepth 100000 in
theorem sums_lifted (os : Os) (started : os.Started) (H : Type) (enc : TypeId × Value → H) :
    ReturnsInHanded {} Tryd.checked os 3 .any (fun w args => (Rows.sha256SumsSpec.pre enc Tryd.prog Tryd.f3 [] false w args ∧ laidMet Tryd.prog [("replevin/sha256.constants", Rows.laid_replevin_sha256_constants)] w) ∧ sizedMet enc Tryd.prog Tryd.f3 (OpenSpec.ofChange Rows.sha256SumsSpec) false w args)
      (Rows.sha256SumsSpec.post enc Tryd.prog Tryd.f3 false true false false) := by
  refine returnsInHanded_of_change_and (C := Tryd.checked) (X := fun w _ => laidMet Tryd.prog [("replevin/sha256.constants", Rows.laid_replevin_sha256_constants)] w) (fun _ _ _ hh h => h.of_heap hh) own started (by kernel_rfl) Tryd.func3
    (ChangeSpec.witness_at (enc := enc) (C := Tryd.checked) (os := os) (X := fun w _ => laidMet Tryd.prog [("replevin/sha256.constants", Rows.laid_replevin_sha256_constants)] w) false (laidWorld os) #[.string ⟨#[]⟩] 8 rfl (by kernel_rfl) (by kernel_rfl) (by kernel_rfl) (by kernel_rfl) (by kernel_rfl) (laidWorld_met os _)) ?_
  intro W base args ds gs before hval0 hW _ _ hL _
  have hval : ∀ (j : Nat) t v, Tryd.f3.params[j]? = some t → args[j]? = some v → Value.okWide Tryd.prog W .any base t v := hval0
  have hW' := hW
  obtain ⟨p, q, hA0, hV0, rfl, hfz, hnd⟩ := hW
  have hA : DataW.TrodAll enc Tryd.prog W 0 (fun _ => true) true Tryd.f3.params.toList args.toList ds p := hA0
  have hV : DataW.TrodVars enc Tryd.prog W (fun _ => true) [] gs q := hV0
  rw [Tryd.params3] at hA hval
  obtain ⟨rfl, rfl⟩ : gs = [] ∧ q = [] := by
    cases gs with
    | nil => exact ⟨rfl, hV⟩
    | cons g r => exact absurd hV (by intro h; cases h)
  obtain ⟨tK, hK⟩ := tabK hL
  have hA2 := hA
  obtain ⟨v0, vs0, d0, ds0, p0, q0, hargs, rfl, rfl, h0, r0⟩ := trodAll_cons hA
  obtain ⟨rfl, rfl, rfl⟩ := trodAll_nil r0
  obtain rfl : args = #[v0] := by cases args; simp_all
  obtain ⟨s0, rfl, rfl, rfl, hs0⟩ := open_string Tryd.underlying9 (hval 0 9 v0 rfl rfl) h0
  rw [← str_eta s0]
  refine (sums_law_any s0.data.toList W hK).mono fun e W' ⟨he, hc⟩ => ?_
  subst he
  have bel := hc.below
  exact ⟨_, rfl, _, _, _, [], _, [], hW', trodAll_mk1 (shut_bool Tryd.underlying4 _), args_stay laidOut bel _ _ _ _ (by kernel_rfl) hA2, rfl, bel.frame _, fun h => by cases h⟩
theorem sums_row : Rows.Sha256SumsSaid :=
  OpenClaim.holds_of_wide 3 Tryd.f3 rfl rfl rfl rfl rfl rfl rfl ⟨rfl, rfl, rfl, rfl, rfl⟩ rfl rfl rfl rfl rfl (by kernel_rfl) Tryd.func3 (by kernel_rfl)
    (of_decide_eq_true (by kernel_rfl)) (by unfold Func.isWrapper; first | (rw [if_pos (by decide +kernel)]; kernel_rfl) | (rw [if_neg (by decide +kernel)]; exact ⟨rfl, rfl⟩))
    (fun os started H enc _ => sums_lifted os started H enc)
/-- The given statement. -/
theorem sums_card : Rows.Sha256SumsCardSaid :=
  Claim7.holds_tied_plain_at .later [] [.data] true (true, "61efe0852b774bfdbc5364b5be814b136bf993e0ac459b05ab54d2d8d84f59e6") false
    sums_row (fun _ h => by cases h) (by kernel_rfl) (fun _ h => by cases h) sha256Sums_row_tie rfl ⟨rfl, rfl⟩ (by kernel_rfl) rfl
    (fun f fn hf hfn => by
      obtain rfl : f = 3 := Option.some.inj ((show Tryd.prog.funcNamed "replevin/replevinlaw02.Sha256Sums" = some 3 by kernel_rfl).symm.trans hf) |>.symm
      obtain rfl : fn = Tryd.f3 := (Option.some.inj (Tryd.func3.symm.trans hfn)).symm
      exact ⟨by kernel_rfl, fun j t ht => by
        rw [Tryd.params3] at ht
        have hall : [9].all (fun t => Tryd.prog.wantsStandIn t == false) = true := by kernel_rfl
        have hm : t ∈ [9] := by
          have := Array.mem_of_getElem? ht
          simpa using this
        have h2 : Tryd.prog.wantsStandIn t = false := by simpa using List.all_eq_true.1 hall t hm
        exact h2⟩)
    (by kernel_rfl)
#print axioms sums_card
end Go.Proofs.YthcijbldajbjiaaDoor
