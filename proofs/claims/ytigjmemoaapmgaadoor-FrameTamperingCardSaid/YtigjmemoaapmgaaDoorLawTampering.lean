/- The row and the card of FrameTampering. -/
import Derived.Test.YtigjmemoaapmgaaDoorRows
import Derived.Test.YtigjmemoaapmgaaDoorCards
import Derived.Test.YtigjmemoaapmgaaDoorTie
import Derived.SevenTiedAt
import Derived.Test.YtigjmemoaapmgaaDoorLawKit4
import Derived.Test.YtigjmemoaapmgaaDoorLawK
import Derived.Test.YtigjmemoaapmgaaDoorFrm10
set_option linter.unusedVariables false
namespace Go.Proofs.YtigjmemoaapmgaaDoor
open Go Go.V Go.Sha Go.Frm
open Go.ChangeShapes Go.WideShapes Go.RowKit
open Go.ChangeMaps (open_string shut_string)
set_option maxRecDepth 100000 in
theorem tampering_lifted (os : Os) (started : os.Started) (H : Type) (enc : TypeId × Value → H) :
    ReturnsInHanded {} Tryd.checked os 6 .any (fun w args => (Rows.frameTamperingSpec.pre enc Tryd.prog Tryd.f6 [] false w args ∧ laidMet Tryd.prog [("replevin/sha256.constants", Rows.laid_replevin_sha256_constants), ("replevin/frame.fields", Rows.laid_replevin_frame_fields)] w) ∧ sizedMet enc Tryd.prog Tryd.f6 (OpenSpec.ofChange Rows.frameTamperingSpec) false w args)
      (Rows.frameTamperingSpec.post enc Tryd.prog Tryd.f6 false true false false) := by
  refine returnsInHanded_of_change_and (C := Tryd.checked) (X := fun w _ => laidMet Tryd.prog [("replevin/sha256.constants", Rows.laid_replevin_sha256_constants), ("replevin/frame.fields", Rows.laid_replevin_frame_fields)] w) (fun _ _ _ hh h => h.of_heap hh) own started (by kernel_rfl) Tryd.func6
    (ChangeSpec.witness_at (enc := enc) (C := Tryd.checked) (os := os) (X := fun w _ => laidMet Tryd.prog [("replevin/sha256.constants", Rows.laid_replevin_sha256_constants), ("replevin/frame.fields", Rows.laid_replevin_frame_fields)] w) false (laidWorld os) #[(.agg #[.int .i64 0, .int .i64 0, .int .i64 0, .string ByteArray.empty]), .int .u16 0, .int .u8 0] 8 rfl (by kernel_rfl) (by kernel_rfl) (by kernel_rfl) (by kernel_rfl) (by kernel_rfl) (laidWorld_met os _)) ?_
  intro W base args ds gs before hval0 hW _ _ hL _
  have hval : ∀ (j : Nat) t v, Tryd.f6.params[j]? = some t → args[j]? = some v → Value.okWide Tryd.prog W .any base t v := hval0
  have hW' := hW
  obtain ⟨p, q, hA0, hV0, rfl, hfz, hnd⟩ := hW
  have hA : DataW.TrodAll enc Tryd.prog W 0 (fun _ => true) true Tryd.f6.params.toList args.toList ds p := hA0
  have hV : DataW.TrodVars enc Tryd.prog W (fun _ => true) [] gs q := hV0
  rw [Tryd.params6] at hA hval
  obtain ⟨rfl, rfl⟩ : gs = [] ∧ q = [] := by
    cases gs with
    | nil => exact ⟨rfl, hV⟩
    | cons g r => exact absurd hV (by intro h; cases h)
  obtain ⟨tK, hK⟩ := tabK hL
  obtain ⟨tF, hF⟩ := tabF hL
  have hA2 := hA
  obtain ⟨v0, vs0, d0, ds0, p0, q0, hargs, rfl, rfl, h0, r0⟩ := trodAll_cons hA
  obtain ⟨v1, vs1, d1, ds1, p1, q1, rfl, rfl, rfl, h1, r1⟩ := trodAll_cons r0
  obtain ⟨v2, vs2, d2, ds2, p2, q2, rfl, rfl, rfl, h2, r2⟩ := trodAll_cons r1
  obtain ⟨rfl, rfl, rfl⟩ := trodAll_nil r2
  obtain rfl : args = #[v0, v1, v2] := by cases args; simp_all
  obtain ⟨cs0, k0, xs0, rfl, hl0, hf0⟩ := open_struct (n := 4) (fs := [Tryd.refField0, Tryd.refField1, Tryd.refField2, Tryd.refField3]) (by kernel_rfl) (by kernel_rfl) (hval 0 34 v0 rfl rfl) h0
  obtain ⟨c00, x00, g00, e00⟩ := hf0 0 Tryd.refField0 rfl (by kernel_rfl) (by decide)
  obtain ⟨a00, rfl, ha00⟩ := trod_i64 Tryd.underlying3 e00
  obtain ⟨c01, x01, g01, e01⟩ := hf0 1 Tryd.refField1 rfl (by kernel_rfl) (by decide)
  obtain ⟨a01, rfl, ha01⟩ := trod_i64 Tryd.underlying3 e01
  obtain ⟨c02, x02, g02, e02⟩ := hf0 2 Tryd.refField2 rfl (by kernel_rfl) (by decide)
  obtain ⟨a02, rfl, ha02⟩ := trod_i64 Tryd.underlying3 e02
  obtain ⟨c03, x03, g03, e03⟩ := hf0 3 Tryd.refField3 rfl (by kernel_rfl) (by decide)
  obtain ⟨a03, rfl, ha03⟩ := trod_str1 Tryd.underlying9 e03
  obtain rfl := four_of hl0 g00 g01 g02 g03
  obtain ⟨z1, rfl, rfl, rfl, hz1⟩ := open_int Tryd.underlying25 (hval 1 25 v1 rfl rfl) h1
  have hw1 := bounds_u16 hz1
  obtain ⟨n1, rfl⟩ : ∃ n : Nat, z1 = (n : Int) := ⟨z1.toNat, by omega⟩
  obtain ⟨z2, rfl, rfl, rfl, hz2⟩ := open_int Tryd.underlying5 (hval 2 5 v2 rfl rfl) h2
  obtain ⟨c2, rfl⟩ := byte_u8 hz2
  refine (tampering_law_any ⟨a00, a01, a02, a03⟩ n1 (by omega) c2 W hK hF).mono fun e W' ⟨he, hc⟩ => ?_
  subst he
  have bel := hc.below
  exact ⟨_, rfl, _, _, _, [], _, [], hW', trodAll_mk1 (shut_bool Tryd.underlying4 _), args_stay laidOut bel _ _ _ _ (by kernel_rfl) hA2, rfl, bel.frame _, fun h => by cases h⟩
theorem tampering_row : Rows.FrameTamperingSaid :=
  OpenClaim.holds_of_wide 6 Tryd.f6 rfl rfl rfl rfl rfl rfl rfl ⟨rfl, rfl, rfl, rfl, rfl⟩ rfl rfl rfl rfl rfl (by kernel_rfl) Tryd.func6 (by kernel_rfl)
    (of_decide_eq_true (by kernel_rfl)) (by unfold Func.isWrapper; first | (rw [if_pos (by decide +kernel)]; kernel_rfl) | (rw [if_neg (by decide +kernel)]; exact ⟨rfl, rfl⟩))
    (fun os started H enc _ => tampering_lifted os started H enc)
/-- The given statement. -/
theorem tampering_card : Rows.FrameTamperingCardSaid :=
  Claim7.holds_tied_plain_at .later [] [.data, .data] true (true, "b3231e887866c819f6d781602cfe99cf838ce088115837872c4073408a07ace6") false
    tampering_row (fun _ h => by cases h) (by kernel_rfl) (fun _ h => by cases h) frameTampering_row_tie rfl ⟨rfl, rfl⟩ (by kernel_rfl) rfl
    (fun f fn hf hfn => by
      obtain rfl : f = 6 := Option.some.inj ((show Tryd.prog.funcNamed "replevin/replevinlaw10.FrameTampering" = some 6 by kernel_rfl).symm.trans hf) |>.symm
      obtain rfl : fn = Tryd.f6 := (Option.some.inj (Tryd.func6.symm.trans hfn)).symm
      exact ⟨by kernel_rfl, fun j t ht => by
        rw [Tryd.params6] at ht
        have hall : [34, 25, 5].all (fun t => Tryd.prog.wantsStandIn t == false) = true := by kernel_rfl
        have hm : t ∈ [34, 25, 5] := by
          have := Array.mem_of_getElem? ht
          simpa using this
        have h2 : Tryd.prog.wantsStandIn t = false := by simpa using List.all_eq_true.1 hall t hm
        exact h2⟩)
    (by kernel_rfl)
#print axioms tampering_card
end Go.Proofs.YtigjmemoaapmgaaDoor
