/- What Format and Open refuse: the row and the card of RingErrors. -/
import Derived.Test.YtcologcjhenmkaaDoorRows
import Derived.Test.YtcologcjhenmkaaDoorCards
import Derived.Test.YtcologcjhenmkaaDoorTie
import Derived.SevenTiedAt
import Derived.Test.YtcologcjhenmkaaDoorKit
import Derived.Test.YtcologcjhenmkaaDoorLaw7
set_option linter.unusedVariables false
namespace Go.Proofs.YtcologcjhenmkaaDoor
open Go Go.V Go.Sha Go.Frm
open Go.ChangeShapes Go.WideShapes Go.RowKit
open Go.ChangeMaps (open_string shut_string)
set_option maxRecDepth 100000 in
theorem errors_lifted (os : Os) (started : os.Started) (H : Type) (enc : TypeId × Value → H) :
    ReturnsInHanded {} Tryd.checked os 7 .any (fun w args => (Rows.ringErrorsSpec.pre enc Tryd.prog Tryd.f7 [] false w args ∧ laidMet Tryd.prog [("replevin/sha256.constants", Rows.laid_replevin_sha256_constants), ("replevin/frame.fields", Rows.laid_replevin_frame_fields)] w) ∧ sizedMet enc Tryd.prog Tryd.f7 (OpenSpec.ofChange Rows.ringErrorsSpec) false w args)
      (Rows.ringErrorsSpec.post enc Tryd.prog Tryd.f7 false true false false) := by
  refine returnsInHanded_of_change_and (C := Tryd.checked) (X := fun w _ => laidMet Tryd.prog [("replevin/sha256.constants", Rows.laid_replevin_sha256_constants), ("replevin/frame.fields", Rows.laid_replevin_frame_fields)] w) (fun _ _ _ hh h => h.of_heap hh) own started (by kernel_rfl) Tryd.func7
    (ChangeSpec.witness_at (enc := enc) (C := Tryd.checked) (os := os) (X := fun w _ => laidMet Tryd.prog [("replevin/sha256.constants", Rows.laid_replevin_sha256_constants), ("replevin/frame.fields", Rows.laid_replevin_frame_fields)] w) false (laidWorld os) #[.int .i64 0, .int .i64 0, .agg #[.int .i64 0, .int .i64 0]] 8 rfl (by kernel_rfl) (by kernel_rfl) (by kernel_rfl) (by kernel_rfl) (by kernel_rfl) (laidWorld_met os _)) ?_
  intro W base args ds gs before hval0 hW _ _ hL _
  have hval : ∀ (j : Nat) t v, Tryd.f7.params[j]? = some t → args[j]? = some v → Value.okWide Tryd.prog W .any base t v := hval0
  have hW' := hW
  obtain ⟨p, q, hA0, hV0, rfl, hfz, hnd⟩ := hW
  have hA : DataW.TrodAll enc Tryd.prog W 0 (fun _ => true) true Tryd.f7.params.toList args.toList ds p := hA0
  have hV : DataW.TrodVars enc Tryd.prog W (fun _ => true) [] gs q := hV0
  rw [Tryd.params7] at hA hval
  obtain ⟨rfl, rfl⟩ : gs = [] ∧ q = [] := by
    cases gs with
    | nil => exact ⟨rfl, hV⟩
    | cons g r => exact absurd hV (by intro h; cases h)
  obtain ⟨tK, hK⟩ := tabK hL
  obtain ⟨tF, hF⟩ := tabF hL
  have hA2 := hA
  obtain ⟨v0, vs0, d0, ds0, p0, q0, hargs, rfl, rfl, h0, r0⟩ := trodAll_cons hA
  obtain ⟨v1, vs1, d1, ds1, p1, q1, rfl, rfl, rfl, h1, r1⟩ := trodAll_cons r0
  obtain ⟨v2, vs2, d2, ds2, p2, q2, rfl, rfl, rfl, h2, r2⟩ := trodAll_cons r1
  obtain ⟨rfl, rfl, rfl⟩ := trodAll_nil r2
  obtain rfl : args = #[v0, v1, v2] := by cases args; simp_all
  obtain ⟨z0, rfl, rfl, rfl, hz0⟩ := open_int Tryd.underlying3 (hval 0 3 v0 rfl rfl) h0
  have hw0 := bounds_i64 hz0
  obtain ⟨z1, rfl, rfl, rfl, hz1⟩ := open_int Tryd.underlying3 (hval 1 3 v1 rfl rfl) h1
  have hw1 := bounds_i64 hz1
  obtain ⟨zs2, rfl, hl2, hw2⟩ := open_arr Tryd.underlying63 Tryd.underlying3 (by kernel_rfl) (by kernel_rfl) (hval 2 63 v2 rfl rfl) h2
  obtain ⟨m0, m1, rfl⟩ := two_of hl2
  have hb0 := bounds_i64 (hw2 m0 (by simp))
  have hb1 := bounds_i64 (hw2 m1 (by simp))
  refine (errors_law_any z0 z1 m0 m1 hw0 hw1 hb0 hb1 W hK hF).mono fun e W' ⟨he, hc⟩ => ?_
  subst he
  have bel := hc.below
  exact ⟨_, rfl, _, _, _, [], _, [], hW', trodAll_mk1 (shut_bool Tryd.underlying4 _), args_stay laidOut bel _ _ _ _ (by kernel_rfl) hA2, rfl, bel.frame _, fun h => by cases h⟩
theorem errors_row : Rows.RingErrorsSaid :=
  OpenClaim.holds_of_wide 7 Tryd.f7 rfl rfl rfl rfl rfl rfl rfl ⟨rfl, rfl, rfl, rfl, rfl⟩ rfl rfl rfl rfl rfl (by kernel_rfl) Tryd.func7 (by kernel_rfl)
    (of_decide_eq_true (by kernel_rfl)) (by unfold Func.isWrapper; first | (rw [if_pos (by decide +kernel)]; kernel_rfl) | (rw [if_neg (by decide +kernel)]; exact ⟨rfl, rfl⟩))
    (fun os started H enc _ => errors_lifted os started H enc)
/-- The given statement. -/
theorem errors_card : Rows.RingErrorsCardSaid :=
  Claim7.holds_tied_plain_at .later [] [.data, .data] true (true, "ca80cd7b99ba4e05b574f2c38e84188cc5a8ee5bf7c09e65d4f5f32008b09b1b") false
    errors_row (fun _ h => by cases h) (by kernel_rfl) (fun _ h => by cases h) ringErrors_row_tie rfl ⟨rfl, rfl⟩ (by kernel_rfl) rfl
    (fun f fn hf hfn => by
      obtain rfl : f = 7 := Option.some.inj ((show Tryd.prog.funcNamed "replevin/replevinlaw11.RingErrors" = some 7 by kernel_rfl).symm.trans hf) |>.symm
      obtain rfl : fn = Tryd.f7 := (Option.some.inj (Tryd.func7.symm.trans hfn)).symm
      exact ⟨by kernel_rfl, fun j t ht => by
        rw [Tryd.params7] at ht
        have hall : [3, 3, 63].all (fun t => Tryd.prog.wantsStandIn t == false) = true := by kernel_rfl
        have hm : t ∈ [3, 3, 63] := by
          have := Array.mem_of_getElem? ht
          simpa using this
        have h2 : Tryd.prog.wantsStandIn t = false := by simpa using List.all_eq_true.1 hall t hm
        exact h2⟩)
    (by kernel_rfl)
#print axioms errors_card
end Go.Proofs.YtcologcjhenmkaaDoor
