/- The row and the card of FrameClones. -/
import Derived.Test.YtigjmemoaapmgaaDoorRows
import Derived.Test.YtigjmemoaapmgaaDoorCards
import Derived.Test.YtigjmemoaapmgaaDoorTie
import Derived.SevenTiedAt
import Derived.Test.YtigjmemoaapmgaaDoorLawKit4
import Derived.Test.YtigjmemoaapmgaaDoorLawK
import Derived.Test.YtigjmemoaapmgaaDoorFrm19
set_option linter.unusedVariables false
namespace Go.Proofs.YtigjmemoaapmgaaDoor
open Go Go.V Go.Sha Go.Frm
open Go.ChangeShapes Go.WideShapes Go.RowKit
open Go.ChangeMaps (open_string shut_string)
def Tryd.runField0 : Field := { name := "Stream", type := 3, offset := 0, embedded := false, tag := "", pkgPath := "", byteOffset := 0 }
def Tryd.runField1 : Field := { name := "Number", type := 3, offset := 1, embedded := false, tag := "", pkgPath := "", byteOffset := 8 }
def Tryd.runField2 : Field := { name := "Payloads", type := 22, offset := 2, embedded := false, tag := "", pkgPath := "", byteOffset := 16 }
def Tryd.runField3 : Field := { name := "Before", type := 9, offset := 3, embedded := false, tag := "", pkgPath := "", byteOffset := 40 }
def Tryd.runField4 : Field := { name := "After", type := 9, offset := 4, embedded := false, tag := "", pkgPath := "", byteOffset := 56 }
def Tryd.runField5 : Field := { name := "At", type := 23, offset := 5, embedded := false, tag := "", pkgPath := "", byteOffset := 72 }
def Tryd.runField6 : Field := { name := "By", type := 24, offset := 6, embedded := false, tag := "", pkgPath := "", byteOffset := 96 }
def Tryd.runField7 : Field := { name := "Cut", type := 25, offset := 7, embedded := false, tag := "", pkgPath := "", byteOffset := 120 }
set_option maxRecDepth 100000 in
theorem clones_lifted (os : Os) (started : os.Started) (H : Type) (enc : TypeId × Value → H) :
    ReturnsInHanded {} Tryd.checked os 11 .any (fun w args => (Rows.frameClonesSpec.pre enc Tryd.prog Tryd.f11 [] false w args ∧ laidMet Tryd.prog [("replevin/sha256.constants", Rows.laid_replevin_sha256_constants), ("replevin/frame.fields", Rows.laid_replevin_frame_fields)] w) ∧ sizedMet enc Tryd.prog Tryd.f11 (OpenSpec.ofChange Rows.frameClonesSpec) false w args)
      (Rows.frameClonesSpec.post enc Tryd.prog Tryd.f11 false true false false) := by
  refine returnsInHanded_of_change_and (C := Tryd.checked) (X := fun w _ => laidMet Tryd.prog [("replevin/sha256.constants", Rows.laid_replevin_sha256_constants), ("replevin/frame.fields", Rows.laid_replevin_frame_fields)] w) (fun _ _ _ hh h => h.of_heap hh) own started (by kernel_rfl) Tryd.func11
    (ChangeSpec.witness_at (enc := enc) (C := Tryd.checked) (os := os) (X := fun w _ => laidMet Tryd.prog [("replevin/sha256.constants", Rows.laid_replevin_sha256_constants), ("replevin/frame.fields", Rows.laid_replevin_frame_fields)] w) false (laidWorld os) #[(.agg #[.int .i64 0, .int .i64 0, .slice none 0 0, .string ByteArray.empty, .string ByteArray.empty, .slice none 0 0, .slice none 0 0, .int .u16 0]), .int .u16 0, .string ByteArray.empty] 8 rfl (by kernel_rfl) (by kernel_rfl) (by kernel_rfl) (by kernel_rfl) (by kernel_rfl) (laidWorld_met os _)) ?_
  intro W base args ds gs before hval0 hW _ _ hL _
  have hval : ∀ (j : Nat) t v, Tryd.f11.params[j]? = some t → args[j]? = some v → Value.okWide Tryd.prog W .any base t v := hval0
  have hW' := hW
  obtain ⟨p, q, hA0, hV0, rfl, hfz, hnd⟩ := hW
  have hA : DataW.TrodAll enc Tryd.prog W 0 (fun _ => true) true Tryd.f11.params.toList args.toList ds p := hA0
  have hV : DataW.TrodVars enc Tryd.prog W (fun _ => true) [] gs q := hV0
  rw [Tryd.params11] at hA hval
  obtain ⟨rfl, rfl⟩ : gs = [] ∧ q = [] := by
    cases gs with
    | nil => exact ⟨rfl, hV⟩
    | cons g r => exact absurd hV (by intro h; cases h)
  obtain ⟨tK, hK⟩ := tabK hL
  obtain ⟨tF, hF⟩ := tabF hL
  have hA2 := hA
  obtain ⟨v0, vs0, d0, ds0, p0, q0, hargs, rfl, rfl, h0, r0⟩ := trodAll_cons hA
  obtain ⟨v1, vs1, d1, ds1, p1, q1, rfl, rfl, rfl, h1, r1⟩ := trodAll_cons r0
  obtain ⟨v2, vs2, d2, ds2, p2, q2, rfl, rfl, rfl, h2, r2⟩ := trodAll_cons r1
  obtain ⟨rfl, rfl, rfl⟩ := trodAll_nil r2
  obtain rfl : args = #[v0, v1, v2] := by cases args; simp_all
  obtain ⟨cs0, k0, xs0, rfl, hl0, hf0⟩ := open_struct (n := 8) (fs := [Tryd.runField0, Tryd.runField1, Tryd.runField2, Tryd.runField3, Tryd.runField4, Tryd.runField5, Tryd.runField6, Tryd.runField7]) (by kernel_rfl) (by kernel_rfl) (hval 0 27 v0 rfl rfl) h0
  obtain ⟨c0, x0, g0, e0⟩ := hf0 0 Tryd.runField0 rfl (by kernel_rfl) (by decide)
  obtain ⟨st, rfl, hst⟩ := trod_i64 Tryd.underlying3 e0
  obtain ⟨c1, x1, g1, e1⟩ := hf0 1 Tryd.runField1 rfl (by kernel_rfl) (by decide)
  obtain ⟨nb, rfl, hnb⟩ := trod_i64 Tryd.underlying3 e1
  obtain ⟨c2, x2, g2, e2⟩ := hf0 2 Tryd.runField2 rfl (by kernel_rfl) (by decide)
  obtain ⟨A, ca, L, rfl, hAr⟩ := trod_texts Tryd.underlying22 Tryd.underlying9 (by kernel_rfl) e2
  obtain ⟨c3, x3, g3, e3⟩ := hf0 3 Tryd.runField3 rfl (by kernel_rfl) (by decide)
  obtain ⟨b, rfl, hb⟩ := trod_str1 Tryd.underlying9 e3
  obtain ⟨c4, x4, g4, e4⟩ := hf0 4 Tryd.runField4 rfl (by kernel_rfl) (by decide)
  obtain ⟨a, rfl, ha⟩ := trod_str1 Tryd.underlying9 e4
  obtain ⟨c5, x5, g5, e5⟩ := hf0 5 Tryd.runField5 rfl (by kernel_rfl) (by decide)
  obtain ⟨T, ct, ts, rfl, hT, htsw⟩ := trod_numbers Tryd.underlying23 Tryd.underlying25 (by kernel_rfl) e5
  obtain ⟨c6, x6, g6, e6⟩ := hf0 6 Tryd.runField6 rfl (by kernel_rfl) (by decide)
  obtain ⟨B, cb, cs, rfl, hB⟩ := trod_bytes Tryd.underlying24 Tryd.underlying5 (by kernel_rfl) e6
  obtain ⟨c7, x7, g7, e7⟩ := hf0 7 Tryd.runField7 rfl (by kernel_rfl) (by decide)
  obtain ⟨cut, rfl, hcut⟩ := trod_u16 Tryd.underlying25 e7
  obtain rfl := eight_of hl0 g0 g1 g2 g3 g4 g5 g6 g7
  have hts : ∀ z, z ∈ ts → 0 ≤ z ∧ z ≤ 65535 := fun z hz => bounds_u16 (htsw z hz)
  obtain ⟨z1, rfl, rfl, rfl, hz1⟩ := open_int Tryd.underlying25 (hval 1 25 v1 rfl rfl) h1
  have hw1 := bounds_u16 hz1
  obtain ⟨n1, rfl⟩ : ∃ n : Nat, z1 = (n : Int) := ⟨z1.toNat, by omega⟩
  obtain ⟨s2, rfl, rfl, rfl, hs2⟩ := open_string Tryd.underlying9 (hval 2 9 v2 rfl rfl) h2
  rw [← str_eta s2]
  refine (clones_law_any st nb A T B ca ct cb cut L b a ts cs hts hcut n1 (by omega) s2.data.toList W hK hF hAr hT hB).mono fun e W' ⟨he, hc⟩ => ?_
  subst he
  have bel := hc.below
  exact ⟨_, rfl, _, _, _, [], _, [], hW', trodAll_mk1 (shut_bool Tryd.underlying4 _), args_stay laidOut bel _ _ _ _ (by kernel_rfl) hA2, rfl, bel.frame _, fun h => by cases h⟩
theorem clones_row : Rows.FrameClonesSaid :=
  OpenClaim.holds_of_wide 11 Tryd.f11 rfl rfl rfl rfl rfl rfl rfl ⟨rfl, rfl, rfl, rfl, rfl⟩ rfl rfl rfl rfl rfl (by kernel_rfl) Tryd.func11 (by kernel_rfl)
    (of_decide_eq_true (by kernel_rfl)) (by unfold Func.isWrapper; first | (rw [if_pos (by decide +kernel)]; kernel_rfl) | (rw [if_neg (by decide +kernel)]; exact ⟨rfl, rfl⟩))
    (fun os started H enc _ => clones_lifted os started H enc)
/-- The given statement. -/
theorem clones_card : Rows.FrameClonesCardSaid :=
  Claim7.holds_tied_plain_at .later [] [.data, .data] true (true, "b3231e887866c819f6d781602cfe99cf838ce088115837872c4073408a07ace6") false
    clones_row (fun _ h => by cases h) (by kernel_rfl) (fun _ h => by cases h) frameClones_row_tie rfl ⟨rfl, rfl⟩ (by kernel_rfl) rfl
    (fun f fn hf hfn => by
      obtain rfl : f = 11 := Option.some.inj ((show Tryd.prog.funcNamed "replevin/replevinlaw10.FrameClones" = some 11 by kernel_rfl).symm.trans hf) |>.symm
      obtain rfl : fn = Tryd.f11 := (Option.some.inj (Tryd.func11.symm.trans hfn)).symm
      exact ⟨by kernel_rfl, fun j t ht => by
        rw [Tryd.params11] at ht
        have hall : [27, 25, 9].all (fun t => Tryd.prog.wantsStandIn t == false) = true := by kernel_rfl
        have hm : t ∈ [27, 25, 9] := by
          have := Array.mem_of_getElem? ht
          simpa using this
        have h2 : Tryd.prog.wantsStandIn t = false := by simpa using List.all_eq_true.1 hall t hm
        exact h2⟩)
    (by kernel_rfl)
#print axioms clones_card
end Go.Proofs.YtigjmemoaapmgaaDoor
