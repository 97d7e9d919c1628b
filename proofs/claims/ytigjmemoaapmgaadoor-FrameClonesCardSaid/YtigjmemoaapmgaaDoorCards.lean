/-
  DERIVED. GIVEN WITH THE SEED: THE CARDS: each row of YtigjmemoaapmgaaDoorRows.lean that lists a variable, with what it lists TIED to the program's text (the seventh form; the later family's looks); each row that meets fmt, with fmt's text TOLD by the authors' own Lean function (tested against real Go, not proved from fmt's source: count such statements apart). THE CARD IS WHAT COUNTS. Prove the row's statement (the work); the ties are given (YtigjmemoaapmgaaDoorTie.lean); close each card by the builder's one call (the guide's Derived/Test/ToyasCard.lean, 'card_holds'). Laid BY PROGRAM, IN A SANDBOX (cutbox-door.mjs). By AI agents, Wed Nov 11 2026. No macro, syntax, notation, axiom, sorry.
-/
import Derived.Test.YtigjmemoaapmgaaDoorRows
import GoSem.ClaimSeven
namespace Go.Proofs.YtigjmemoaapmgaaDoor
namespace Rows

/-- THE TIED CARD OF 'replevinlaw10.FrameDecodes'. -/
def frameDecodesCard : Claim7 := { stood := { row := frameDecodesRow, standIns := [], harness := (true, "b3231e887866c819f6d781602cfe99cf838ce088115837872c4073408a07ace6"), looks := false }, kinds := [], alts := [], laidByText := true, laidKinds := [.data, .data], laidTests := true, laidLooks := .later }
def FrameDecodesCardSaid : Prop := Claim7.holds Tryd.pinned (.plain (OpenSpec.ofChange frameDecodesSpec)) frameDecodesCard

/-- THE TIED CARD OF 'replevinlaw10.FrameHeaders'. -/
def frameHeadersCard : Claim7 := { stood := { row := frameHeadersRow, standIns := [], harness := (true, "b3231e887866c819f6d781602cfe99cf838ce088115837872c4073408a07ace6"), looks := false }, kinds := [], alts := [], laidByText := true, laidKinds := [.data, .data], laidTests := true, laidLooks := .later }
def FrameHeadersCardSaid : Prop := Claim7.holds Tryd.pinned (.plain (OpenSpec.ofChange frameHeadersSpec)) frameHeadersCard

/-- THE TIED CARD OF 'replevinlaw10.FramePrefixes'. -/
def framePrefixesCard : Claim7 := { stood := { row := framePrefixesRow, standIns := [], harness := (true, "b3231e887866c819f6d781602cfe99cf838ce088115837872c4073408a07ace6"), looks := false }, kinds := [], alts := [], laidByText := true, laidKinds := [.data, .data], laidTests := true, laidLooks := .later }
def FramePrefixesCardSaid : Prop := Claim7.holds Tryd.pinned (.plain (OpenSpec.ofChange framePrefixesSpec)) framePrefixesCard

/-- THE TIED CARD OF 'replevinlaw10.FrameTampering'. -/
def frameTamperingCard : Claim7 := { stood := { row := frameTamperingRow, standIns := [], harness := (true, "b3231e887866c819f6d781602cfe99cf838ce088115837872c4073408a07ace6"), looks := false }, kinds := [], alts := [], laidByText := true, laidKinds := [.data, .data], laidTests := true, laidLooks := .later }
def FrameTamperingCardSaid : Prop := Claim7.holds Tryd.pinned (.plain (OpenSpec.ofChange frameTamperingSpec)) frameTamperingCard

/-- THE TIED CARD OF 'replevinlaw10.FrameEncodes'. -/
def frameEncodesCard : Claim7 := { stood := { row := frameEncodesRow, standIns := [], harness := (true, "b3231e887866c819f6d781602cfe99cf838ce088115837872c4073408a07ace6"), looks := false }, kinds := [], alts := [], laidByText := true, laidKinds := [.data, .data], laidTests := true, laidLooks := .later }
def FrameEncodesCardSaid : Prop := Claim7.holds Tryd.pinned (.plain (OpenSpec.ofChange frameEncodesSpec)) frameEncodesCard

/-- THE TIED CARD OF 'replevinlaw10.FrameSizes'. -/
def frameSizesCard : Claim7 := { stood := { row := frameSizesRow, standIns := [], harness := (true, "b3231e887866c819f6d781602cfe99cf838ce088115837872c4073408a07ace6"), looks := false }, kinds := [], alts := [], laidByText := true, laidKinds := [.data, .data], laidTests := true, laidLooks := .later }
def FrameSizesCardSaid : Prop := Claim7.holds Tryd.pinned (.plain (OpenSpec.ofChange frameSizesSpec)) frameSizesCard

/-- THE TIED CARD OF 'replevinlaw10.FrameSalvages'. -/
def frameSalvagesCard : Claim7 := { stood := { row := frameSalvagesRow, standIns := [], harness := (true, "b3231e887866c819f6d781602cfe99cf838ce088115837872c4073408a07ace6"), looks := false }, kinds := [], alts := [], laidByText := true, laidKinds := [.data, .data], laidTests := true, laidLooks := .later }
def FrameSalvagesCardSaid : Prop := Claim7.holds Tryd.pinned (.plain (OpenSpec.ofChange frameSalvagesSpec)) frameSalvagesCard

/-- THE TIED CARD OF 'replevinlaw10.FrameScans'. -/
def frameScansCard : Claim7 := { stood := { row := frameScansRow, standIns := [], harness := (true, "b3231e887866c819f6d781602cfe99cf838ce088115837872c4073408a07ace6"), looks := false }, kinds := [], alts := [], laidByText := true, laidKinds := [.data, .data], laidTests := true, laidLooks := .later }
def FrameScansCardSaid : Prop := Claim7.holds Tryd.pinned (.plain (OpenSpec.ofChange frameScansSpec)) frameScansCard

/-- THE TIED CARD OF 'replevinlaw10.FrameClones'. -/
def frameClonesCard : Claim7 := { stood := { row := frameClonesRow, standIns := [], harness := (true, "b3231e887866c819f6d781602cfe99cf838ce088115837872c4073408a07ace6"), looks := false }, kinds := [], alts := [], laidByText := true, laidKinds := [.data, .data], laidTests := true, laidLooks := .later }
def FrameClonesCardSaid : Prop := Claim7.holds Tryd.pinned (.plain (OpenSpec.ofChange frameClonesSpec)) frameClonesCard

/-- THE SECOND FORM's CARD OF 'replevinlaw10.FrameDecodes'. -/
def frameDecodesUptoCard : Claim7 := { stood := { row := frameDecodesUptoRow, standIns := [], harness := (true, "b3231e887866c819f6d781602cfe99cf838ce088115837872c4073408a07ace6"), looks := false }, kinds := [], alts := [], laidByText := true, laidKinds := [.data, .data], laidTests := true, laidLooks := .later }
def FrameDecodesUptoCardSaid : Prop := Claim7.holds Tryd.pinned (.plain (OpenSpec.upto frameDecodesSpec)) frameDecodesUptoCard

/-- THE SECOND FORM's CARD OF 'replevinlaw10.FrameHeaders'. -/
def frameHeadersUptoCard : Claim7 := { stood := { row := frameHeadersUptoRow, standIns := [], harness := (true, "b3231e887866c819f6d781602cfe99cf838ce088115837872c4073408a07ace6"), looks := false }, kinds := [], alts := [], laidByText := true, laidKinds := [.data, .data], laidTests := true, laidLooks := .later }
def FrameHeadersUptoCardSaid : Prop := Claim7.holds Tryd.pinned (.plain (OpenSpec.upto frameHeadersSpec)) frameHeadersUptoCard

/-- THE SECOND FORM's CARD OF 'replevinlaw10.FramePrefixes'. -/
def framePrefixesUptoCard : Claim7 := { stood := { row := framePrefixesUptoRow, standIns := [], harness := (true, "b3231e887866c819f6d781602cfe99cf838ce088115837872c4073408a07ace6"), looks := false }, kinds := [], alts := [], laidByText := true, laidKinds := [.data, .data], laidTests := true, laidLooks := .later }
def FramePrefixesUptoCardSaid : Prop := Claim7.holds Tryd.pinned (.plain (OpenSpec.upto framePrefixesSpec)) framePrefixesUptoCard

/-- THE SECOND FORM's CARD OF 'replevinlaw10.FrameTampering'. -/
def frameTamperingUptoCard : Claim7 := { stood := { row := frameTamperingUptoRow, standIns := [], harness := (true, "b3231e887866c819f6d781602cfe99cf838ce088115837872c4073408a07ace6"), looks := false }, kinds := [], alts := [], laidByText := true, laidKinds := [.data, .data], laidTests := true, laidLooks := .later }
def FrameTamperingUptoCardSaid : Prop := Claim7.holds Tryd.pinned (.plain (OpenSpec.upto frameTamperingSpec)) frameTamperingUptoCard

/-- THE SECOND FORM's CARD OF 'replevinlaw10.FrameEncodes'. -/
def frameEncodesUptoCard : Claim7 := { stood := { row := frameEncodesUptoRow, standIns := [], harness := (true, "b3231e887866c819f6d781602cfe99cf838ce088115837872c4073408a07ace6"), looks := false }, kinds := [], alts := [], laidByText := true, laidKinds := [.data, .data], laidTests := true, laidLooks := .later }
def FrameEncodesUptoCardSaid : Prop := Claim7.holds Tryd.pinned (.plain (OpenSpec.upto frameEncodesSpec)) frameEncodesUptoCard

/-- THE SECOND FORM's CARD OF 'replevinlaw10.FrameSizes'. -/
def frameSizesUptoCard : Claim7 := { stood := { row := frameSizesUptoRow, standIns := [], harness := (true, "b3231e887866c819f6d781602cfe99cf838ce088115837872c4073408a07ace6"), looks := false }, kinds := [], alts := [], laidByText := true, laidKinds := [.data, .data], laidTests := true, laidLooks := .later }
def FrameSizesUptoCardSaid : Prop := Claim7.holds Tryd.pinned (.plain (OpenSpec.upto frameSizesSpec)) frameSizesUptoCard

/-- THE SECOND FORM's CARD OF 'replevinlaw10.FrameSalvages'. -/
def frameSalvagesUptoCard : Claim7 := { stood := { row := frameSalvagesUptoRow, standIns := [], harness := (true, "b3231e887866c819f6d781602cfe99cf838ce088115837872c4073408a07ace6"), looks := false }, kinds := [], alts := [], laidByText := true, laidKinds := [.data, .data], laidTests := true, laidLooks := .later }
def FrameSalvagesUptoCardSaid : Prop := Claim7.holds Tryd.pinned (.plain (OpenSpec.upto frameSalvagesSpec)) frameSalvagesUptoCard

/-- THE SECOND FORM's CARD OF 'replevinlaw10.FrameScans'. -/
def frameScansUptoCard : Claim7 := { stood := { row := frameScansUptoRow, standIns := [], harness := (true, "b3231e887866c819f6d781602cfe99cf838ce088115837872c4073408a07ace6"), looks := false }, kinds := [], alts := [], laidByText := true, laidKinds := [.data, .data], laidTests := true, laidLooks := .later }
def FrameScansUptoCardSaid : Prop := Claim7.holds Tryd.pinned (.plain (OpenSpec.upto frameScansSpec)) frameScansUptoCard

/-- THE SECOND FORM's CARD OF 'replevinlaw10.FrameClones'. -/
def frameClonesUptoCard : Claim7 := { stood := { row := frameClonesUptoRow, standIns := [], harness := (true, "b3231e887866c819f6d781602cfe99cf838ce088115837872c4073408a07ace6"), looks := false }, kinds := [], alts := [], laidByText := true, laidKinds := [.data, .data], laidTests := true, laidLooks := .later }
def FrameClonesUptoCardSaid : Prop := Claim7.holds Tryd.pinned (.plain (OpenSpec.upto frameClonesSpec)) frameClonesUptoCard
end Rows
end Go.Proofs.YtigjmemoaapmgaaDoor
