/-
  DERIVED. GIVEN WITH THE SEED: THE CARDS: each row of YtcologcjhenmkaaDoorRows.lean that lists a variable, with what it lists TIED to the program's text (the seventh form; the later family's looks); each row that meets fmt, with fmt's text TOLD by the authors' own Lean function (tested against real Go, not proved from fmt's source: count such statements apart). THE CARD IS WHAT COUNTS. Prove the row's statement (the work); the ties are given (YtcologcjhenmkaaDoorTie.lean); close each card by the builder's one call (the guide's Derived/Test/ToyasCard.lean, 'card_holds'). Laid BY PROGRAM, IN A SANDBOX (cutbox-door.mjs). By AI agents, Wed Nov 11 2026. No macro, syntax, notation, axiom, sorry.
-/
import Derived.Test.YtcologcjhenmkaaDoorRows
import GoSem.ClaimSeven
namespace Go.Proofs.YtcologcjhenmkaaDoor
namespace Rows

/-- THE TIED CARD OF 'replevinlaw11.RingFormats'. -/
def ringFormatsCard : Claim7 := { stood := { row := ringFormatsRow, standIns := [], harness := (true, "ca80cd7b99ba4e05b574f2c38e84188cc5a8ee5bf7c09e65d4f5f32008b09b1b"), looks := false }, kinds := [], alts := [], laidByText := true, laidKinds := [.data, .data], laidTests := true, laidLooks := .later }
def RingFormatsCardSaid : Prop := Claim7.holds Tryd.pinned (.plain (OpenSpec.ofChange ringFormatsSpec)) ringFormatsCard

/-- THE TIED CARD OF 'replevinlaw11.RingTurns'. -/
def ringTurnsCard : Claim7 := { stood := { row := ringTurnsRow, standIns := [], harness := (true, "ca80cd7b99ba4e05b574f2c38e84188cc5a8ee5bf7c09e65d4f5f32008b09b1b"), looks := false }, kinds := [], alts := [], laidByText := true, laidKinds := [.data, .data], laidTests := true, laidLooks := .later }
def RingTurnsCardSaid : Prop := Claim7.holds Tryd.pinned (.plain (OpenSpec.ofChange ringTurnsSpec)) ringTurnsCard

/-- THE TIED CARD OF 'replevinlaw11.RingEntries'. -/
def ringEntriesCard : Claim7 := { stood := { row := ringEntriesRow, standIns := [], harness := (true, "ca80cd7b99ba4e05b574f2c38e84188cc5a8ee5bf7c09e65d4f5f32008b09b1b"), looks := false }, kinds := [], alts := [], laidByText := true, laidKinds := [.data, .data], laidTests := true, laidLooks := .later }
def RingEntriesCardSaid : Prop := Claim7.holds Tryd.pinned (.plain (OpenSpec.ofChange ringEntriesSpec)) ringEntriesCard

/-- THE TIED CARD OF 'replevinlaw11.RingOthers'. -/
def ringOthersCard : Claim7 := { stood := { row := ringOthersRow, standIns := [], harness := (true, "ca80cd7b99ba4e05b574f2c38e84188cc5a8ee5bf7c09e65d4f5f32008b09b1b"), looks := false }, kinds := [], alts := [], laidByText := true, laidKinds := [.data, .data], laidTests := true, laidLooks := .later }
def RingOthersCardSaid : Prop := Claim7.holds Tryd.pinned (.plain (OpenSpec.ofChange ringOthersSpec)) ringOthersCard

/-- THE TIED CARD OF 'replevinlaw11.RingErrors'. -/
def ringErrorsCard : Claim7 := { stood := { row := ringErrorsRow, standIns := [], harness := (true, "ca80cd7b99ba4e05b574f2c38e84188cc5a8ee5bf7c09e65d4f5f32008b09b1b"), looks := false }, kinds := [], alts := [], laidByText := true, laidKinds := [.data, .data], laidTests := true, laidLooks := .later }
def RingErrorsCardSaid : Prop := Claim7.holds Tryd.pinned (.plain (OpenSpec.ofChange ringErrorsSpec)) ringErrorsCard

/-- THE SECOND FORM's CARD OF 'replevinlaw11.RingFormats'. -/
def ringFormatsUptoCard : Claim7 := { stood := { row := ringFormatsUptoRow, standIns := [], harness := (true, "ca80cd7b99ba4e05b574f2c38e84188cc5a8ee5bf7c09e65d4f5f32008b09b1b"), looks := false }, kinds := [], alts := [], laidByText := true, laidKinds := [.data, .data], laidTests := true, laidLooks := .later }
def RingFormatsUptoCardSaid : Prop := Claim7.holds Tryd.pinned (.plain (OpenSpec.upto ringFormatsSpec)) ringFormatsUptoCard

/-- THE SECOND FORM's CARD OF 'replevinlaw11.RingTurns'. -/
def ringTurnsUptoCard : Claim7 := { stood := { row := ringTurnsUptoRow, standIns := [], harness := (true, "ca80cd7b99ba4e05b574f2c38e84188cc5a8ee5bf7c09e65d4f5f32008b09b1b"), looks := false }, kinds := [], alts := [], laidByText := true, laidKinds := [.data, .data], laidTests := true, laidLooks := .later }
def RingTurnsUptoCardSaid : Prop := Claim7.holds Tryd.pinned (.plain (OpenSpec.upto ringTurnsSpec)) ringTurnsUptoCard

/-- THE SECOND FORM's CARD OF 'replevinlaw11.RingEntries'. -/
def ringEntriesUptoCard : Claim7 := { stood := { row := ringEntriesUptoRow, standIns := [], harness := (true, "ca80cd7b99ba4e05b574f2c38e84188cc5a8ee5bf7c09e65d4f5f32008b09b1b"), looks := false }, kinds := [], alts := [], laidByText := true, laidKinds := [.data, .data], laidTests := true, laidLooks := .later }
def RingEntriesUptoCardSaid : Prop := Claim7.holds Tryd.pinned (.plain (OpenSpec.upto ringEntriesSpec)) ringEntriesUptoCard

/-- THE SECOND FORM's CARD OF 'replevinlaw11.RingOthers'. -/
def ringOthersUptoCard : Claim7 := { stood := { row := ringOthersUptoRow, standIns := [], harness := (true, "ca80cd7b99ba4e05b574f2c38e84188cc5a8ee5bf7c09e65d4f5f32008b09b1b"), looks := false }, kinds := [], alts := [], laidByText := true, laidKinds := [.data, .data], laidTests := true, laidLooks := .later }
def RingOthersUptoCardSaid : Prop := Claim7.holds Tryd.pinned (.plain (OpenSpec.upto ringOthersSpec)) ringOthersUptoCard

/-- THE SECOND FORM's CARD OF 'replevinlaw11.RingErrors'. -/
def ringErrorsUptoCard : Claim7 := { stood := { row := ringErrorsUptoRow, standIns := [], harness := (true, "ca80cd7b99ba4e05b574f2c38e84188cc5a8ee5bf7c09e65d4f5f32008b09b1b"), looks := false }, kinds := [], alts := [], laidByText := true, laidKinds := [.data, .data], laidTests := true, laidLooks := .later }
def RingErrorsUptoCardSaid : Prop := Claim7.holds Tryd.pinned (.plain (OpenSpec.upto ringErrorsSpec)) ringErrorsUptoCard
end Rows
end Go.Proofs.YtcologcjhenmkaaDoor
