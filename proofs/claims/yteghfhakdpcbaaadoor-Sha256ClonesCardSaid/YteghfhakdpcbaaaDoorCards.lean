/-
  DERIVED. GIVEN WITH THE SEED: THE CARDS: each row of YteghfhakdpcbaaaDoorRows.lean that lists a variable, with what it lists TIED to the program's text (the seventh form; the later family's looks); each row that meets fmt, with fmt's text TOLD by the authors' own Lean function (tested against real Go, not proved from fmt's source: count such statements apart). THE CARD IS WHAT COUNTS. Prove the row's statement (the work); the ties are given (YteghfhakdpcbaaaDoorTie.lean); close each card by the builder's one call (the guide's Derived/Test/ToyasCard.lean, 'card_holds'). Laid BY PROGRAM, IN A SANDBOX (cutbox-door.mjs). By AI agents, Wed Nov 11 2026. No macro, syntax, notation, axiom, sorry.
-/
import Derived.Test.YteghfhakdpcbaaaDoorRows
import GoSem.ClaimSeven
namespace Go.Proofs.YteghfhakdpcbaaaDoor
namespace Rows

/-- THE TIED CARD OF 'replevinlaw02.Sha256Sums'. -/
def sha256SumsCard : Claim7 := { stood := { row := sha256SumsRow, standIns := [], harness := (true, "032f838bb692539491656c6c64392b68571e2ead4df792a061b2ba9636517f49"), looks := false }, kinds := [], alts := [], laidByText := true, laidKinds := [.data], laidTests := true, laidLooks := .later }
def Sha256SumsCardSaid : Prop := Claim7.holds Tryd.pinned (.plain (OpenSpec.ofChange sha256SumsSpec)) sha256SumsCard

/-- THE TIED CARD OF 'replevinlaw02.Sha256Lengths'. -/
def sha256LengthsCard : Claim7 := { stood := { row := sha256LengthsRow, standIns := [], harness := (true, "032f838bb692539491656c6c64392b68571e2ead4df792a061b2ba9636517f49"), looks := false }, kinds := [], alts := [], laidByText := true, laidKinds := [.data], laidTests := true, laidLooks := .later }
def Sha256LengthsCardSaid : Prop := Claim7.holds Tryd.pinned (.plain (OpenSpec.ofChange sha256LengthsSpec)) sha256LengthsCard

/-- THE TIED CARD OF 'replevinlaw02.Sha256Compares'. -/
def sha256ComparesCard : Claim7 := { stood := { row := sha256ComparesRow, standIns := [], harness := (true, "032f838bb692539491656c6c64392b68571e2ead4df792a061b2ba9636517f49"), looks := false }, kinds := [], alts := [], laidByText := true, laidKinds := [.data], laidTests := true, laidLooks := .later }
def Sha256ComparesCardSaid : Prop := Claim7.holds Tryd.pinned (.plain (OpenSpec.ofChange sha256ComparesSpec)) sha256ComparesCard

/-- THE TIED CARD OF 'replevinlaw02.Sha256Apart'. -/
def sha256ApartCard : Claim7 := { stood := { row := sha256ApartRow, standIns := [], harness := (true, "032f838bb692539491656c6c64392b68571e2ead4df792a061b2ba9636517f49"), looks := false }, kinds := [], alts := [], laidByText := true, laidKinds := [.data], laidTests := true, laidLooks := .later }
def Sha256ApartCardSaid : Prop := Claim7.holds Tryd.pinned (.plain (OpenSpec.ofChange sha256ApartSpec)) sha256ApartCard

/-- THE TIED CARD OF 'replevinlaw02.Sha256Pieces'. -/
def sha256PiecesCard : Claim7 := { stood := { row := sha256PiecesRow, standIns := [], harness := (true, "032f838bb692539491656c6c64392b68571e2ead4df792a061b2ba9636517f49"), looks := false }, kinds := [], alts := [], laidByText := true, laidKinds := [.data], laidTests := true, laidLooks := .later }
def Sha256PiecesCardSaid : Prop := Claim7.holds Tryd.pinned (.plain (OpenSpec.ofChange sha256PiecesSpec)) sha256PiecesCard

/-- THE TIED CARD OF 'replevinlaw02.Sha256Joins'. -/
def sha256JoinsCard : Claim7 := { stood := { row := sha256JoinsRow, standIns := [], harness := (true, "032f838bb692539491656c6c64392b68571e2ead4df792a061b2ba9636517f49"), looks := false }, kinds := [], alts := [], laidByText := true, laidKinds := [.data], laidTests := true, laidLooks := .later }
def Sha256JoinsCardSaid : Prop := Claim7.holds Tryd.pinned (.plain (OpenSpec.ofChange sha256JoinsSpec)) sha256JoinsCard

/-- THE TIED CARD OF 'replevinlaw02.Sha256Many'. -/
def sha256ManyCard : Claim7 := { stood := { row := sha256ManyRow, standIns := [], harness := (true, "032f838bb692539491656c6c64392b68571e2ead4df792a061b2ba9636517f49"), looks := false }, kinds := [], alts := [], laidByText := true, laidKinds := [.data], laidTests := true, laidLooks := .later }
def Sha256ManyCardSaid : Prop := Claim7.holds Tryd.pinned (.plain (OpenSpec.ofChange sha256ManySpec)) sha256ManyCard

/-- THE TIED CARD OF 'replevinlaw02.Sha256Parses'. -/
def sha256ParsesCard : Claim7 := { stood := { row := sha256ParsesRow, standIns := [], harness := (true, "032f838bb692539491656c6c64392b68571e2ead4df792a061b2ba9636517f49"), looks := false }, kinds := [], alts := [], laidByText := true, laidKinds := [.data], laidTests := true, laidLooks := .later }
def Sha256ParsesCardSaid : Prop := Claim7.holds Tryd.pinned (.plain (OpenSpec.ofChange sha256ParsesSpec)) sha256ParsesCard

/-- THE TIED CARD OF 'replevinlaw02.Sha256Texts'. -/
def sha256TextsCard : Claim7 := { stood := { row := sha256TextsRow, standIns := [], harness := (true, "032f838bb692539491656c6c64392b68571e2ead4df792a061b2ba9636517f49"), looks := false }, kinds := [], alts := [], laidByText := true, laidKinds := [.data], laidTests := true, laidLooks := .later }
def Sha256TextsCardSaid : Prop := Claim7.holds Tryd.pinned (.plain (OpenSpec.ofChange sha256TextsSpec)) sha256TextsCard

/-- THE TIED CARD OF 'replevinlaw02.Sha256Clones'. -/
def sha256ClonesCard : Claim7 := { stood := { row := sha256ClonesRow, standIns := [], harness := (true, "032f838bb692539491656c6c64392b68571e2ead4df792a061b2ba9636517f49"), looks := false }, kinds := [], alts := [], laidByText := true, laidKinds := [.data], laidTests := true, laidLooks := .later }
def Sha256ClonesCardSaid : Prop := Claim7.holds Tryd.pinned (.plain (OpenSpec.ofChange sha256ClonesSpec)) sha256ClonesCard

/-- THE SECOND FORM's CARD OF 'replevinlaw02.Sha256Sums'. -/
def sha256SumsUptoCard : Claim7 := { stood := { row := sha256SumsUptoRow, standIns := [], harness := (true, "032f838bb692539491656c6c64392b68571e2ead4df792a061b2ba9636517f49"), looks := false }, kinds := [], alts := [], laidByText := true, laidKinds := [.data], laidTests := true, laidLooks := .later }
def Sha256SumsUptoCardSaid : Prop := Claim7.holds Tryd.pinned (.plain (OpenSpec.upto sha256SumsSpec)) sha256SumsUptoCard

/-- THE SECOND FORM's CARD OF 'replevinlaw02.Sha256Lengths'. -/
def sha256LengthsUptoCard : Claim7 := { stood := { row := sha256LengthsUptoRow, standIns := [], harness := (true, "032f838bb692539491656c6c64392b68571e2ead4df792a061b2ba9636517f49"), looks := false }, kinds := [], alts := [], laidByText := true, laidKinds := [.data], laidTests := true, laidLooks := .later }
def Sha256LengthsUptoCardSaid : Prop := Claim7.holds Tryd.pinned (.plain (OpenSpec.upto sha256LengthsSpec)) sha256LengthsUptoCard

/-- THE SECOND FORM's CARD OF 'replevinlaw02.Sha256Compares'. -/
def sha256ComparesUptoCard : Claim7 := { stood := { row := sha256ComparesUptoRow, standIns := [], harness := (true, "032f838bb692539491656c6c64392b68571e2ead4df792a061b2ba9636517f49"), looks := false }, kinds := [], alts := [], laidByText := true, laidKinds := [.data], laidTests := true, laidLooks := .later }
def Sha256ComparesUptoCardSaid : Prop := Claim7.holds Tryd.pinned (.plain (OpenSpec.upto sha256ComparesSpec)) sha256ComparesUptoCard

/-- THE SECOND FORM's CARD OF 'replevinlaw02.Sha256Apart'. -/
def sha256ApartUptoCard : Claim7 := { stood := { row := sha256ApartUptoRow, standIns := [], harness := (true, "032f838bb692539491656c6c64392b68571e2ead4df792a061b2ba9636517f49"), looks := false }, kinds := [], alts := [], laidByText := true, laidKinds := [.data], laidTests := true, laidLooks := .later }
def Sha256ApartUptoCardSaid : Prop := Claim7.holds Tryd.pinned (.plain (OpenSpec.upto sha256ApartSpec)) sha256ApartUptoCard

/-- THE SECOND FORM's CARD OF 'replevinlaw02.Sha256Pieces'. -/
def sha256PiecesUptoCard : Claim7 := { stood := { row := sha256PiecesUptoRow, standIns := [], harness := (true, "032f838bb692539491656c6c64392b68571e2ead4df792a061b2ba9636517f49"), looks := false }, kinds := [], alts := [], laidByText := true, laidKinds := [.data], laidTests := true, laidLooks := .later }
def Sha256PiecesUptoCardSaid : Prop := Claim7.holds Tryd.pinned (.plain (OpenSpec.upto sha256PiecesSpec)) sha256PiecesUptoCard

/-- THE SECOND FORM's CARD OF 'replevinlaw02.Sha256Joins'. -/
def sha256JoinsUptoCard : Claim7 := { stood := { row := sha256JoinsUptoRow, standIns := [], harness := (true, "032f838bb692539491656c6c64392b68571e2ead4df792a061b2ba9636517f49"), looks := false }, kinds := [], alts := [], laidByText := true, laidKinds := [.data], laidTests := true, laidLooks := .later }
def Sha256JoinsUptoCardSaid : Prop := Claim7.holds Tryd.pinned (.plain (OpenSpec.upto sha256JoinsSpec)) sha256JoinsUptoCard

/-- THE SECOND FORM's CARD OF 'replevinlaw02.Sha256Many'. -/
def sha256ManyUptoCard : Claim7 := { stood := { row := sha256ManyUptoRow, standIns := [], harness := (true, "032f838bb692539491656c6c64392b68571e2ead4df792a061b2ba9636517f49"), looks := false }, kinds := [], alts := [], laidByText := true, laidKinds := [.data], laidTests := true, laidLooks := .later }
def Sha256ManyUptoCardSaid : Prop := Claim7.holds Tryd.pinned (.plain (OpenSpec.upto sha256ManySpec)) sha256ManyUptoCard

/-- THE SECOND FORM's CARD OF 'replevinlaw02.Sha256Parses'. -/
def sha256ParsesUptoCard : Claim7 := { stood := { row := sha256ParsesUptoRow, standIns := [], harness := (true, "032f838bb692539491656c6c64392b68571e2ead4df792a061b2ba9636517f49"), looks := false }, kinds := [], alts := [], laidByText := true, laidKinds := [.data], laidTests := true, laidLooks := .later }
def Sha256ParsesUptoCardSaid : Prop := Claim7.holds Tryd.pinned (.plain (OpenSpec.upto sha256ParsesSpec)) sha256ParsesUptoCard

/-- THE SECOND FORM's CARD OF 'replevinlaw02.Sha256Texts'. -/
def sha256TextsUptoCard : Claim7 := { stood := { row := sha256TextsUptoRow, standIns := [], harness := (true, "032f838bb692539491656c6c64392b68571e2ead4df792a061b2ba9636517f49"), looks := false }, kinds := [], alts := [], laidByText := true, laidKinds := [.data], laidTests := true, laidLooks := .later }
def Sha256TextsUptoCardSaid : Prop := Claim7.holds Tryd.pinned (.plain (OpenSpec.upto sha256TextsSpec)) sha256TextsUptoCard

/-- THE SECOND FORM's CARD OF 'replevinlaw02.Sha256Clones'. -/
def sha256ClonesUptoCard : Claim7 := { stood := { row := sha256ClonesUptoRow, standIns := [], harness := (true, "032f838bb692539491656c6c64392b68571e2ead4df792a061b2ba9636517f49"), looks := false }, kinds := [], alts := [], laidByText := true, laidKinds := [.data], laidTests := true, laidLooks := .later }
def Sha256ClonesUptoCardSaid : Prop := Claim7.holds Tryd.pinned (.plain (OpenSpec.upto sha256ClonesSpec)) sha256ClonesUptoCard
end Rows
end Go.Proofs.YteghfhakdpcbaaaDoor
