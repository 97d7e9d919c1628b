/-
  NARROWER THAN 'FOR EVERY INPUT', by the rows' own cells (each row's printed sentence says how): Sha256Sums: laid · Sha256Lengths: laid · Sha256Compares: laid · Sha256Apart: laid · Sha256Pieces: laid · Sha256Joins: laid · Sha256Many: laid · Sha256Parses: laid · Sha256Texts: laid · Sha256Clones: laid.
  DERIVED. THE GIVEN ROWS OF THIS SEAT. 10 by the template 'for every input the law returns true; each argument reads behind the call as it read before'; 0 by the template 'total and deterministic' (their statements: YteghfhakdpcbaaaDoorTotals.lean).
  GIVEN WITH THE SEED: the statements are not yours to turn. If you find one false, say at which input.
  Laid BY PROGRAM, IN A SANDBOX (cutbox-rows.mjs): the forced cells as the released guide's own fill.sh prints them over the translation c8d1f178f2243924… (all of the seat's roots in one cut). By AI agents, Wed Nov 11 2026. No macro, syntax, notation, axiom, sorry.
-/
import Derived.Test.YteghfhakdpcbaaaDoorChecked
import GoSem.Claim
import GoSem.ClaimJoined
import GoSem.ClaimMapViews
import Derived.JoinedTies
import Derived.KernelRfl
namespace Go.Proofs.YteghfhakdpcbaaaDoor
/- THE CELL 'sum', in the pinned program and in every row, IS THE sha256 OF THE DUMP (.gsa) THAT YteghfhakdpcbaaaDoorProg.lean LOADS. Nothing in Lean hashes anything: it is a label: what it is worth is what the hold of that sum in a sandbox is worth. -/
noncomputable def Tryd.pinned : Pinned := { name := "yteghfhakdpcbaaadoor", sum := "c8d1f178f22439240515811cc9378221293dc63dd61df8441a321c74f4ffc85b", checked := Tryd.checked }
namespace Rows
def none {H : Type} : Left H := { results := [], args := [] }

/- WHAT THE LISTED PACKAGE-LEVEL VARIABLES READ AS WHEN THE CALL BEGINS. Each datum BY PROGRAM (the guide's laid-datum.mjs) off the statement by which the dump's own 'gosem.cut.vars' lays the variable. In a bare row this is a premise. The card (YteghfhakdpcbaaaDoorCards.lean) ties it to the program's text. -/
def laid_replevin_sha256_constants {H : Type} : DataW H := .agg [.lit (.int .u32 1116352408), .lit (.int .u32 1899447441), .lit (.int .u32 3049323471), .lit (.int .u32 3921009573), .lit (.int .u32 961987163), .lit (.int .u32 1508970993), .lit (.int .u32 2453635748), .lit (.int .u32 2870763221), .lit (.int .u32 3624381080), .lit (.int .u32 310598401), .lit (.int .u32 607225278), .lit (.int .u32 1426881987), .lit (.int .u32 1925078388), .lit (.int .u32 2162078206), .lit (.int .u32 2614888103), .lit (.int .u32 3248222580), .lit (.int .u32 3835390401), .lit (.int .u32 4022224774), .lit (.int .u32 264347078), .lit (.int .u32 604807628), .lit (.int .u32 770255983), .lit (.int .u32 1249150122), .lit (.int .u32 1555081692), .lit (.int .u32 1996064986), .lit (.int .u32 2554220882), .lit (.int .u32 2821834349), .lit (.int .u32 2952996808), .lit (.int .u32 3210313671), .lit (.int .u32 3336571891), .lit (.int .u32 3584528711), .lit (.int .u32 113926993), .lit (.int .u32 338241895), .lit (.int .u32 666307205), .lit (.int .u32 773529912), .lit (.int .u32 1294757372), .lit (.int .u32 1396182291), .lit (.int .u32 1695183700), .lit (.int .u32 1986661051), .lit (.int .u32 2177026350), .lit (.int .u32 2456956037), .lit (.int .u32 2730485921), .lit (.int .u32 2820302411), .lit (.int .u32 3259730800), .lit (.int .u32 3345764771), .lit (.int .u32 3516065817), .lit (.int .u32 3600352804), .lit (.int .u32 4094571909), .lit (.int .u32 275423344), .lit (.int .u32 430227734), .lit (.int .u32 506948616), .lit (.int .u32 659060556), .lit (.int .u32 883997877), .lit (.int .u32 958139571), .lit (.int .u32 1322822218), .lit (.int .u32 1537002063), .lit (.int .u32 1747873779), .lit (.int .u32 1955562222), .lit (.int .u32 2024104815), .lit (.int .u32 2227730452), .lit (.int .u32 2361852424), .lit (.int .u32 2428436474), .lit (.int .u32 2756734187), .lit (.int .u32 3204031479), .lit (.int .u32 3329325298)]

/-- 'replevinlaw02.Sha256Sums': WHATEVER THE INPUT: true; the input reads as it did. -/
def sha256SumsSpec : ChangeSpec := { name := "sha256Sums", fn := fun _ => fun
  | [d] => { results := [.lit (.bool true)], args := [d] }
  | _ => none }
def sha256SumsRow : OpenClaim := { program := "yteghfhakdpcbaaadoor", sum := "c8d1f178f22439240515811cc9378221293dc63dd61df8441a321c74f4ffc85b", func := "replevin/replevinlaw02.Sha256Sums", spec := "sha256Sums", named := ["replevin/sha256.constants"], apart := false, laid := [("replevin/sha256.constants", laid_replevin_sha256_constants)] }
def Sha256SumsSaid : Prop := sha256SumsRow.holds Tryd.pinned (OpenSpec.ofChange sha256SumsSpec)

/-- ITS FALSE NEIGHBOUR: 'it returns false'. Refute it at one input. -/
def sha256SumsWrong : ChangeSpec := { name := "sha256Sums", fn := fun _ => fun
  | [d] => { results := [.lit (.bool false)], args := [d] }
  | _ => none }
def Sha256SumsWrongFalsely : Prop := sha256SumsRow.holds Tryd.pinned (OpenSpec.ofChange sha256SumsWrong)

/-- 'replevinlaw02.Sha256Lengths': WHATEVER THE INPUT: true; the input reads as it did. -/
def sha256LengthsSpec : ChangeSpec := { name := "sha256Lengths", fn := fun _ => fun
  | [d1, d2] => { results := [.lit (.bool true)], args := [d1, d2] }
  | _ => none }
def sha256LengthsRow : OpenClaim := { program := "yteghfhakdpcbaaadoor", sum := "c8d1f178f22439240515811cc9378221293dc63dd61df8441a321c74f4ffc85b", func := "replevin/replevinlaw02.Sha256Lengths", spec := "sha256Lengths", named := ["replevin/sha256.constants"], apart := false, laid := [("replevin/sha256.constants", laid_replevin_sha256_constants)] }
def Sha256LengthsSaid : Prop := sha256LengthsRow.holds Tryd.pinned (OpenSpec.ofChange sha256LengthsSpec)

/-- ITS FALSE NEIGHBOUR: 'it returns false'. Refute it at one input. -/
def sha256LengthsWrong : ChangeSpec := { name := "sha256Lengths", fn := fun _ => fun
  | [d1, d2] => { results := [.lit (.bool false)], args := [d1, d2] }
  | _ => none }
def Sha256LengthsWrongFalsely : Prop := sha256LengthsRow.holds Tryd.pinned (OpenSpec.ofChange sha256LengthsWrong)

/-- 'replevinlaw02.Sha256Compares': WHATEVER THE INPUT: true; the input reads as it did. -/
def sha256ComparesSpec : ChangeSpec := { name := "sha256Compares", fn := fun _ => fun
  | [d1, d2, d3] => { results := [.lit (.bool true)], args := [d1, d2, d3] }
  | _ => none }
def sha256ComparesRow : OpenClaim := { program := "yteghfhakdpcbaaadoor", sum := "c8d1f178f22439240515811cc9378221293dc63dd61df8441a321c74f4ffc85b", func := "replevin/replevinlaw02.Sha256Compares", spec := "sha256Compares", named := ["replevin/sha256.constants"], apart := false, laid := [("replevin/sha256.constants", laid_replevin_sha256_constants)] }
def Sha256ComparesSaid : Prop := sha256ComparesRow.holds Tryd.pinned (OpenSpec.ofChange sha256ComparesSpec)

/-- ITS FALSE NEIGHBOUR: 'it returns false'. Refute it at one input. -/
def sha256ComparesWrong : ChangeSpec := { name := "sha256Compares", fn := fun _ => fun
  | [d1, d2, d3] => { results := [.lit (.bool false)], args := [d1, d2, d3] }
  | _ => none }
def Sha256ComparesWrongFalsely : Prop := sha256ComparesRow.holds Tryd.pinned (OpenSpec.ofChange sha256ComparesWrong)

/-- 'replevinlaw02.Sha256Apart': WHATEVER THE INPUT: true; the input reads as it did. -/
def sha256ApartSpec : ChangeSpec := { name := "sha256Apart", fn := fun _ => fun
  | [d1, d2, d3] => { results := [.lit (.bool true)], args := [d1, d2, d3] }
  | _ => none }
def sha256ApartRow : OpenClaim := { program := "yteghfhakdpcbaaadoor", sum := "c8d1f178f22439240515811cc9378221293dc63dd61df8441a321c74f4ffc85b", func := "replevin/replevinlaw02.Sha256Apart", spec := "sha256Apart", named := ["replevin/sha256.constants"], apart := false, laid := [("replevin/sha256.constants", laid_replevin_sha256_constants)] }
def Sha256ApartSaid : Prop := sha256ApartRow.holds Tryd.pinned (OpenSpec.ofChange sha256ApartSpec)

/-- ITS FALSE NEIGHBOUR: 'it returns false'. Refute it at one input. -/
def sha256ApartWrong : ChangeSpec := { name := "sha256Apart", fn := fun _ => fun
  | [d1, d2, d3] => { results := [.lit (.bool false)], args := [d1, d2, d3] }
  | _ => none }
def Sha256ApartWrongFalsely : Prop := sha256ApartRow.holds Tryd.pinned (OpenSpec.ofChange sha256ApartWrong)

/-- 'replevinlaw02.Sha256Pieces': WHATEVER THE INPUT: true; the input reads as it did. -/
def sha256PiecesSpec : ChangeSpec := { name := "sha256Pieces", fn := fun _ => fun
  | [d1, d2, d3] => { results := [.lit (.bool true)], args := [d1, d2, d3] }
  | _ => none }
def sha256PiecesRow : OpenClaim := { program := "yteghfhakdpcbaaadoor", sum := "c8d1f178f22439240515811cc9378221293dc63dd61df8441a321c74f4ffc85b", func := "replevin/replevinlaw02.Sha256Pieces", spec := "sha256Pieces", named := ["replevin/sha256.constants"], apart := false, laid := [("replevin/sha256.constants", laid_replevin_sha256_constants)] }
def Sha256PiecesSaid : Prop := sha256PiecesRow.holds Tryd.pinned (OpenSpec.ofChange sha256PiecesSpec)

/-- ITS FALSE NEIGHBOUR: 'it returns false'. Refute it at one input. -/
def sha256PiecesWrong : ChangeSpec := { name := "sha256Pieces", fn := fun _ => fun
  | [d1, d2, d3] => { results := [.lit (.bool false)], args := [d1, d2, d3] }
  | _ => none }
def Sha256PiecesWrongFalsely : Prop := sha256PiecesRow.holds Tryd.pinned (OpenSpec.ofChange sha256PiecesWrong)

/-- 'replevinlaw02.Sha256Joins': WHATEVER THE INPUT: true; the input reads as it did. -/
def sha256JoinsSpec : ChangeSpec := { name := "sha256Joins", fn := fun _ => fun
  | [d1, d2] => { results := [.lit (.bool true)], args := [d1, d2] }
  | _ => none }
def sha256JoinsRow : OpenClaim := { program := "yteghfhakdpcbaaadoor", sum := "c8d1f178f22439240515811cc9378221293dc63dd61df8441a321c74f4ffc85b", func := "replevin/replevinlaw02.Sha256Joins", spec := "sha256Joins", named := ["replevin/sha256.constants"], apart := false, laid := [("replevin/sha256.constants", laid_replevin_sha256_constants)] }
def Sha256JoinsSaid : Prop := sha256JoinsRow.holds Tryd.pinned (OpenSpec.ofChange sha256JoinsSpec)

/-- ITS FALSE NEIGHBOUR: 'it returns false'. Refute it at one input. -/
def sha256JoinsWrong : ChangeSpec := { name := "sha256Joins", fn := fun _ => fun
  | [d1, d2] => { results := [.lit (.bool false)], args := [d1, d2] }
  | _ => none }
def Sha256JoinsWrongFalsely : Prop := sha256JoinsRow.holds Tryd.pinned (OpenSpec.ofChange sha256JoinsWrong)

/-- 'replevinlaw02.Sha256Many': WHATEVER THE INPUT: true; the input reads as it did. -/
def sha256ManySpec : ChangeSpec := { name := "sha256Many", fn := fun _ => fun
  | [d1, d2] => { results := [.lit (.bool true)], args := [d1, d2] }
  | _ => none }
def sha256ManyRow : OpenClaim := { program := "yteghfhakdpcbaaadoor", sum := "c8d1f178f22439240515811cc9378221293dc63dd61df8441a321c74f4ffc85b", func := "replevin/replevinlaw02.Sha256Many", spec := "sha256Many", named := ["replevin/sha256.constants"], apart := false, laid := [("replevin/sha256.constants", laid_replevin_sha256_constants)] }
def Sha256ManySaid : Prop := sha256ManyRow.holds Tryd.pinned (OpenSpec.ofChange sha256ManySpec)

/-- ITS FALSE NEIGHBOUR: 'it returns false'. Refute it at one input. -/
def sha256ManyWrong : ChangeSpec := { name := "sha256Many", fn := fun _ => fun
  | [d1, d2] => { results := [.lit (.bool false)], args := [d1, d2] }
  | _ => none }
def Sha256ManyWrongFalsely : Prop := sha256ManyRow.holds Tryd.pinned (OpenSpec.ofChange sha256ManyWrong)

/-- 'replevinlaw02.Sha256Parses': WHATEVER THE INPUT: true; the input reads as it did. -/
def sha256ParsesSpec : ChangeSpec := { name := "sha256Parses", fn := fun _ => fun
  | [d] => { results := [.lit (.bool true)], args := [d] }
  | _ => none }
def sha256ParsesRow : OpenClaim := { program := "yteghfhakdpcbaaadoor", sum := "c8d1f178f22439240515811cc9378221293dc63dd61df8441a321c74f4ffc85b", func := "replevin/replevinlaw02.Sha256Parses", spec := "sha256Parses", named := ["replevin/sha256.constants"], apart := false, laid := [("replevin/sha256.constants", laid_replevin_sha256_constants)] }
def Sha256ParsesSaid : Prop := sha256ParsesRow.holds Tryd.pinned (OpenSpec.ofChange sha256ParsesSpec)

/-- ITS FALSE NEIGHBOUR: 'it returns false'. Refute it at one input. -/
def sha256ParsesWrong : ChangeSpec := { name := "sha256Parses", fn := fun _ => fun
  | [d] => { results := [.lit (.bool false)], args := [d] }
  | _ => none }
def Sha256ParsesWrongFalsely : Prop := sha256ParsesRow.holds Tryd.pinned (OpenSpec.ofChange sha256ParsesWrong)

/-- 'replevinlaw02.Sha256Texts': WHATEVER THE INPUT: true; the input reads as it did. -/
def sha256TextsSpec : ChangeSpec := { name := "sha256Texts", fn := fun _ => fun
  | [d] => { results := [.lit (.bool true)], args := [d] }
  | _ => none }
def sha256TextsRow : OpenClaim := { program := "yteghfhakdpcbaaadoor", sum := "c8d1f178f22439240515811cc9378221293dc63dd61df8441a321c74f4ffc85b", func := "replevin/replevinlaw02.Sha256Texts", spec := "sha256Texts", named := ["replevin/sha256.constants"], apart := false, laid := [("replevin/sha256.constants", laid_replevin_sha256_constants)] }
def Sha256TextsSaid : Prop := sha256TextsRow.holds Tryd.pinned (OpenSpec.ofChange sha256TextsSpec)

/-- ITS FALSE NEIGHBOUR: 'it returns false'. Refute it at one input. -/
def sha256TextsWrong : ChangeSpec := { name := "sha256Texts", fn := fun _ => fun
  | [d] => { results := [.lit (.bool false)], args := [d] }
  | _ => none }
def Sha256TextsWrongFalsely : Prop := sha256TextsRow.holds Tryd.pinned (OpenSpec.ofChange sha256TextsWrong)

/-- 'replevinlaw02.Sha256Clones': WHATEVER THE INPUT: true; the input reads as it did. -/
def sha256ClonesSpec : ChangeSpec := { name := "sha256Clones", fn := fun _ => fun
  | [d1, d2] => { results := [.lit (.bool true)], args := [d1, d2] }
  | _ => none }
def sha256ClonesRow : OpenClaim := { program := "yteghfhakdpcbaaadoor", sum := "c8d1f178f22439240515811cc9378221293dc63dd61df8441a321c74f4ffc85b", func := "replevin/replevinlaw02.Sha256Clones", spec := "sha256Clones", named := ["replevin/sha256.constants"], apart := false, laid := [("replevin/sha256.constants", laid_replevin_sha256_constants)] }
def Sha256ClonesSaid : Prop := sha256ClonesRow.holds Tryd.pinned (OpenSpec.ofChange sha256ClonesSpec)

/-- ITS FALSE NEIGHBOUR: 'it returns false'. Refute it at one input. -/
def sha256ClonesWrong : ChangeSpec := { name := "sha256Clones", fn := fun _ => fun
  | [d1, d2] => { results := [.lit (.bool false)], args := [d1, d2] }
  | _ => none }
def Sha256ClonesWrongFalsely : Prop := sha256ClonesRow.holds Tryd.pinned (OpenSpec.ofChange sha256ClonesWrong)

/- THE SECOND FORM. 'bulk': how many values and letters a reading holds, each counted each time it is reached (what is shared counts as often as it is met; a slice's spare places count too). A statement '..UptoSaid' is the law's where the arguments, and the package variables that the reading takes, are together of bulk at most 1048576: NARROWER than '..Said'. Prove '..Said' where nothing that the law and all that it calls make is longer than what came in: it says more and counts as full. Else prove '..UptoSaid'. A law counts once. -/
mutual
def uptoBulk {H : Type} : DataW H → Nat
  | .lit (.string bytes) => bytes.length + 1
  | .lit _ => 1
  | .nil => 1
  | .ptr d => uptoBulk d + 1
  | .slice elems spare => uptoBulkAll elems + uptoBulkAll spare + 1
  | .agg parts => uptoBulkAll parts + 1
  | .iface _ d => uptoBulk d + 1
  | .map entries => uptoBulkEntries entries + 1
  | .held _ => 1
def uptoBulkAll {H : Type} : List (DataW H) → Nat
  | [] => 0
  | d :: r => uptoBulk d + uptoBulkAll r
def uptoBulkEntries {H : Type} : List (Lit × DataW H) → Nat
  | [] => 0
  | x :: r => uptoBulkEntry x + uptoBulkEntries r
def uptoBulkEntry {H : Type} : Lit × DataW H → Nat
  | (.string bytes, d) => bytes.length + uptoBulk d + 1
  | (_, d) => uptoBulk d + 1
 end
def uptoSmall : (H : Type) → List (DataW H) → Bool := fun _ ds => decide (uptoBulkAll ds ≤ 1048576)
def OpenSpec.upto (s : _root_.Go.ChangeSpec) : _root_.Go.OpenSpec := { _root_.Go.OpenSpec.ofChange s with cond := some uptoSmall }

/-- 'replevinlaw02.Sha256Sums', WHERE WHAT IT READS IS OF BULK AT MOST 1048576: true; the input reads as it did. -/
def sha256SumsUptoRow : OpenClaim := { program := "yteghfhakdpcbaaadoor", sum := "c8d1f178f22439240515811cc9378221293dc63dd61df8441a321c74f4ffc85b", func := "replevin/replevinlaw02.Sha256Sums", spec := "sha256Sums", named := ["replevin/sha256.constants"], apart := false, laid := [("replevin/sha256.constants", laid_replevin_sha256_constants)], narrowed := true }
def Sha256SumsUptoSaid : Prop := sha256SumsUptoRow.holds Tryd.pinned (OpenSpec.upto sha256SumsSpec)

/-- 'replevinlaw02.Sha256Lengths', WHERE WHAT IT READS IS OF BULK AT MOST 1048576: true; the input reads as it did. -/
def sha256LengthsUptoRow : OpenClaim := { program := "yteghfhakdpcbaaadoor", sum := "c8d1f178f22439240515811cc9378221293dc63dd61df8441a321c74f4ffc85b", func := "replevin/replevinlaw02.Sha256Lengths", spec := "sha256Lengths", named := ["replevin/sha256.constants"], apart := false, laid := [("replevin/sha256.constants", laid_replevin_sha256_constants)], narrowed := true }
def Sha256LengthsUptoSaid : Prop := sha256LengthsUptoRow.holds Tryd.pinned (OpenSpec.upto sha256LengthsSpec)

/-- 'replevinlaw02.Sha256Compares', WHERE WHAT IT READS IS OF BULK AT MOST 1048576: true; the input reads as it did. -/
def sha256ComparesUptoRow : OpenClaim := { program := "yteghfhakdpcbaaadoor", sum := "c8d1f178f22439240515811cc9378221293dc63dd61df8441a321c74f4ffc85b", func := "replevin/replevinlaw02.Sha256Compares", spec := "sha256Compares", named := ["replevin/sha256.constants"], apart := false, laid := [("replevin/sha256.constants", laid_replevin_sha256_constants)], narrowed := true }
def Sha256ComparesUptoSaid : Prop := sha256ComparesUptoRow.holds Tryd.pinned (OpenSpec.upto sha256ComparesSpec)

/-- 'replevinlaw02.Sha256Apart', WHERE WHAT IT READS IS OF BULK AT MOST 1048576: true; the input reads as it did. -/
def sha256ApartUptoRow : OpenClaim := { program := "yteghfhakdpcbaaadoor", sum := "c8d1f178f22439240515811cc9378221293dc63dd61df8441a321c74f4ffc85b", func := "replevin/replevinlaw02.Sha256Apart", spec := "sha256Apart", named := ["replevin/sha256.constants"], apart := false, laid := [("replevin/sha256.constants", laid_replevin_sha256_constants)], narrowed := true }
def Sha256ApartUptoSaid : Prop := sha256ApartUptoRow.holds Tryd.pinned (OpenSpec.upto sha256ApartSpec)

/-- 'replevinlaw02.Sha256Pieces', WHERE WHAT IT READS IS OF BULK AT MOST 1048576: true; the input reads as it did. -/
def sha256PiecesUptoRow : OpenClaim := { program := "yteghfhakdpcbaaadoor", sum := "c8d1f178f22439240515811cc9378221293dc63dd61df8441a321c74f4ffc85b", func := "replevin/replevinlaw02.Sha256Pieces", spec := "sha256Pieces", named := ["replevin/sha256.constants"], apart := false, laid := [("replevin/sha256.constants", laid_replevin_sha256_constants)], narrowed := true }
def Sha256PiecesUptoSaid : Prop := sha256PiecesUptoRow.holds Tryd.pinned (OpenSpec.upto sha256PiecesSpec)

/-- 'replevinlaw02.Sha256Joins', WHERE WHAT IT READS IS OF BULK AT MOST 1048576: true; the input reads as it did. -/
def sha256JoinsUptoRow : OpenClaim := { program := "yteghfhakdpcbaaadoor", sum := "c8d1f178f22439240515811cc9378221293dc63dd61df8441a321c74f4ffc85b", func := "replevin/replevinlaw02.Sha256Joins", spec := "sha256Joins", named := ["replevin/sha256.constants"], apart := false, laid := [("replevin/sha256.constants", laid_replevin_sha256_constants)], narrowed := true }
def Sha256JoinsUptoSaid : Prop := sha256JoinsUptoRow.holds Tryd.pinned (OpenSpec.upto sha256JoinsSpec)

/-- 'replevinlaw02.Sha256Many', WHERE WHAT IT READS IS OF BULK AT MOST 1048576: true; the input reads as it did. -/
def sha256ManyUptoRow : OpenClaim := { program := "yteghfhakdpcbaaadoor", sum := "c8d1f178f22439240515811cc9378221293dc63dd61df8441a321c74f4ffc85b", func := "replevin/replevinlaw02.Sha256Many", spec := "sha256Many", named := ["replevin/sha256.constants"], apart := false, laid := [("replevin/sha256.constants", laid_replevin_sha256_constants)], narrowed := true }
def Sha256ManyUptoSaid : Prop := sha256ManyUptoRow.holds Tryd.pinned (OpenSpec.upto sha256ManySpec)

/-- 'replevinlaw02.Sha256Parses', WHERE WHAT IT READS IS OF BULK AT MOST 1048576: true; the input reads as it did. -/
def sha256ParsesUptoRow : OpenClaim := { program := "yteghfhakdpcbaaadoor", sum := "c8d1f178f22439240515811cc9378221293dc63dd61df8441a321c74f4ffc85b", func := "replevin/replevinlaw02.Sha256Parses", spec := "sha256Parses", named := ["replevin/sha256.constants"], apart := false, laid := [("replevin/sha256.constants", laid_replevin_sha256_constants)], narrowed := true }
def Sha256ParsesUptoSaid : Prop := sha256ParsesUptoRow.holds Tryd.pinned (OpenSpec.upto sha256ParsesSpec)

/-- 'replevinlaw02.Sha256Texts', WHERE WHAT IT READS IS OF BULK AT MOST 1048576: true; the input reads as it did. -/
def sha256TextsUptoRow : OpenClaim := { program := "yteghfhakdpcbaaadoor", sum := "c8d1f178f22439240515811cc9378221293dc63dd61df8441a321c74f4ffc85b", func := "replevin/replevinlaw02.Sha256Texts", spec := "sha256Texts", named := ["replevin/sha256.constants"], apart := false, laid := [("replevin/sha256.constants", laid_replevin_sha256_constants)], narrowed := true }
def Sha256TextsUptoSaid : Prop := sha256TextsUptoRow.holds Tryd.pinned (OpenSpec.upto sha256TextsSpec)

/-- 'replevinlaw02.Sha256Clones', WHERE WHAT IT READS IS OF BULK AT MOST 1048576: true; the input reads as it did. -/
def sha256ClonesUptoRow : OpenClaim := { program := "yteghfhakdpcbaaadoor", sum := "c8d1f178f22439240515811cc9378221293dc63dd61df8441a321c74f4ffc85b", func := "replevin/replevinlaw02.Sha256Clones", spec := "sha256Clones", named := ["replevin/sha256.constants"], apart := false, laid := [("replevin/sha256.constants", laid_replevin_sha256_constants)], narrowed := true }
def Sha256ClonesUptoSaid : Prop := sha256ClonesUptoRow.holds Tryd.pinned (OpenSpec.upto sha256ClonesSpec)

end Rows
end Go.Proofs.YteghfhakdpcbaaaDoor
