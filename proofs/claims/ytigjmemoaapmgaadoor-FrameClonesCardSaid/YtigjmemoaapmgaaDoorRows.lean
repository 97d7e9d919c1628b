/-
  NARROWER THAN 'FOR EVERY INPUT', by the rows' own cells (each row's printed sentence says how): FrameDecodes: laid · FrameHeaders: laid · FramePrefixes: laid · FrameTampering: laid · FrameEncodes: laid · FrameSizes: laid · FrameSalvages: laid · FrameScans: laid · FrameClones: laid.
  DERIVED. THE GIVEN ROWS OF THIS SEAT. 9 by the template 'for every input the law returns true; each argument reads behind the call as it read before'; 0 by the template 'total and deterministic' (their statements: YtigjmemoaapmgaaDoorTotals.lean).
  GIVEN WITH THE SEED: the statements are not yours to turn. If you find one false, say at which input.
  Laid BY PROGRAM, IN A SANDBOX (cutbox-rows.mjs): the forced cells as the released guide's own fill.sh prints them over the translation 1323a013b09b1669… (all of the seat's roots in one cut). By AI agents, Wed Nov 11 2026. No macro, syntax, notation, axiom, sorry.
-/
import Derived.Test.YtigjmemoaapmgaaDoorChecked
import GoSem.Claim
import GoSem.ClaimJoined
import GoSem.ClaimMapViews
import Derived.JoinedTies
import Derived.KernelRfl
namespace Go.Proofs.YtigjmemoaapmgaaDoor
/- THE CELL 'sum', in the pinned program and in every row, IS THE sha256 OF THE DUMP (.gsa) THAT YtigjmemoaapmgaaDoorProg.lean LOADS. Nothing in Lean hashes anything: it is a label: what it is worth is what the hold of that sum in a sandbox is worth. -/
noncomputable def Tryd.pinned : Pinned := { name := "ytigjmemoaapmgaadoor", sum := "1323a013b09b16693b43dafe08f2827e1a835a1eb130510413ecf8ff2c1f2f33", checked := Tryd.checked }
namespace Rows
def none {H : Type} : Left H := { results := [], args := [] }

/- WHAT THE LISTED PACKAGE-LEVEL VARIABLES READ AS WHEN THE CALL BEGINS. Each datum BY PROGRAM (the guide's laid-datum.mjs) off the statement by which the dump's own 'gosem.cut.vars' lays the variable. In a bare row this is a premise. The card (YtigjmemoaapmgaaDoorCards.lean) ties it to the program's text. -/
def laid_replevin_sha256_constants {H : Type} : DataW H := .agg [.lit (.int .u32 1116352408), .lit (.int .u32 1899447441), .lit (.int .u32 3049323471), .lit (.int .u32 3921009573), .lit (.int .u32 961987163), .lit (.int .u32 1508970993), .lit (.int .u32 2453635748), .lit (.int .u32 2870763221), .lit (.int .u32 3624381080), .lit (.int .u32 310598401), .lit (.int .u32 607225278), .lit (.int .u32 1426881987), .lit (.int .u32 1925078388), .lit (.int .u32 2162078206), .lit (.int .u32 2614888103), .lit (.int .u32 3248222580), .lit (.int .u32 3835390401), .lit (.int .u32 4022224774), .lit (.int .u32 264347078), .lit (.int .u32 604807628), .lit (.int .u32 770255983), .lit (.int .u32 1249150122), .lit (.int .u32 1555081692), .lit (.int .u32 1996064986), .lit (.int .u32 2554220882), .lit (.int .u32 2821834349), .lit (.int .u32 2952996808), .lit (.int .u32 3210313671), .lit (.int .u32 3336571891), .lit (.int .u32 3584528711), .lit (.int .u32 113926993), .lit (.int .u32 338241895), .lit (.int .u32 666307205), .lit (.int .u32 773529912), .lit (.int .u32 1294757372), .lit (.int .u32 1396182291), .lit (.int .u32 1695183700), .lit (.int .u32 1986661051), .lit (.int .u32 2177026350), .lit (.int .u32 2456956037), .lit (.int .u32 2730485921), .lit (.int .u32 2820302411), .lit (.int .u32 3259730800), .lit (.int .u32 3345764771), .lit (.int .u32 3516065817), .lit (.int .u32 3600352804), .lit (.int .u32 4094571909), .lit (.int .u32 275423344), .lit (.int .u32 430227734), .lit (.int .u32 506948616), .lit (.int .u32 659060556), .lit (.int .u32 883997877), .lit (.int .u32 958139571), .lit (.int .u32 1322822218), .lit (.int .u32 1537002063), .lit (.int .u32 1747873779), .lit (.int .u32 1955562222), .lit (.int .u32 2024104815), .lit (.int .u32 2227730452), .lit (.int .u32 2361852424), .lit (.int .u32 2428436474), .lit (.int .u32 2756734187), .lit (.int .u32 3204031479), .lit (.int .u32 3329325298)]
def laid_replevin_frame_fields {H : Type} : DataW H := .agg [.lit (.int .i64 1), .lit (.int .i64 4), .lit (.int .i64 8), .lit (.int .i64 4)]

/-- 'replevinlaw10.FrameDecodes': WHATEVER THE INPUT: true; the input reads as it did. -/
def frameDecodesSpec : ChangeSpec := { name := "frameDecodes", fn := fun _ => fun
  | [d1, d2] => { results := [.lit (.bool true)], args := [d1, d2] }
  | _ => none }
def frameDecodesRow : OpenClaim := { program := "ytigjmemoaapmgaadoor", sum := "1323a013b09b16693b43dafe08f2827e1a835a1eb130510413ecf8ff2c1f2f33", func := "replevin/replevinlaw10.FrameDecodes", spec := "frameDecodes", unfollowed := true, recurses := true, named := ["replevin/frame.fields", "replevin/sha256.constants"], apart := false, laid := [("replevin/sha256.constants", laid_replevin_sha256_constants), ("replevin/frame.fields", laid_replevin_frame_fields)] }
def FrameDecodesSaid : Prop := frameDecodesRow.holds Tryd.pinned (OpenSpec.ofChange frameDecodesSpec)

/-- ITS FALSE NEIGHBOUR: 'it returns false'. Refute it at one input. -/
def frameDecodesWrong : ChangeSpec := { name := "frameDecodes", fn := fun _ => fun
  | [d1, d2] => { results := [.lit (.bool false)], args := [d1, d2] }
  | _ => none }
def FrameDecodesWrongFalsely : Prop := frameDecodesRow.holds Tryd.pinned (OpenSpec.ofChange frameDecodesWrong)

/-- 'replevinlaw10.FrameHeaders': WHATEVER THE INPUT: true; the input reads as it did. -/
def frameHeadersSpec : ChangeSpec := { name := "frameHeaders", fn := fun _ => fun
  | [d1, d2] => { results := [.lit (.bool true)], args := [d1, d2] }
  | _ => none }
def frameHeadersRow : OpenClaim := { program := "ytigjmemoaapmgaadoor", sum := "1323a013b09b16693b43dafe08f2827e1a835a1eb130510413ecf8ff2c1f2f33", func := "replevin/replevinlaw10.FrameHeaders", spec := "frameHeaders", unfollowed := true, recurses := true, named := ["replevin/frame.fields", "replevin/sha256.constants"], apart := false, laid := [("replevin/sha256.constants", laid_replevin_sha256_constants), ("replevin/frame.fields", laid_replevin_frame_fields)] }
def FrameHeadersSaid : Prop := frameHeadersRow.holds Tryd.pinned (OpenSpec.ofChange frameHeadersSpec)

/-- ITS FALSE NEIGHBOUR: 'it returns false'. Refute it at one input. -/
def frameHeadersWrong : ChangeSpec := { name := "frameHeaders", fn := fun _ => fun
  | [d1, d2] => { results := [.lit (.bool false)], args := [d1, d2] }
  | _ => none }
def FrameHeadersWrongFalsely : Prop := frameHeadersRow.holds Tryd.pinned (OpenSpec.ofChange frameHeadersWrong)

/-- 'replevinlaw10.FramePrefixes': WHATEVER THE INPUT: true; the input reads as it did. -/
def framePrefixesSpec : ChangeSpec := { name := "framePrefixes", fn := fun _ => fun
  | [d1, d2] => { results := [.lit (.bool true)], args := [d1, d2] }
  | _ => none }
def framePrefixesRow : OpenClaim := { program := "ytigjmemoaapmgaadoor", sum := "1323a013b09b16693b43dafe08f2827e1a835a1eb130510413ecf8ff2c1f2f33", func := "replevin/replevinlaw10.FramePrefixes", spec := "framePrefixes", unfollowed := true, recurses := true, named := ["replevin/frame.fields", "replevin/sha256.constants"], apart := false, laid := [("replevin/sha256.constants", laid_replevin_sha256_constants), ("replevin/frame.fields", laid_replevin_frame_fields)] }
def FramePrefixesSaid : Prop := framePrefixesRow.holds Tryd.pinned (OpenSpec.ofChange framePrefixesSpec)

/-- ITS FALSE NEIGHBOUR: 'it returns false'. Refute it at one input. -/
def framePrefixesWrong : ChangeSpec := { name := "framePrefixes", fn := fun _ => fun
  | [d1, d2] => { results := [.lit (.bool false)], args := [d1, d2] }
  | _ => none }
def FramePrefixesWrongFalsely : Prop := framePrefixesRow.holds Tryd.pinned (OpenSpec.ofChange framePrefixesWrong)

/-- 'replevinlaw10.FrameTampering': WHATEVER THE INPUT: true; the input reads as it did. -/
def frameTamperingSpec : ChangeSpec := { name := "frameTampering", fn := fun _ => fun
  | [d1, d2, d3] => { results := [.lit (.bool true)], args := [d1, d2, d3] }
  | _ => none }
def frameTamperingRow : OpenClaim := { program := "ytigjmemoaapmgaadoor", sum := "1323a013b09b16693b43dafe08f2827e1a835a1eb130510413ecf8ff2c1f2f33", func := "replevin/replevinlaw10.FrameTampering", spec := "frameTampering", unfollowed := true, recurses := true, named := ["replevin/frame.fields", "replevin/sha256.constants"], apart := false, laid := [("replevin/sha256.constants", laid_replevin_sha256_constants), ("replevin/frame.fields", laid_replevin_frame_fields)] }
def FrameTamperingSaid : Prop := frameTamperingRow.holds Tryd.pinned (OpenSpec.ofChange frameTamperingSpec)

/-- ITS FALSE NEIGHBOUR: 'it returns false'. Refute it at one input. -/
def frameTamperingWrong : ChangeSpec := { name := "frameTampering", fn := fun _ => fun
  | [d1, d2, d3] => { results := [.lit (.bool false)], args := [d1, d2, d3] }
  | _ => none }
def FrameTamperingWrongFalsely : Prop := frameTamperingRow.holds Tryd.pinned (OpenSpec.ofChange frameTamperingWrong)

/-- 'replevinlaw10.FrameEncodes': WHATEVER THE INPUT: true; the input reads as it did. -/
def frameEncodesSpec : ChangeSpec := { name := "frameEncodes", fn := fun _ => fun
  | [d1, d2] => { results := [.lit (.bool true)], args := [d1, d2] }
  | _ => none }
def frameEncodesRow : OpenClaim := { program := "ytigjmemoaapmgaadoor", sum := "1323a013b09b16693b43dafe08f2827e1a835a1eb130510413ecf8ff2c1f2f33", func := "replevin/replevinlaw10.FrameEncodes", spec := "frameEncodes", unfollowed := true, recurses := true, named := ["replevin/frame.fields", "replevin/sha256.constants"], apart := false, laid := [("replevin/sha256.constants", laid_replevin_sha256_constants), ("replevin/frame.fields", laid_replevin_frame_fields)] }
def FrameEncodesSaid : Prop := frameEncodesRow.holds Tryd.pinned (OpenSpec.ofChange frameEncodesSpec)

/-- ITS FALSE NEIGHBOUR: 'it returns false'. Refute it at one input. -/
def frameEncodesWrong : ChangeSpec := { name := "frameEncodes", fn := fun _ => fun
  | [d1, d2] => { results := [.lit (.bool false)], args := [d1, d2] }
  | _ => none }
def FrameEncodesWrongFalsely : Prop := frameEncodesRow.holds Tryd.pinned (OpenSpec.ofChange frameEncodesWrong)

/-- 'replevinlaw10.FrameSizes': WHATEVER THE INPUT: true; the input reads as it did. -/
def frameSizesSpec : ChangeSpec := { name := "frameSizes", fn := fun _ => fun
  | [d1, d2, d3] => { results := [.lit (.bool true)], args := [d1, d2, d3] }
  | _ => none }
def frameSizesRow : OpenClaim := { program := "ytigjmemoaapmgaadoor", sum := "1323a013b09b16693b43dafe08f2827e1a835a1eb130510413ecf8ff2c1f2f33", func := "replevin/replevinlaw10.FrameSizes", spec := "frameSizes", unfollowed := true, recurses := true, named := ["replevin/frame.fields", "replevin/sha256.constants"], apart := false, laid := [("replevin/sha256.constants", laid_replevin_sha256_constants), ("replevin/frame.fields", laid_replevin_frame_fields)] }
def FrameSizesSaid : Prop := frameSizesRow.holds Tryd.pinned (OpenSpec.ofChange frameSizesSpec)

/-- ITS FALSE NEIGHBOUR: 'it returns false'. Refute it at one input. -/
def frameSizesWrong : ChangeSpec := { name := "frameSizes", fn := fun _ => fun
  | [d1, d2, d3] => { results := [.lit (.bool false)], args := [d1, d2, d3] }
  | _ => none }
def FrameSizesWrongFalsely : Prop := frameSizesRow.holds Tryd.pinned (OpenSpec.ofChange frameSizesWrong)

/-- 'replevinlaw10.FrameSalvages': WHATEVER THE INPUT: true; the input reads as it did. -/
def frameSalvagesSpec : ChangeSpec := { name := "frameSalvages", fn := fun _ => fun
  | [d] => { results := [.lit (.bool true)], args := [d] }
  | _ => none }
def frameSalvagesRow : OpenClaim := { program := "ytigjmemoaapmgaadoor", sum := "1323a013b09b16693b43dafe08f2827e1a835a1eb130510413ecf8ff2c1f2f33", func := "replevin/replevinlaw10.FrameSalvages", spec := "frameSalvages", unfollowed := true, recurses := true, named := ["replevin/frame.fields", "replevin/sha256.constants"], apart := false, laid := [("replevin/sha256.constants", laid_replevin_sha256_constants), ("replevin/frame.fields", laid_replevin_frame_fields)] }
def FrameSalvagesSaid : Prop := frameSalvagesRow.holds Tryd.pinned (OpenSpec.ofChange frameSalvagesSpec)

/-- ITS FALSE NEIGHBOUR: 'it returns false'. Refute it at one input. -/
def frameSalvagesWrong : ChangeSpec := { name := "frameSalvages", fn := fun _ => fun
  | [d] => { results := [.lit (.bool false)], args := [d] }
  | _ => none }
def FrameSalvagesWrongFalsely : Prop := frameSalvagesRow.holds Tryd.pinned (OpenSpec.ofChange frameSalvagesWrong)

/-- 'replevinlaw10.FrameScans': WHATEVER THE INPUT: true; the input reads as it did. -/
def frameScansSpec : ChangeSpec := { name := "frameScans", fn := fun _ => fun
  | [d1, d2, d3] => { results := [.lit (.bool true)], args := [d1, d2, d3] }
  | _ => none }
def frameScansRow : OpenClaim := { program := "ytigjmemoaapmgaadoor", sum := "1323a013b09b16693b43dafe08f2827e1a835a1eb130510413ecf8ff2c1f2f33", func := "replevin/replevinlaw10.FrameScans", spec := "frameScans", unfollowed := true, recurses := true, named := ["replevin/frame.fields", "replevin/sha256.constants"], apart := false, laid := [("replevin/sha256.constants", laid_replevin_sha256_constants), ("replevin/frame.fields", laid_replevin_frame_fields)] }
def FrameScansSaid : Prop := frameScansRow.holds Tryd.pinned (OpenSpec.ofChange frameScansSpec)

/-- ITS FALSE NEIGHBOUR: 'it returns false'. Refute it at one input. -/
def frameScansWrong : ChangeSpec := { name := "frameScans", fn := fun _ => fun
  | [d1, d2, d3] => { results := [.lit (.bool false)], args := [d1, d2, d3] }
  | _ => none }
def FrameScansWrongFalsely : Prop := frameScansRow.holds Tryd.pinned (OpenSpec.ofChange frameScansWrong)

/-- 'replevinlaw10.FrameClones': WHATEVER THE INPUT: true; the input reads as it did. -/
def frameClonesSpec : ChangeSpec := { name := "frameClones", fn := fun _ => fun
  | [d1, d2, d3] => { results := [.lit (.bool true)], args := [d1, d2, d3] }
  | _ => none }
def frameClonesRow : OpenClaim := { program := "ytigjmemoaapmgaadoor", sum := "1323a013b09b16693b43dafe08f2827e1a835a1eb130510413ecf8ff2c1f2f33", func := "replevin/replevinlaw10.FrameClones", spec := "frameClones", unfollowed := true, recurses := true, named := ["replevin/frame.fields", "replevin/sha256.constants"], apart := false, laid := [("replevin/sha256.constants", laid_replevin_sha256_constants), ("replevin/frame.fields", laid_replevin_frame_fields)] }
def FrameClonesSaid : Prop := frameClonesRow.holds Tryd.pinned (OpenSpec.ofChange frameClonesSpec)

/-- ITS FALSE NEIGHBOUR: 'it returns false'. Refute it at one input. -/
def frameClonesWrong : ChangeSpec := { name := "frameClones", fn := fun _ => fun
  | [d1, d2, d3] => { results := [.lit (.bool false)], args := [d1, d2, d3] }
  | _ => none }
def FrameClonesWrongFalsely : Prop := frameClonesRow.holds Tryd.pinned (OpenSpec.ofChange frameClonesWrong)

/- THE SECOND FORM. 'bulk': how many values and letters a reading holds, each counted each time it is reached (what is shared counts as often as it is met; a slice's spare places count too). A statement '..UptoSaid' is the law's where the arguments, and the package variables that the reading takes, are together of bulk at most 1048576: NARROWER than '..Said'. Prove '..Said' where nothing that the law and all that it calls make is longer than what came in: it says more and counts as full. Else prove '..UptoSaid'. A law counts once. -/
mutual
def uptoBulk {H : Type} : DataW H → Nat
  | .lit (.string bytes) => bytes.length + 1
  | .lit _ => 1
  | .nil => 1
  | .ptr d => uptoBulk d + 1
  | .slice elems spare => uptoBulkAll elems + uptoBulkAll spare + 1
  | .agg parts => uptoBulkAll parts + 1
  | .iface _ d => uptoBulk d + 1
  | .map entries => uptoBulkEntries entries + 1
  | .held _ => 1
def uptoBulkAll {H : Type} : List (DataW H) → Nat
  | [] => 0
  | d :: r => uptoBulk d + uptoBulkAll r
def uptoBulkEntries {H : Type} : List (Lit × DataW H) → Nat
  | [] => 0
  | x :: r => uptoBulkEntry x + uptoBulkEntries r
def uptoBulkEntry {H : Type} : Lit × DataW H → Nat
  | (.string bytes, d) => bytes.length + uptoBulk d + 1
  | (_, d) => uptoBulk d + 1
 end
def uptoSmall : (H : Type) → List (DataW H) → Bool := fun _ ds => decide (uptoBulkAll ds ≤ 1048576)
def OpenSpec.upto (s : _root_.Go.ChangeSpec) : _root_.Go.OpenSpec := { _root_.Go.OpenSpec.ofChange s with cond := some uptoSmall }

/-- 'replevinlaw10.FrameDecodes', WHERE WHAT IT READS IS OF BULK AT MOST 1048576: true; the input reads as it did. -/
def frameDecodesUptoRow : OpenClaim := { program := "ytigjmemoaapmgaadoor", sum := "1323a013b09b16693b43dafe08f2827e1a835a1eb130510413ecf8ff2c1f2f33", func := "replevin/replevinlaw10.FrameDecodes", spec := "frameDecodes", unfollowed := true, recurses := true, named := ["replevin/frame.fields", "replevin/sha256.constants"], apart := false, laid := [("replevin/sha256.constants", laid_replevin_sha256_constants), ("replevin/frame.fields", laid_replevin_frame_fields)], narrowed := true }
def FrameDecodesUptoSaid : Prop := frameDecodesUptoRow.holds Tryd.pinned (OpenSpec.upto frameDecodesSpec)

/-- 'replevinlaw10.FrameHeaders', WHERE WHAT IT READS IS OF BULK AT MOST 1048576: true; the input reads as it did. -/
def frameHeadersUptoRow : OpenClaim := { program := "ytigjmemoaapmgaadoor", sum := "1323a013b09b16693b43dafe08f2827e1a835a1eb130510413ecf8ff2c1f2f33", func := "replevin/replevinlaw10.FrameHeaders", spec := "frameHeaders", unfollowed := true, recurses := true, named := ["replevin/frame.fields", "replevin/sha256.constants"], apart := false, laid := [("replevin/sha256.constants", laid_replevin_sha256_constants), ("replevin/frame.fields", laid_replevin_frame_fields)], narrowed := true }
def FrameHeadersUptoSaid : Prop := frameHeadersUptoRow.holds Tryd.pinned (OpenSpec.upto frameHeadersSpec)

/-- 'replevinlaw10.FramePrefixes', WHERE WHAT IT READS IS OF BULK AT MOST 1048576: true; the input reads as it did. -/
def framePrefixesUptoRow : OpenClaim := { program := "ytigjmemoaapmgaadoor", sum := "1323a013b09b16693b43dafe08f2827e1a835a1eb130510413ecf8ff2c1f2f33", func := "replevin/replevinlaw10.FramePrefixes", spec := "framePrefixes", unfollowed := true, recurses := true, named := ["replevin/frame.fields", "replevin/sha256.constants"], apart := false, laid := [("replevin/sha256.constants", laid_replevin_sha256_constants), ("replevin/frame.fields", laid_replevin_frame_fields)], narrowed := true }
def FramePrefixesUptoSaid : Prop := framePrefixesUptoRow.holds Tryd.pinned (OpenSpec.upto framePrefixesSpec)

/-- 'replevinlaw10.FrameTampering', WHERE WHAT IT READS IS OF BULK AT MOST 1048576: true; the input reads as it did. -/
def frameTamperingUptoRow : OpenClaim := { program := "ytigjmemoaapmgaadoor", sum := "1323a013b09b16693b43dafe08f2827e1a835a1eb130510413ecf8ff2c1f2f33", func := "replevin/replevinlaw10.FrameTampering", spec := "frameTampering", unfollowed := true, recurses := true, named := ["replevin/frame.fields", "replevin/sha256.constants"], apart := false, laid := [("replevin/sha256.constants", laid_replevin_sha256_constants), ("replevin/frame.fields", laid_replevin_frame_fields)], narrowed := true }
def FrameTamperingUptoSaid : Prop := frameTamperingUptoRow.holds Tryd.pinned (OpenSpec.upto frameTamperingSpec)

/-- 'replevinlaw10.FrameEncodes', WHERE WHAT IT READS IS OF BULK AT MOST 1048576: true; the input reads as it did. -/
def frameEncodesUptoRow : OpenClaim := { program := "ytigjmemoaapmgaadoor", sum := "1323a013b09b16693b43dafe08f2827e1a835a1eb130510413ecf8ff2c1f2f33", func := "replevin/replevinlaw10.FrameEncodes", spec := "frameEncodes", unfollowed := true, recurses := true, named := ["replevin/frame.fields", "replevin/sha256.constants"], apart := false, laid := [("replevin/sha256.constants", laid_replevin_sha256_constants), ("replevin/frame.fields", laid_replevin_frame_fields)], narrowed := true }
def FrameEncodesUptoSaid : Prop := frameEncodesUptoRow.holds Tryd.pinned (OpenSpec.upto frameEncodesSpec)

/-- 'replevinlaw10.FrameSizes', WHERE WHAT IT READS IS OF BULK AT MOST 1048576: true; the input reads as it did. -/
def frameSizesUptoRow : OpenClaim := { program := "ytigjmemoaapmgaadoor", sum := "1323a013b09b16693b43dafe08f2827e1a835a1eb130510413ecf8ff2c1f2f33", func := "replevin/replevinlaw10.FrameSizes", spec := "frameSizes", unfollowed := true, recurses := true, named := ["replevin/frame.fields", "replevin/sha256.constants"], apart := false, laid := [("replevin/sha256.constants", laid_replevin_sha256_constants), ("replevin/frame.fields", laid_replevin_frame_fields)], narrowed := true }
def FrameSizesUptoSaid : Prop := frameSizesUptoRow.holds Tryd.pinned (OpenSpec.upto frameSizesSpec)

/-- 'replevinlaw10.FrameSalvages', WHERE WHAT IT READS IS OF BULK AT MOST 1048576: true; the input reads as it did. -/
def frameSalvagesUptoRow : OpenClaim := { program := "ytigjmemoaapmgaadoor", sum := "1323a013b09b16693b43dafe08f2827e1a835a1eb130510413ecf8ff2c1f2f33", func := "replevin/replevinlaw10.FrameSalvages", spec := "frameSalvages", unfollowed := true, recurses := true, named := ["replevin/frame.fields", "replevin/sha256.constants"], apart := false, laid := [("replevin/sha256.constants", laid_replevin_sha256_constants), ("replevin/frame.fields", laid_replevin_frame_fields)], narrowed := true }
def FrameSalvagesUptoSaid : Prop := frameSalvagesUptoRow.holds Tryd.pinned (OpenSpec.upto frameSalvagesSpec)

/-- 'replevinlaw10.FrameScans', WHERE WHAT IT READS IS OF BULK AT MOST 1048576: true; the input reads as it did. -/
def frameScansUptoRow : OpenClaim := { program := "ytigjmemoaapmgaadoor", sum := "1323a013b09b16693b43dafe08f2827e1a835a1eb130510413ecf8ff2c1f2f33", func := "replevin/replevinlaw10.FrameScans", spec := "frameScans", unfollowed := true, recurses := true, named := ["replevin/frame.fields", "replevin/sha256.constants"], apart := false, laid := [("replevin/sha256.constants", laid_replevin_sha256_constants), ("replevin/frame.fields", laid_replevin_frame_fields)], narrowed := true }
def FrameScansUptoSaid : Prop := frameScansUptoRow.holds Tryd.pinned (OpenSpec.upto frameScansSpec)

/-- 'replevinlaw10.FrameClones', WHERE WHAT IT READS IS OF BULK AT MOST 1048576: true; the input reads as it did. -/
def frameClonesUptoRow : OpenClaim := { program := "ytigjmemoaapmgaadoor", sum := "1323a013b09b16693b43dafe08f2827e1a835a1eb130510413ecf8ff2c1f2f33", func := "replevin/replevinlaw10.FrameClones", spec := "frameClones", unfollowed := true, recurses := true, named := ["replevin/frame.fields", "replevin/sha256.constants"], apart := false, laid := [("replevin/sha256.constants", laid_replevin_sha256_constants), ("replevin/frame.fields", laid_replevin_frame_fields)], narrowed := true }
def FrameClonesUptoSaid : Prop := frameClonesUptoRow.holds Tryd.pinned (OpenSpec.upto frameClonesSpec)

end Rows
end Go.Proofs.YtigjmemoaapmgaaDoor
