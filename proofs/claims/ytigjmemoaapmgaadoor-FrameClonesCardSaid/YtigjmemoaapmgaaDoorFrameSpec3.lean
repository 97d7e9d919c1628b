/- The bytes of a run, in plain Lean. -/
import Derived.Test.YtigjmemoaapmgaaDoorFrameSpec2
set_option linter.unusedVariables false
namespace Go.Frm
open Go.V Go.Sha
/-- A run's cells. -/
def runCells (st nb : Int) (vp : Value) (b a : List UInt8) (vt vb : Value) (cut : Nat) : List Value := [.int .i64 st, .int .i64 nb, vp, .string (str b), .string (str a), vt, vb, .int .u16 (cut : Int)]
/-- The i-th frame of a run. -/
def runFr (st nb : Int) (L : List (List UInt8)) (i : Nat) : Fr := ⟨(i : Int), st, IntKind.i64.wrap (nb + i), (L.getD i []).take 100⟩
def runFrs (st nb : Int) (L : List (List UInt8)) : Nat → List Fr
  | 0 => []
  | i + 1 => runFrs st nb L i ++ (if check (runFr st nb L i) = 0 then [runFr st nb L i] else [])
theorem runFr_len (st nb : Int) (L : List (List UInt8)) (i : Nat) : (runFr st nb L i).payload.length ≤ 100 := by simp [runFr]; omega
theorem runFrs_ok (st nb : Int) (L : List (List UInt8)) : ∀ i f, f ∈ runFrs st nb L i → check f = 0
  | 0, f, h => by simp [runFrs] at h
  | i + 1, f, h => by
    rw [runFrs, List.mem_append] at h
    rcases h with h | h
    · exact runFrs_ok st nb L i f h
    · split at h
      · simp at h; rw [h]; assumption
      · simp at h
/-- The bytes of the frames so far. -/
def runTo (st nb : Int) (L : List (List UInt8)) (b : List UInt8) (i : Nat) : List UInt8 := b ++ (runFrs st nb L i).flatMap encode
theorem runTo_yes {st nb : Int} {L : List (List UInt8)} {b : List UInt8} {i : Nat} (h : check (runFr st nb L i) = 0) : runTo st nb L b (i + 1) = runTo st nb L b i ++ encode (runFr st nb L i) := by
  simp [runTo, runFrs, h]
theorem runTo_no {st nb : Int} {L : List (List UInt8)} {b : List UInt8} {i : Nat} (h : ¬ check (runFr st nb L i) = 0) : runTo st nb L b (i + 1) = runTo st nb L b i := by
  simp [runTo, runFrs, h]
theorem runTo_len (st nb : Int) (L : List (List UInt8)) (b : List UInt8) : ∀ i, (runTo st nb L b i).length ≤ b.length + 142 * i
  | 0 => by simp [runTo, runFrs]
  | i + 1 => by
    have ih := runTo_len st nb L b i
    have hl := runFr_len st nb L i
    by_cases h : check (runFr st nb L i) = 0
    · rw [runTo_yes h, List.length_append, encode_len]; omega
    · rw [runTo_no h]; omega
/-- What Bytes returns: a text; if nothing is changed or cut off, what stands before, the frames, what stands behind. -/
def RetBytes (st nb : Int) (L : List (List UInt8)) (b a : List UInt8) (nt nc cut : Nat) (w : World) (e : Ending) (w' : World) : Prop :=
  ∃ s : List UInt8, e = .returned (.string (str s)) ∧ s.length ≤ 1000 ∧ ((nt = 0 ∨ nc = 0) → cut = 0 → s = runTo st nb L (b.take 50) (min 6 L.length) ++ a.take 50) ∧ Chg [] w w'
end Go.Frm
