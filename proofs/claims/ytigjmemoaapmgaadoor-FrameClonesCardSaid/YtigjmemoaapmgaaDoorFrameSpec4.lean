/- Lists of frames in memory; streams, continued. -/
import Derived.Test.YtigjmemoaapmgaaDoorFrameSpec3
set_option linter.unusedVariables false
namespace Go.Frm
open Go.V Go.Sha
def fvs (l : List Fr) : List Value := l.flatMap Fr.cells
theorem fvs_len (l : List Fr) : (fvs l).length = l.length * 4 := by
  induction l with
  | nil => rfl
  | cons f l ih =>
    have : fvs (f :: l) = f.cells ++ fvs l := rfl
    rw [this, List.length_append, ih, List.length_cons]
    have : f.cells.length = 4 := rfl
    omega
theorem fvs_snoc (l : List Fr) (f : Fr) : fvs (l ++ [f]) = fvs l ++ f.cells := by simp [fvs]
theorem fvs_at : ∀ (l : List Fr) (j : Nat), j < l.length → ((fvs l).drop (j * 4)).take 4 = (l.getD j Fr.zero).cells
  | [], _, h => by simp at h
  | f :: l, 0, _ => by
    have : fvs (f :: l) = f.cells ++ fvs l := rfl
    rw [this]
    rfl
  | f :: l, j + 1, h => by
    have e : fvs (f :: l) = f.cells ++ fvs l := rfl
    rw [e, show (j + 1) * 4 = 4 + j * 4 by omega, ← List.drop_drop, List.drop_left' (show f.cells.length = 4 from rfl), fvs_at l j (by simpa using h)]
    rfl
theorem rows_at {cs : List Value} {l : List Fr} {n j : Nat} (h : cs.take (n * 4) = fvs l) (hn : n = l.length) (hj : j < l.length) : (cs.drop (j * 4)).take 4 = (l.getD j Fr.zero).cells := by
  subst hn
  rw [← fvs_at l j hj, ← h, List.drop_take, List.take_take, Nat.min_eq_left (by omega)]
/-- What a stream answers, within limits. -/
def scanL (st nb : Int) (s : List UInt8) : List Fr × Nat × Int := if inside st nb then scan' st s nb else ([], 0, 2)
/-- The loop's invariant: what the rest adds. -/
def ScanInv (st nb : Int) (s : List UInt8) (acc : List Fr) (at_ : Nat) : Prop :=
  at_ ≤ s.length ∧ acc.length * 42 ≤ at_ ∧ scan' st s nb = (acc ++ (scan' st (s.drop at_) (nb + acc.length)).1, at_ + (scan' st (s.drop at_) (nb + acc.length)).2.1, (scan' st (s.drop at_) (nb + acc.length)).2.2)
theorem ScanInv.start (st nb : Int) (s : List UInt8) : ScanInv st nb s [] 0 := ⟨Nat.zero_le _, by simp, by simp⟩
section
variable {st nb : Int} {s : List UInt8} {acc : List Fr} {a : Nat} {l : List Fr} {z : Nat} {y : Int}
theorem ScanInv.fin (h : ScanInv st nb s acc a) (hp : scan' st s nb = (l, z, y)) (ha : ¬ a < s.length) : acc = l ∧ a = z ∧ 0 = y := by
  obtain ⟨h1, h2, h3⟩ := h
  rw [hp, scan_end (s := s.drop a) (by simp; omega)] at h3
  simp at h3
  exact ⟨h3.1.symm, h3.2.1.symm, h3.2.2.symm⟩
theorem ScanInv.err (h : ScanInv st nb s acc a) (hp : scan' st s nb = (l, z, y)) (ha : a < s.length) {d : Fr} {m : Nat} {e : Int} (hd : decode (s.drop a) = (d, m, e)) (he : e ≠ 0) : acc = l ∧ a = z ∧ e = y := by
  obtain ⟨h1, h2, h3⟩ := h
  rw [hp, scan_err (s := s.drop a) (by simp; omega) (by rw [hd]; exact he), hd] at h3
  simp at h3
  exact ⟨h3.1.symm, h3.2.1.symm, h3.2.2.symm⟩
theorem ScanInv.seq (h : ScanInv st nb s acc a) (hp : scan' st s nb = (l, z, y)) (ha : a < s.length) {d : Fr} {m : Nat} {e : Int} (hd : decode (s.drop a) = (d, m, e)) (he : e = 0) (hs : d.stream ≠ st ∨ d.number ≠ nb + acc.length) : acc = l ∧ a = z ∧ 32 = y := by
  obtain ⟨h1, h2, h3⟩ := h
  rw [hp, scan_seq (s := s.drop a) (by simp; omega) (by rw [hd]; exact he) (by rw [hd]; exact hs)] at h3
  simp at h3
  exact ⟨h3.1.symm, h3.2.1.symm, h3.2.2.symm⟩
theorem ScanInv.next (h : ScanInv st nb s acc a) (ha : a < s.length) {d : Fr} {m : Nat} {e : Int} (hd : decode (s.drop a) = (d, m, e)) (he : e = 0) (hs : d.stream = st) (hn : d.number = nb + acc.length) : ScanInv st nb s (acc ++ [d]) (a + m) ∧ 42 ≤ m ∧ a + m ≤ s.length := by
  obtain ⟨h1, h2, h3⟩ := h
  have hp := dec_pos (s := s.drop a) (by rw [hd]; exact he)
  rw [hd] at hp
  simp at hp
  have hn := scan_next (st := st) (s := s.drop a) (nb := nb + acc.length) (by simp; omega) (by rw [hd]; exact he) (by rw [hd]; simp; exact ⟨hs, hn⟩)
  rw [hd] at hn
  simp only [List.drop_drop] at hn
  refine ⟨⟨by omega, by simp; omega, ?_⟩, hp.1, by omega⟩
  rw [h3, hn]
  have e1 : nb + (acc ++ [d]).length = nb + acc.length + 1 := by simp; omega
  rw [e1]
  simp [Nat.add_assoc]
end
/-- What Scan returns: a new list of frames, where it ends, and why. -/
def RetScan (t : TypeId) (r : List Fr × Nat × Int) (w : World) (e : Ending) (w' : World) : Prop := ∃ v, e = .returned (.tuple #[v, .int .i64 (r.2.1 : Int), .int .i64 r.2.2]) ∧ Row w' t 4 v r.1.length (fvs r.1) ∧ Chg [] w w' ∧ Mine w.heap.size v
theorem scan_len : ∀ (k : Nat) (st : Int) (s : List UInt8) (nb : Int), (scan st k s nb).1.length ≤ s.length
  | 0, _, _, _ => by simp [scan]
  | k + 1, st, s, nb => by
    rw [scan]
    split
    · simp
    · split
      · simp
      · rename_i h0 he
        split
        · simp
        · have hd := dec_pos (Decidable.byContradiction he)
          have ih := scan_len k st (s.drop (decode s).2.1) (nb + 1)
          simp only [List.length_cons]
          rw [List.length_drop] at ih
          omega
theorem scanL_len (st nb : Int) (s : List UInt8) : (scanL st nb s).1.length ≤ s.length := by
  unfold scanL
  split
  · exact scan_len _ _ _ _
  · simp
end Go.Frm
