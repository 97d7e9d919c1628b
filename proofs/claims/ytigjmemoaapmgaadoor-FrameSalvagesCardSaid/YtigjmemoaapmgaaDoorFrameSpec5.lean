/- Lists of places in memory; frames found, continued. -/
import Derived.Test.YtigjmemoaapmgaaDoorFrameSpec4
set_option linter.unusedVariables false
namespace Go.Frm
open Go.V Go.Sha
def pcells (x : Nat × Fr) : List Value := .int .i64 (x.1 : Int) :: x.2.cells
def pvs (l : List (Nat × Fr)) : List Value := l.flatMap pcells
theorem pvs_len (l : List (Nat × Fr)) : (pvs l).length = l.length * 5 := by
  induction l with
  | nil => rfl
  | cons f l ih =>
    have : pvs (f :: l) = pcells f ++ pvs l := rfl
    rw [this, List.length_append, ih, List.length_cons]
    have : (pcells f).length = 5 := rfl
    omega
theorem pvs_snoc (l : List (Nat × Fr)) (f : Nat × Fr) : pvs (l ++ [f]) = pvs l ++ pcells f := by simp [pvs]
theorem pvs_at : ∀ (l : List (Nat × Fr)) (j : Nat), j < l.length → ((pvs l).drop (j * 5)).take 5 = pcells (l.getD j (0, Fr.zero))
  | [], _, h => by simp at h
  | f :: l, 0, _ => by
    have : pvs (f :: l) = pcells f ++ pvs l := rfl
    rw [this]
    rfl
  | f :: l, j + 1, h => by
    have e : pvs (f :: l) = pcells f ++ pvs l := rfl
    rw [e, show (j + 1) * 5 = 5 + j * 5 by omega, ← List.drop_drop, List.drop_left' (show (pcells f).length = 5 from rfl), pvs_at l j (by simpa using h)]
    rfl
theorem prow_at {cs : List Value} {l : List (Nat × Fr)} {n j : Nat} (h : cs.take (n * 5) = pvs l) (hn : n = l.length) (hj : j < l.length) : (cs.drop (j * 5)).take 5 = pcells (l.getD j (0, Fr.zero)) := by
  subst hn
  rw [← pvs_at l j hj, ← h, List.drop_take, List.take_take, Nat.min_eq_left (by omega)]
theorem prow_0 {cs : List Value} {x : Nat × Fr} {o : Nat} (h : (cs.drop o).take 5 = pcells x) : cs[o]? = some (.int .i64 (x.1 : Int)) := by
  have := congrArg (fun l => l[0]?) h
  simpa [pcells, List.getElem?_drop] using this
theorem prow_1 {cs : List Value} {x : Nat × Fr} {o : Nat} (h : (cs.drop o).take 5 = pcells x) : (cs.drop (o + 1)).take 4 = x.2.cells := by
  have h2 : ((cs.drop o).take 5).drop 1 = (pcells x).drop 1 := by rw [h]
  rw [List.drop_take, List.drop_drop] at h2
  exact h2
def SalvInv (s : List UInt8) (acc : List (Nat × Fr)) (a : Nat) : Prop := a ≤ s.length ∧ acc.length ≤ a ∧ salv' s 0 = acc ++ salv' (s.drop a) a
theorem SalvInv.start (s : List UInt8) : SalvInv s [] 0 := ⟨Nat.zero_le _, by simp, by simp⟩
section
variable {s : List UInt8} {acc : List (Nat × Fr)} {a : Nat}
theorem SalvInv.fin (h : SalvInv s acc a) (ha : ¬ a < s.length) : salv' s 0 = acc := by
  obtain ⟨h1, h2, h3⟩ := h
  rw [h3, salv_end (s := s.drop a) (by simp; omega), List.append_nil]
theorem SalvInv.skip (h : SalvInv s acc a) (ha : a < s.length) {d : Fr} {m : Nat} {e : Int} (hd : decode (s.drop a) = (d, m, e)) (he : e ≠ 0) : SalvInv s acc (a + 1) := by
  obtain ⟨h1, h2, h3⟩ := h
  refine ⟨by omega, by omega, ?_⟩
  rw [h3, salv_skip (s := s.drop a) (by simp; omega) (by rw [hd]; exact he), List.drop_drop]
theorem SalvInv.next (h : SalvInv s acc a) (ha : a < s.length) {d : Fr} {m : Nat} {e : Int} (hd : decode (s.drop a) = (d, m, e)) (he : e = 0) : SalvInv s (acc ++ [(a, d)]) (a + m) ∧ 42 ≤ m ∧ a + m ≤ s.length := by
  obtain ⟨h1, h2, h3⟩ := h
  have hp := dec_pos (s := s.drop a) (by rw [hd]; exact he)
  rw [hd] at hp
  simp at hp
  refine ⟨⟨by omega, by simp; omega, ?_⟩, hp.1, by omega⟩
  rw [h3, salv_take (s := s.drop a) (by simp; omega) (by rw [hd]; exact he), hd]
  simp [List.drop_drop]
end
theorem salv_len : ∀ (k : Nat) (s : List UInt8) (a : Nat), (salv k s a).length ≤ k
  | 0, _, _ => by simp [salv]
  | k + 1, s, a => by
    rw [salv]
    split
    · simp
    · split
      · have := salv_len k (s.drop 1) (a + 1); omega
      · have := salv_len k (s.drop (decode s).2.1) (a + (decode s).2.1)
        simp only [List.length_cons]
        omega
/-- What Salvage returns. -/
def RetSalv (t : TypeId) (l : List (Nat × Fr)) (w : World) (e : Ending) (w' : World) : Prop := ∃ v, e = .returned v ∧ Row w' t 5 v l.length (pvs l) ∧ Chg [] w w' ∧ Mine w.heap.size v
theorem check_any {st nb : Int} {L : List (List UInt8)} {i : Nat} : check (runFr st nb L i) = check ⟨(i : Int), st, IntKind.i64.wrap (nb + i), []⟩ := by
  have h := runFr_len st nb L i
  unfold check
  have e1 : (runFr st nb L i).kind = (i : Int) := rfl
  have e2 : (runFr st nb L i).stream = st := rfl
  have e3 : (runFr st nb L i).number = IntKind.i64.wrap (nb + i) := rfl
  rw [e1, e2, e3]
  split
  · rfl
  · split
    · rfl
    · rw [if_neg (by omega), if_neg (by simp)]
theorem runFrs_yes {st nb : Int} {L : List (List UInt8)} {i : Nat} (h : check ⟨(i : Int), st, IntKind.i64.wrap (nb + i), []⟩ = 0) : (runFrs st nb L (i + 1)).length = (runFrs st nb L i).length + 1 := by
  rw [← check_any (L := L)] at h
  simp [runFrs, h]
theorem runFrs_no {st nb : Int} {L : List (List UInt8)} {i : Nat} (h : ¬ check ⟨(i : Int), st, IntKind.i64.wrap (nb + i), []⟩ = 0) : (runFrs st nb L (i + 1)).length = (runFrs st nb L i).length := by
  rw [← check_any (L := L)] at h
  simp [runFrs, h]
theorem runFrs_len (st nb : Int) (L : List (List UInt8)) : ∀ i, (runFrs st nb L i).length ≤ i
  | 0 => by simp [runFrs]
  | i + 1 => by
    have := runFrs_len st nb L i
    rw [runFrs, List.length_append]
    split <;> simp <;> omega
/-- If nothing is changed or cut off, all frames are found. -/
theorem salv_plain {st nb : Int} {L : List (List UInt8)} {b a s : List UInt8} {k : Nat} (h : s = runTo st nb L b k ++ a) (hb : ∀ c, c ∈ b → c ≠ 245) : (runFrs st nb L k).length ≤ (salv' s 0).length := by
  rw [h, runTo, List.append_assoc, salv_free _ _ _ hb]
  exact salv_all _ _ _ (runFrs_ok st nb L k)
theorem no_mark {b : List UInt8} {i : Nat} (h : ∀ k, k < i → b.getD k 0 ≠ 245) (hi : b.length ≤ i ∨ 50 ≤ i) : ∀ c, c ∈ b.take 50 → c ≠ 245 := fun c hc => by
  obtain ⟨k, hk, rfl⟩ := List.getElem_of_mem hc
  have hk' : k < b.length ∧ k < 50 := by simp at hk; omega
  have := h k (by omega)
  simp [List.getD, hk'.1] at this
  simpa using this
end Go.Frm
