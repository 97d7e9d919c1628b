/- Readers, in plain Lean. -/
import Derived.Test.YtigjmemoaapmgaaDoorFrameSpec4
set_option linter.unusedVariables false
namespace Go.Frm
open Go.V Go.Sha
structure Rd where
  st : Int
  nx : Int
  wait : List UInt8
  fl : Int
def Rd.cells (r : Rd) : List Value := rcells r.st r.nx r.wait r.fl
def Rd.feed (r : Rd) (t : List UInt8) : Rd :=
  if r.fl ≠ 0 then r else
  if (scan' r.st (r.wait ++ t) r.nx).2.2 ≠ 0 ∧ (scan' r.st (r.wait ++ t) r.nx).2.2 ≠ 28 then ⟨r.st, r.nx + (scan' r.st (r.wait ++ t) r.nx).1.length, [], (scan' r.st (r.wait ++ t) r.nx).2.2⟩
  else ⟨r.st, r.nx + (scan' r.st (r.wait ++ t) r.nx).1.length, (r.wait ++ t).drop (scan' r.st (r.wait ++ t) r.nx).2.1, 0⟩
theorem feed_failed {r : Rd} {t : List UInt8} (h : r.fl ≠ 0) : r.feed t = r := by unfold Rd.feed; rw [if_pos h]
theorem feed_bad {r : Rd} {t : List UInt8} {l : List Fr} {z : Nat} {y : Int} (h : ¬ r.fl ≠ 0) (hq : scan' r.st (r.wait ++ t) r.nx = (l, z, y)) (hy : y ≠ 0 ∧ y ≠ 28) : r.feed t = ⟨r.st, r.nx + l.length, [], y⟩ := by
  unfold Rd.feed; rw [if_neg h, hq, if_pos hy]
theorem feed_good {r : Rd} {t : List UInt8} {l : List Fr} {z : Nat} {y : Int} (h : ¬ r.fl ≠ 0) (hq : scan' r.st (r.wait ++ t) r.nx = (l, z, y)) (hy : ¬ (y ≠ 0 ∧ y ≠ 28)) : r.feed t = ⟨r.st, r.nx + l.length, (r.wait ++ t).drop z, 0⟩ := by
  unfold Rd.feed; rw [if_neg h, hq, if_neg hy]
theorem scan_le : ∀ (k : Nat) (st : Int) (s : List UInt8) (nb : Int), (scan st k s nb).2.1 ≤ s.length
  | 0, _, _, _ => by simp [scan]
  | k + 1, st, s, nb => by
    rw [scan]
    split
    · simp
    · split
      · simp
      · rename_i h0 he
        split
        · simp
        · have hd := dec_pos (Decidable.byContradiction he)
          have ih := scan_le k st (s.drop (decode s).2.1) (nb + 1)
          simp only
          rw [List.length_drop] at ih
          omega
theorem scan'_le (st : Int) (s : List UInt8) (nb : Int) : (scan' st s nb).2.1 ≤ s.length := scan_le _ _ _ _
theorem scan'_len (st : Int) (s : List UInt8) (nb : Int) : (scan' st s nb).1.length ≤ s.length := scan_len _ _ _ _
/-- Where no frame is found, nothing is used up. -/
theorem scan'_none {st : Int} {s : List UInt8} {nb : Int} (h : (scan' st s nb).1 = []) : (scan' st s nb).2.1 = 0 := by
  by_cases h0 : s.length = 0
  · rw [scan_end h0]
  by_cases he : (decode s).2.2 = 0
  · by_cases hs : (decode s).1.stream ≠ st ∨ (decode s).1.number ≠ nb
    · rw [scan_seq (by omega) he hs]
    · rw [scan_next (by omega) he hs] at h
      simp at h
  · rw [scan_err (by omega) he]
/-- What waits behind a stream's end is no frame yet. -/
theorem scan'_rest : ∀ (n : Nat) (st : Int) (s : List UInt8) (nb : Int), s.length ≤ n → (scan' st s nb).2.2 = 0 ∨ (scan' st s nb).2.2 = 28 →
    ∀ nb', scan' st (s.drop (scan' st s nb).2.1) nb' = ([], 0, if (s.drop (scan' st s nb).2.1).length = 0 then 0 else 28)
  | n, st, s, nb, hn, hy, nb' => by
    by_cases h0 : s.length = 0
    · rw [scan_end h0]
      rw [scan_end (by simpa using h0), if_pos (by simpa using h0)]
    by_cases he : (decode s).2.2 = 0
    · by_cases hs : (decode s).1.stream ≠ st ∨ (decode s).1.number ≠ nb
      · rw [scan_seq (by omega) he hs] at hy
        simp at hy
      · have hd := dec_pos he
        rw [scan_next (by omega) he hs] at hy ⊢
        match n, hn with
        | 0, hn => omega
        | n + 1, hn =>
          have ih := scan'_rest n st (s.drop (decode s).2.1) (nb + 1) (by simp; omega) hy nb'
          simp only [List.drop_drop] at ih
          exact ih
    · rw [scan_err (by omega) he] at hy ⊢
      simp only [List.drop_zero]
      have h28 : (decode s).2.2 = 28 := by
        simp only at hy
        omega
      rw [scan_err (by omega) he, if_neg h0, h28]
/-- A Reader that has been fed: what waits in it is no frame. -/
def Rd.Calm (r : Rd) : Prop := r.fl ≠ 0 ∨ ∃ y, (y = 0 ∨ y = 28) ∧ ∀ nb, scan' r.st r.wait nb = ([], 0, y)
theorem Rd.calm_new (st nx : Int) : (⟨st, nx, [], 0⟩ : Rd).Calm := .inr ⟨0, .inl rfl, fun nb => scan_end rfl⟩
theorem Rd.calm_feed (r : Rd) (t : List UInt8) (h : r.fl = 0) : (r.feed t).Calm := by
  obtain ⟨l, z, y, hq⟩ : ∃ l z y, scan' r.st (r.wait ++ t) r.nx = (l, z, y) := ⟨_, _, _, rfl⟩
  by_cases hy : y ≠ 0 ∧ y ≠ 28
  · rw [feed_bad (fun h' => h' h) hq hy]
    exact .inl hy.1
  · rw [feed_good (fun h' => h' h) hq hy]
    have h28 : y = 0 ∨ y = 28 := by
      by_cases h0 : y = 0
      · exact .inl h0
      · exact .inr (Decidable.byContradiction fun h => hy ⟨h0, h⟩)
    have := scan'_rest _ r.st (r.wait ++ t) r.nx (Nat.le_refl _) (by rw [hq]; exact h28)
    rw [hq] at this
    refine .inr ⟨_, ?_, this⟩
    split
    · exact .inl rfl
    · exact .inr rfl
/-- Feeding changes a Reader unless nothing is fed or it has failed. -/
theorem Rd.feed_same {r : Rd} (hc : r.Calm) (t : List UInt8) : r.feed t = r ↔ t = [] ∨ r.fl ≠ 0 := by
  by_cases hf : r.fl ≠ 0
  · rw [feed_failed hf]
    exact ⟨fun _ => .inr hf, fun _ => rfl⟩
  have h0 : r.fl = 0 := Decidable.byContradiction hf
  constructor
  · intro h
    by_cases ht : t = []
    · exact .inl ht
    exfalso
    obtain ⟨l, z, y, hq⟩ : ∃ l z y, scan' r.st (r.wait ++ t) r.nx = (l, z, y) := ⟨_, _, _, rfl⟩
    by_cases hy : y ≠ 0 ∧ y ≠ 28
    · rw [feed_bad hf hq hy] at h
      have := congrArg Rd.fl h
      simp at this
      omega
    · rw [feed_good hf hq hy] at h
      have h1 := congrArg Rd.nx h
      have h2 := congrArg Rd.wait h
      simp only at h1 h2
      have hl : l = [] := List.eq_nil_of_length_eq_zero (by omega)
      have hz := scan'_none (st := r.st) (s := r.wait ++ t) (nb := r.nx) (by rw [hq]; exact hl)
      rw [hq] at hz
      simp only at hz
      subst hz
      have := congrArg List.length h2
      simp at this
      exact ht this
  · rintro (rfl | h)
    · rcases hc with hc | ⟨y, hy, hs⟩
      · exact absurd hc hf
      · have hq : scan' r.st (r.wait ++ []) r.nx = ([], 0, y) := by rw [List.append_nil]; exact hs _
        rw [feed_good hf hq (by omega)]
        cases r
        simp at h0
        simp [h0]
    · exact absurd h hf
theorem Rd.feed_bd (r : Rd) (t : List UInt8) : (r.feed t).wait.length ≤ r.wait.length + t.length ∧ r.nx ≤ (r.feed t).nx ∧ (r.feed t).nx ≤ r.nx + (r.wait.length + t.length : Nat) ∧ (r.feed t).st = r.st := by
  by_cases hf : r.fl ≠ 0
  · rw [feed_failed hf]; exact ⟨by omega, by omega, by omega, rfl⟩
  obtain ⟨l, z, y, hq⟩ : ∃ l z y, scan' r.st (r.wait ++ t) r.nx = (l, z, y) := ⟨_, _, _, rfl⟩
  have hl := scan'_len r.st (r.wait ++ t) r.nx
  rw [hq, List.length_append] at hl
  simp only at hl
  by_cases hy : y ≠ 0 ∧ y ≠ 28
  · rw [feed_bad hf hq hy]
    exact ⟨by simp, by simp only; omega, by simp only; omega, rfl⟩
  · rw [feed_good hf hq hy]
    exact ⟨by simp only [List.length_drop, List.length_append]; omega, by simp only; omega, by simp only; omega, rfl⟩
/-- Whether two Readers are equal. -/
def rdSame (a b : Rd) : Bool := (decide (a.st = b.st) && (decide (a.nx = b.nx) && true)) && (decide (a.wait = b.wait) && (decide (a.fl = b.fl) && true))
theorem rdSame_iff (a b : Rd) : rdSame a b = true ↔ a = b := by
  cases a; cases b
  simp [rdSame, and_assoc]
theorem rdSame_self (a : Rd) : rdSame a a = true := (rdSame_iff a a).2 rfl
theorem rdSame_comm (a b : Rd) : rdSame a b = rdSame b a := by
  rw [Bool.eq_iff_iff, rdSame_iff, rdSame_iff]
  exact ⟨Eq.symm, Eq.symm⟩
/-- What Feed does to a Reader's block. -/
def RetFeed (g : Nat) (t : TypeId) (cs : List Value) (w : World) (e : Ending) (w' : World) : Prop := ∃ v y, e = .returned (.tuple #[v, .int .i64 y]) ∧ Chg [g] w w' ∧ Blk w' g t cs
end Go.Frm
