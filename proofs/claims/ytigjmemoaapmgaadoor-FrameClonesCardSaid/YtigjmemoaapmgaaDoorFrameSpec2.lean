/- Frames, in plain Lean: changed bytes, streams of frames, frames found in any bytes. -/
import Derived.Test.YtigjmemoaapmgaaDoorFrameSpec
set_option linter.unusedVariables false
namespace Go.Frm
open Go.V Go.Sha
theorem gdt {l : List UInt8} {a c j : Nat} (h : j < c) : ((l.drop a).take c).getD j 0 = l.getD (a + j) 0 := by
  simp [List.getD, List.getElem?_take_of_lt h, List.getElem?_drop]
theorem part_same {l : List UInt8} {i a c : Nat} {x : UInt8} (h : i < a ∨ a + c ≤ i) : ((l.set i x).drop a).take c = (l.drop a).take c := by
  apply List.ext_getElem?
  intro j
  by_cases hj : j < c
  · rw [List.getElem?_take_of_lt hj, List.getElem?_take_of_lt hj, List.getElem?_drop, List.getElem?_drop, List.getElem?_set_ne (by omega)]
  · rw [List.getElem?_eq_none (by simp; omega), List.getElem?_eq_none (by simp; omega)]
theorem part_differs {l : List UInt8} {i a c : Nat} {x : UInt8} (hi : i < l.length) (hx : x ≠ l.getD i 0) (h1 : a ≤ i) (h2 : i < a + c) : ((l.set i x).drop a).take c ≠ (l.drop a).take c := fun h => by
  have := congrArg (fun z => z.getD (i - a) 0) h
  simp only [gdt (show i - a < c by omega), show a + (i - a) = i by omega] at this
  apply hx
  rw [← this]
  simp [List.getD, hi]
theorem drop_zero_take {l : List UInt8} {c : Nat} : (l.drop 0).take c = l.take c := rfl
/-- What a changed byte can do. -/
theorem tamper {f : Fr} (h : check f = 0) {i : Nat} (hi : i < (encode f).length) {x : UInt8} (hx : x ≠ (encode f).getD i 0) (hd : (decode ((encode f).set i x)).2.2 = 0) :
    (((encode f).take 18 ≠ ((encode f).set i x).take 18) → join 10 [(encode f).take 18] ≠ join 10 [((encode f).set i x).take 18] ∧ first ((encode f).take 18) = first (((encode f).set i x).take 18)) ∧
    (((encode f).take 18 = ((encode f).set i x).take 18) → (decode ((encode f).set i x)).1.payload ≠ f.payload ∧ second ((encode f).take 18) f.payload = second (((encode f).set i x).take 18) (decode ((encode f).set i x)).1.payload) := by
  obtain ⟨g0, g1, g2, g3, g4, g5, g6, g7⟩ := dec_ok hd
  have hel := encode_len f
  have e : encode f = header f ++ (first (header f) ++ (f.payload ++ second (header f) f.payload)) := rfl
  have hl := header_len f
  have t18 : (encode f).take 18 = header f := by rw [e, List.take_left' hl]
  have d18 : (encode f).drop 18 = first (header f) ++ (f.payload ++ second (header f) f.payload) := by rw [e, List.drop_left' hl]
  have d26 : (encode f).drop 26 = f.payload ++ second (header f) f.payload := by rw [show (26 : Nat) = 18 + 8 from rfl, ← List.drop_drop, d18, List.drop_left' (first_len _)]
  have dn : (encode f).drop (26 + f.payload.length) = second (header f) f.payload := by rw [← List.drop_drop, d26, List.drop_left]
  have p8 : ((encode f).drop 18).take 8 = first (header f) := by rw [d18, List.take_left' (first_len _)]
  constructor
  · intro hne
    have hi18 : i < 18 := by
      apply Decidable.byContradiction
      intro hc
      apply hne
      have := part_same (l := encode f) (i := i) (a := 0) (c := 18) (x := x) (.inr (by omega))
      exact this.symm
    refine ⟨fun hj => hne ?_, ?_⟩
    · have := (join_inj (s := 10) (t := 10) (A := [(encode f).take 18]) (B := [((encode f).set i x).take 18]) (by simp; omega) (by simp; omega) (by simp) (by simp)).1 hj
      simpa using this.2
    · rw [t18, ← g2, part_same (.inl hi18), p8]
  · intro heq
    have hi18 : 18 ≤ i := by
      apply Decidable.byContradiction
      intro hc
      exact part_differs (l := encode f) (i := i) (a := 0) (c := 18) (x := x) hi hx (by omega) (by omega) heq.symm
    have hb : (encode f).set i x = header f ++ ((encode f).set i x).drop 18 := by
      have := List.take_append_drop 18 ((encode f).set i x)
      rw [← heq, t18] at this
      exact this.symm
    obtain ⟨n1, n2, n3, n4, n5⟩ := nums_of (r := ((encode f).set i x).drop 18) h
    rw [← hb] at n3
    rw [← heq, t18] at g2 g6
    have hi26 : 26 ≤ i := by
      apply Decidable.byContradiction
      intro hc
      exact part_differs (l := encode f) (i := i) (a := 18) (c := 8) (x := x) hi hx (by omega) (by omega) (by rw [g2, p8])
    have hin : i < 26 + f.payload.length := by
      apply Decidable.byContradiction
      intro hc
      have hp : pay ((encode f).set i x) = f.payload := by rw [pay, n3, part_same (.inr (by omega)), d26, List.take_left]
      rw [hp, n3] at g6
      exact part_differs (l := encode f) (i := i) (a := 26 + f.payload.length) (c := 16) (x := x) hi hx (by omega) (by omega) (by rw [g6, dn, List.take_of_length_le (by rw [second_len]; exact Nat.le_refl _)])
    have hp : (decode ((encode f).set i x)).1.payload = pay ((encode f).set i x) := by rw [g7]
    rw [hp, ← heq, t18]
    constructor
    · intro hc
      exact part_differs (l := encode f) (i := i) (a := 26) (c := f.payload.length) (x := x) hi hx (by omega) (by omega) (by
        have : ((encode f).set i x).drop 26 = ((encode f).set i x).drop 26 := rfl
        rw [pay, n3] at hc
        rw [hc, d26, List.take_left])
    · rw [← g6, n3, part_same (.inl (by omega)), dn, List.take_of_length_le (by rw [second_len]; exact Nat.le_refl _)]
/-- The frames of a stream with consecutive numbers, where they end, and why. -/
def scan (st : Int) : (fuel : Nat) → List UInt8 → Int → List Fr × Nat × Int
  | 0, _, _ => ([], 0, 0)
  | k + 1, s, nb =>
    if s.length = 0 then ([], 0, 0) else
    if (decode s).2.2 ≠ 0 then ([], 0, (decode s).2.2) else
    if (decode s).1.stream ≠ st ∨ (decode s).1.number ≠ nb then ([], 0, 32) else
    let r := scan st k (s.drop (decode s).2.1) (nb + 1)
    ((decode s).1 :: r.1, (decode s).2.1 + r.2.1, r.2.2)
theorem dec_pos {s : List UInt8} (h : (decode s).2.2 = 0) : 42 ≤ (decode s).2.1 ∧ (decode s).2.1 ≤ s.length := by
  obtain ⟨_, _, _, _, _, h6, _, h8⟩ := dec_ok h
  rw [h8]
  exact ⟨by simp, h6⟩
theorem scan_nil {st : Int} (k : Nat) {s : List UInt8} (nb : Int) (h : s.length = 0) : scan st k s nb = ([], 0, 0) := by
  cases k with
  | zero => rfl
  | succ k => rw [scan, if_pos h]
/-- Fuel does not matter. -/
theorem scan_fuel {st : Int} : ∀ (k : Nat) (s : List UInt8) (nb : Int) (m : Nat), s.length ≤ k → s.length ≤ m → scan st k s nb = scan st m s nb
  | 0, s, nb, m, h, _ => by rw [scan_nil 0 nb (by omega), scan_nil m nb (by omega)]
  | k + 1, s, nb, 0, _, h => by rw [scan_nil 0 nb (by omega), scan_nil (k + 1) nb (by omega)]
  | k + 1, s, nb, m + 1, h1, h2 => by
    rw [scan, scan]
    by_cases h0 : s.length = 0
    · rw [if_pos h0, if_pos h0]
    rw [if_neg h0, if_neg h0]
    by_cases he : (decode s).2.2 ≠ 0
    · rw [if_pos he, if_pos he]
    rw [if_neg he, if_neg he]
    have hd := dec_pos (Decidable.byContradiction he)
    rw [scan_fuel k (s.drop (decode s).2.1) (nb + 1) m (by simp; omega) (by simp; omega)]
def scan' (st : Int) (s : List UInt8) (nb : Int) : List Fr × Nat × Int := scan st s.length s nb
theorem scan_end {st : Int} {s : List UInt8} {nb : Int} (h : s.length = 0) : scan' st s nb = ([], 0, 0) := scan_nil _ _ h
theorem scan_err {st : Int} {s : List UInt8} {nb : Int} (h : 0 < s.length) (he : (decode s).2.2 ≠ 0) : scan' st s nb = ([], 0, (decode s).2.2) := by
  unfold scan'
  obtain ⟨k, hk⟩ : ∃ k, s.length = k + 1 := ⟨s.length - 1, by omega⟩
  rw [hk, scan, if_neg (by omega), if_pos he]
theorem scan_seq {st : Int} {s : List UInt8} {nb : Int} (h : 0 < s.length) (he : (decode s).2.2 = 0) (hs : (decode s).1.stream ≠ st ∨ (decode s).1.number ≠ nb) : scan' st s nb = ([], 0, 32) := by
  unfold scan'
  obtain ⟨k, hk⟩ : ∃ k, s.length = k + 1 := ⟨s.length - 1, by omega⟩
  rw [hk, scan, if_neg (by omega), if_neg (fun h => h he), if_pos hs]
theorem scan_next {st : Int} {s : List UInt8} {nb : Int} (h : 0 < s.length) (he : (decode s).2.2 = 0) (hs : ¬ ((decode s).1.stream ≠ st ∨ (decode s).1.number ≠ nb)) :
    scan' st s nb = ((decode s).1 :: (scan' st (s.drop (decode s).2.1) (nb + 1)).1, (decode s).2.1 + (scan' st (s.drop (decode s).2.1) (nb + 1)).2.1, (scan' st (s.drop (decode s).2.1) (nb + 1)).2.2) := by
  have hd := dec_pos he
  unfold scan'
  obtain ⟨k, hk⟩ : ∃ k, s.length = k + 1 := ⟨s.length - 1, by omega⟩
  rw [hk, scan, if_neg (by omega), if_neg (fun h => h he), if_neg hs, scan_fuel k _ _ (s.drop (decode s).2.1).length (by simp; omega) (Nat.le_refl _)]
/-- The frames that are found in any bytes. -/
def salv : (fuel : Nat) → List UInt8 → Nat → List (Nat × Fr)
  | 0, _, _ => []
  | k + 1, s, a =>
    if s.length = 0 then [] else
    if (decode s).2.2 ≠ 0 then salv k (s.drop 1) (a + 1) else
    (a, (decode s).1) :: salv k (s.drop (decode s).2.1) (a + (decode s).2.1)
theorem salv_nil (k : Nat) {s : List UInt8} (a : Nat) (h : s.length = 0) : salv k s a = [] := by
  cases k with
  | zero => rfl
  | succ k => rw [salv, if_pos h]
theorem salv_fuel : ∀ (k : Nat) (s : List UInt8) (a m : Nat), s.length ≤ k → s.length ≤ m → salv k s a = salv m s a
  | 0, s, a, m, h, _ => by rw [salv_nil 0 a (by omega), salv_nil m a (by omega)]
  | k + 1, s, a, 0, _, h => by rw [salv_nil 0 a (by omega), salv_nil (k + 1) a (by omega)]
  | k + 1, s, a, m + 1, h1, h2 => by
    rw [salv, salv]
    by_cases h0 : s.length = 0
    · rw [if_pos h0, if_pos h0]
    rw [if_neg h0, if_neg h0]
    by_cases he : (decode s).2.2 ≠ 0
    · rw [if_pos he, if_pos he, salv_fuel k (s.drop 1) (a + 1) m (by simp; omega) (by simp; omega)]
    rw [if_neg he, if_neg he]
    have hd := dec_pos (Decidable.byContradiction he)
    rw [salv_fuel k (s.drop (decode s).2.1) _ m (by simp; omega) (by simp; omega)]
def salv' (s : List UInt8) (a : Nat) : List (Nat × Fr) := salv s.length s a
theorem salv_end {s : List UInt8} {a : Nat} (h : s.length = 0) : salv' s a = [] := salv_nil _ _ h
theorem salv_skip {s : List UInt8} {a : Nat} (h : 0 < s.length) (he : (decode s).2.2 ≠ 0) : salv' s a = salv' (s.drop 1) (a + 1) := by
  unfold salv'
  obtain ⟨k, hk⟩ : ∃ k, s.length = k + 1 := ⟨s.length - 1, by omega⟩
  rw [hk, salv, if_neg (by omega), if_pos he, salv_fuel k _ _ (s.drop 1).length (by simp; omega) (Nat.le_refl _)]
theorem salv_take {s : List UInt8} {a : Nat} (h : 0 < s.length) (he : (decode s).2.2 = 0) : salv' s a = (a, (decode s).1) :: salv' (s.drop (decode s).2.1) (a + (decode s).2.1) := by
  have hd := dec_pos he
  unfold salv'
  obtain ⟨k, hk⟩ : ∃ k, s.length = k + 1 := ⟨s.length - 1, by omega⟩
  rw [hk, salv, if_neg (by omega), if_neg (fun h => h he), salv_fuel k _ _ (s.drop (decode s).2.1).length (by simp; omega) (Nat.le_refl _)]
theorem salv_free : ∀ (b x : List UInt8) (a : Nat), (∀ c, c ∈ b → c ≠ 245) → (salv' (b ++ x) a).length = (salv' x (a + b.length)).length
  | [], x, a, _ => rfl
  | c :: b, x, a, h => by
    have hc := h c List.mem_cons_self
    have e : (decode (c :: b ++ x)) = (Fr.zero, 0, 3) := dec2 (by simp) (by simpa [List.getD] using hc)
    rw [salv_skip (by simp) (by rw [e]; simp)]
    show (salv' (b ++ x) (a + 1)).length = _
    rw [salv_free b x (a + 1) (fun d hd => h d (List.mem_cons_of_mem _ hd)), List.length_cons]
    congr 2
    omega
/-- All frames are found. -/
theorem salv_all : ∀ (fs : List Fr) (x : List UInt8) (a : Nat), (∀ f, f ∈ fs → check f = 0) → fs.length ≤ (salv' (fs.flatMap encode ++ x) a).length
  | [], x, a, _ => by simp
  | f :: fs, x, a, h => by
    have hf := h f List.mem_cons_self
    have e0 : (f :: fs).flatMap encode ++ x = encode f ++ (fs.flatMap encode ++ x) := by simp
    have e := decode_encode hf (fs.flatMap encode ++ x)
    rw [e0, salv_take (by rw [List.length_append, encode_len]; omega) (by rw [e]), e]
    have hd : (encode f ++ (fs.flatMap encode ++ x)).drop (42 + f.payload.length) = fs.flatMap encode ++ x := List.drop_left' (encode_len f)
    simp only [hd, List.length_cons]
    have := salv_all fs x (a + (42 + f.payload.length)) (fun g hg => h g (List.mem_cons_of_mem _ hg))
    omega
theorem dec_pay (s : List UInt8) : (decode s).1.payload.length ≤ 262144 := by
  by_cases h : (decode s).2.2 = 0
  · obtain ⟨_, _, _, _, h5, _, _, h8⟩ := dec_ok h
    rw [h8]
    show (pay s).length ≤ _
    unfold pay
    simp
    omega
  · rw [(dec_no h).1]
    simp [Fr.zero]
theorem take_part {cs : List Value} {n q : Nat} {b : List UInt8} (h : cs.take n = bv b) (hq : q ≤ n) : (cs.drop 0).take q = bv (b.take q) := by
  rw [List.drop_zero, show cs.take q = (cs.take n).take q by rw [List.take_take, Nat.min_eq_left hq], h]
  simp [bv, List.map_take]
end Go.Frm
