/- Frames, in plain Lean: encoding and decoding. -/
import Derived.Test.YtigjmemoaapmgaaDoorEng5
import Derived.Test.YtigjmemoaapmgaaDoorShaSpec4
set_option linter.unusedVariables false
namespace Go.Frm
open Go.V Go.Sha
/-- A frame. -/
structure Fr where
  kind : Int
  stream : Int
  number : Int
  payload : List UInt8
  deriving DecidableEq
def Fr.zero : Fr := ⟨0, 0, 0, []⟩
def Fr.cells (f : Fr) : List Value := [.int .i64 f.kind, .int .i64 f.stream, .int .i64 f.number, .string (str f.payload)]
/-- A digest's first bytes. -/
def bytesOf (d : List Int) : List UInt8 := d.map fun z => UInt8.ofNat z.toNat
def first (h : List UInt8) : List UInt8 := bytesOf ((sum (join 10 [h])).take 8)
def second (h p : List UInt8) : List UInt8 := bytesOf ((sum (join 11 [h, p])).take 16)
theorem first_len (h : List UInt8) : (first h).length = 8 := by
  have := (sum_ok (join 10 [h])).1
  simp [first, bytesOf]; omega
theorem second_len (h p : List UInt8) : (second h p).length = 16 := by
  have := (sum_ok (join 11 [h, p])).1
  simp [second, bytesOf]; omega
/-- A number, its greatest byte first. -/
def beN : Nat → Nat → List UInt8
  | 0, _ => []
  | k + 1, n => UInt8.ofNat (n / 256 ^ k) :: beN k n
theorem beN_len (k n : Nat) : (beN k n).length = k := by induction k with
  | zero => rfl
  | succ k ih => simp [beN, ih]
def num (l : List UInt8) : Nat := l.foldl (fun n b => n * 256 + b.toNat) 0
theorem num_snoc (l : List UInt8) (b : UInt8) : num (l ++ [b]) = num l * 256 + b.toNat := by simp [num]
theorem fold_num (l : List UInt8) (a : Nat) : l.foldl (fun n b => n * 256 + b.toNat) a = a * 256 ^ l.length + num l := by
  induction l generalizing a with
  | nil => simp [num]
  | cons b l ih =>
    simp only [num, List.foldl_cons]
    rw [ih (a * 256 + b.toNat), ih (0 * 256 + b.toNat), List.length_cons, Nat.pow_succ]
    generalize 256 ^ l.length = p
    grind
theorem num_cons (b : UInt8) (l : List UInt8) : num (b :: l) = b.toNat * 256 ^ l.length + num l := by
  have := fold_num l (0 * 256 + b.toNat)
  simpa [num] using this
theorem num_lt (l : List UInt8) : num l < 256 ^ l.length := by
  induction l with
  | nil => simp [num]
  | cons b l ih =>
    rw [num_cons, List.length_cons, Nat.pow_succ]
    have hb := b.toNat_lt
    have h1 : b.toNat * 256 ^ l.length ≤ 255 * 256 ^ l.length := Nat.mul_le_mul_right _ (by omega)
    omega
theorem num_beN (k n : Nat) : num (beN k n) = n % 256 ^ k := by
  induction k with
  | zero => simp [beN, num, Nat.mod_one]
  | succ k ih =>
    rw [beN, num_cons, beN_len, ih, Nat.mod_pow_succ, UInt8.toNat_ofNat', show (2 : Nat) ^ 8 = 256 from rfl, Nat.mul_comm, Nat.add_comm]
theorem num_back {k n : Nat} (h : n < 256 ^ k) : num (beN k n) = n := by rw [num_beN, Nat.mod_eq_of_lt h]
theorem num_take (l : List UInt8) (i : Nat) (h : i < l.length) : num (l.take (i + 1)) = num (l.take i) * 256 + (l.getD i 0).toNat := by
  have e : l.take (i + 1) = l.take i ++ [l.getD i 0] := by
    rw [List.take_add_one]
    simp [h, List.getD]
  rw [e, num_snoc]
/-- A prefix's number is no greater. -/
theorem num_prefix (l : List UInt8) (i : Nat) : num (l.take i) ≤ num l := by
  have : num l = num (l.take i ++ l.drop i) := by rw [List.take_append_drop]
  rw [this]
  have e : num (l.take i ++ l.drop i) = num (l.take i) * 256 ^ (l.drop i).length + num (l.drop i) := by
    rw [num, List.foldl_append, fold_num]
    rfl
  rw [e]
  have h : 0 < 256 ^ (l.drop i).length := Nat.pow_pos (by decide)
  have := Nat.le_mul_of_pos_right (num (l.take i)) h
  omega
/-- The first 18 bytes. -/
def header (f : Fr) : List UInt8 := 245 :: (beN 1 f.kind.toNat ++ (beN 4 f.stream.toNat ++ (beN 8 f.number.toNat ++ beN 4 f.payload.length)))
theorem header_len (f : Fr) : (header f).length = 18 := by simp [header, beN_len]
def encode (f : Fr) : List UInt8 := header f ++ (first (header f) ++ (f.payload ++ second (header f) f.payload))
theorem encode_len (f : Fr) : (encode f).length = 42 + f.payload.length := by
  simp [encode, header_len, first_len, second_len]; omega
def inside (s n : Int) : Prop := 0 ≤ s ∧ s ≤ 2147483647 ∧ 0 ≤ n ∧ n ≤ 1099511627775
instance (s n : Int) : Decidable (inside s n) := by unfold inside; infer_instance
/-- The first error of a frame. -/
def check (f : Fr) : Int := if f.kind < 0 ∨ 255 < f.kind then 11 else if ¬ inside f.stream f.number then 2 else if 262144 < f.payload.length then 5 else 0
theorem check_ok {f : Fr} (h : check f = 0) : 0 ≤ f.kind ∧ f.kind ≤ 255 ∧ inside f.stream f.number ∧ f.payload.length ≤ 262144 := by
  unfold check at h
  split at h
  · simp at h
  · split at h
    · simp at h
    · split at h
      · simp at h
      · rename_i h1 h2 h3
        exact ⟨by omega, by omega, Decidable.byContradiction h2, by omega⟩
def stN (s : List UInt8) : Nat := num ((s.drop 2).take 4)
def nbN (s : List UInt8) : Nat := num ((s.drop 6).take 8)
def lnN (s : List UInt8) : Nat := num ((s.drop 14).take 4)
def pay (s : List UInt8) : List UInt8 := (s.drop 26).take (lnN s)
/-- The frame at the beginning of bytes, its size, and the error. -/
def decode (s : List UInt8) : Fr × Nat × Int :=
  if s.length = 0 then (Fr.zero, 0, 28) else
  if s.getD 0 0 ≠ 245 then (Fr.zero, 0, 3) else
  if s.length < 26 then (Fr.zero, 0, 28) else
  if (s.drop 18).take 8 ≠ first (s.take 18) then (Fr.zero, 0, 27) else
  if 2147483647 < stN s ∨ 1099511627775 < nbN s then (Fr.zero, 0, 2) else
  if 262144 < lnN s then (Fr.zero, 0, 5) else
  if s.length < 42 + lnN s then (Fr.zero, 0, 28) else
  if (s.drop (26 + lnN s)).take 16 ≠ second (s.take 18) (pay s) then (Fr.zero, 0, 27) else
  (⟨((s.getD 1 0).toNat : Int), (stN s : Int), (nbN s : Int), pay s⟩, 42 + lnN s, 0)
section
variable {s : List UInt8}
theorem dec1 (h1 : s.length = 0) : decode s = (Fr.zero, 0, 28) := by unfold decode; rw [if_pos h1]
theorem dec2 (h1 : ¬ s.length = 0) (h2 : s.getD 0 0 ≠ 245) : decode s = (Fr.zero, 0, 3) := by unfold decode; rw [if_neg h1, if_pos h2]
theorem dec3 (h1 : ¬ s.length = 0) (h2 : ¬ s.getD 0 0 ≠ 245) (h3 : s.length < 26) : decode s = (Fr.zero, 0, 28) := by unfold decode; rw [if_neg h1, if_neg h2, if_pos h3]
theorem dec4 (h2 : ¬ s.getD 0 0 ≠ 245) (h3 : ¬ s.length < 26) (h4 : (s.drop 18).take 8 ≠ first (s.take 18)) : decode s = (Fr.zero, 0, 27) := by unfold decode; rw [if_neg (by omega), if_neg h2, if_neg h3, if_pos h4]
theorem dec5 (h2 : ¬ s.getD 0 0 ≠ 245) (h3 : ¬ s.length < 26) (h4 : ¬ (s.drop 18).take 8 ≠ first (s.take 18)) (h5 : 2147483647 < stN s ∨ 1099511627775 < nbN s) : decode s = (Fr.zero, 0, 2) := by
  unfold decode; rw [if_neg (by omega), if_neg h2, if_neg h3, if_neg h4, if_pos h5]
theorem dec6 (h2 : ¬ s.getD 0 0 ≠ 245) (h3 : ¬ s.length < 26) (h4 : ¬ (s.drop 18).take 8 ≠ first (s.take 18)) (h5 : ¬ (2147483647 < stN s ∨ 1099511627775 < nbN s)) (h6 : 262144 < lnN s) : decode s = (Fr.zero, 0, 5) := by
  unfold decode; rw [if_neg (by omega), if_neg h2, if_neg h3, if_neg h4, if_neg h5, if_pos h6]
theorem dec7 (h2 : ¬ s.getD 0 0 ≠ 245) (h3 : ¬ s.length < 26) (h4 : ¬ (s.drop 18).take 8 ≠ first (s.take 18)) (h5 : ¬ (2147483647 < stN s ∨ 1099511627775 < nbN s)) (h6 : ¬ 262144 < lnN s) (h7 : s.length < 42 + lnN s) :
    decode s = (Fr.zero, 0, 28) := by
  unfold decode; rw [if_neg (by omega), if_neg h2, if_neg h3, if_neg h4, if_neg h5, if_neg h6, if_pos h7]
theorem dec8 (h2 : ¬ s.getD 0 0 ≠ 245) (h3 : ¬ s.length < 26) (h4 : ¬ (s.drop 18).take 8 ≠ first (s.take 18)) (h5 : ¬ (2147483647 < stN s ∨ 1099511627775 < nbN s)) (h6 : ¬ 262144 < lnN s) (h7 : ¬ s.length < 42 + lnN s)
    (h8 : (s.drop (26 + lnN s)).take 16 ≠ second (s.take 18) (pay s)) : decode s = (Fr.zero, 0, 27) := by
  unfold decode; rw [if_neg (by omega), if_neg h2, if_neg h3, if_neg h4, if_neg h5, if_neg h6, if_neg h7, if_pos h8]
theorem dec9 (h2 : ¬ s.getD 0 0 ≠ 245) (h3 : ¬ s.length < 26) (h4 : ¬ (s.drop 18).take 8 ≠ first (s.take 18)) (h5 : ¬ (2147483647 < stN s ∨ 1099511627775 < nbN s)) (h6 : ¬ 262144 < lnN s) (h7 : ¬ s.length < 42 + lnN s)
    (h8 : ¬ (s.drop (26 + lnN s)).take 16 ≠ second (s.take 18) (pay s)) : decode s = (⟨((s.getD 1 0).toNat : Int), (stN s : Int), (nbN s : Int), pay s⟩, 42 + lnN s, 0) := by
  unfold decode; rw [if_neg (by omega), if_neg h2, if_neg h3, if_neg h4, if_neg h5, if_neg h6, if_neg h7, if_neg h8]
/-- What an accepted frame says. -/
theorem dec_ok (h : (decode s).2.2 = 0) : s.getD 0 0 = 245 ∧ 26 ≤ s.length ∧ (s.drop 18).take 8 = first (s.take 18) ∧ ¬ (2147483647 < stN s ∨ 1099511627775 < nbN s) ∧ lnN s ≤ 262144 ∧ 42 + lnN s ≤ s.length ∧
    (s.drop (26 + lnN s)).take 16 = second (s.take 18) (pay s) ∧ decode s = (⟨((s.getD 1 0).toNat : Int), (stN s : Int), (nbN s : Int), pay s⟩, 42 + lnN s, 0) := by
  by_cases h1 : s.length = 0
  · rw [dec1 h1] at h; simp at h
  by_cases h2 : s.getD 0 0 ≠ 245
  · rw [dec2 h1 h2] at h; simp at h
  by_cases h3 : s.length < 26
  · rw [dec3 h1 h2 h3] at h; simp at h
  by_cases h4 : (s.drop 18).take 8 ≠ first (s.take 18)
  · rw [dec4 h2 h3 h4] at h; simp at h
  by_cases h5 : 2147483647 < stN s ∨ 1099511627775 < nbN s
  · rw [dec5 h2 h3 h4 h5] at h; simp at h
  by_cases h6 : 262144 < lnN s
  · rw [dec6 h2 h3 h4 h5 h6] at h; simp at h
  by_cases h7 : s.length < 42 + lnN s
  · rw [dec7 h2 h3 h4 h5 h6 h7] at h; simp at h
  by_cases h8 : (s.drop (26 + lnN s)).take 16 ≠ second (s.take 18) (pay s)
  · rw [dec8 h2 h3 h4 h5 h6 h7 h8] at h; simp at h
  exact ⟨Decidable.byContradiction h2, by omega, Decidable.byContradiction h4, h5, by omega, by omega, Decidable.byContradiction h8, dec9 h2 h3 h4 h5 h6 h7 h8⟩
theorem dec_no (h : (decode s).2.2 ≠ 0) : (decode s).1 = Fr.zero ∧ (decode s).2.1 = 0 := by
  by_cases h1 : s.length = 0
  · rw [dec1 h1]; exact ⟨rfl, rfl⟩
  by_cases h2 : s.getD 0 0 ≠ 245
  · rw [dec2 h1 h2]; exact ⟨rfl, rfl⟩
  by_cases h3 : s.length < 26
  · rw [dec3 h1 h2 h3]; exact ⟨rfl, rfl⟩
  by_cases h4 : (s.drop 18).take 8 ≠ first (s.take 18)
  · rw [dec4 h2 h3 h4]; exact ⟨rfl, rfl⟩
  by_cases h5 : 2147483647 < stN s ∨ 1099511627775 < nbN s
  · rw [dec5 h2 h3 h4 h5]; exact ⟨rfl, rfl⟩
  by_cases h6 : 262144 < lnN s
  · rw [dec6 h2 h3 h4 h5 h6]; exact ⟨rfl, rfl⟩
  by_cases h7 : s.length < 42 + lnN s
  · rw [dec7 h2 h3 h4 h5 h6 h7]; exact ⟨rfl, rfl⟩
  by_cases h8 : (s.drop (26 + lnN s)).take 16 ≠ second (s.take 18) (pay s)
  · rw [dec8 h2 h3 h4 h5 h6 h7 h8]; exact ⟨rfl, rfl⟩
  · rw [dec9 h2 h3 h4 h5 h6 h7 h8] at h; simp at h
theorem dec_size : (decode s).2.1 ≤ s.length := by
  by_cases h : (decode s).2.2 = 0
  · obtain ⟨_, _, _, _, _, h6, _, h8⟩ := dec_ok h
    rw [h8]; exact h6
  · rw [(dec_no h).2]; omega
end
/-- What stands at the beginning of bytes that begin with a header. -/
theorem take_of {f : Fr} {r : List UInt8} : ((header f ++ r).drop 2).take 4 = beN 4 f.stream.toNat ∧ ((header f ++ r).drop 6).take 8 = beN 8 f.number.toNat ∧ ((header f ++ r).drop 14).take 4 = beN 4 f.payload.length := by
  have h1 : header f ++ r = (245 :: beN 1 f.kind.toNat) ++ (beN 4 f.stream.toNat ++ (beN 8 f.number.toNat ++ (beN 4 f.payload.length ++ r))) := by simp [header]
  have e1 : (245 :: beN 1 f.kind.toNat).length = 2 := by simp [beN_len]
  have d2 : (header f ++ r).drop 2 = beN 4 f.stream.toNat ++ (beN 8 f.number.toNat ++ (beN 4 f.payload.length ++ r)) := by rw [h1, ← e1, List.drop_left]
  have d6 : (header f ++ r).drop 6 = beN 8 f.number.toNat ++ (beN 4 f.payload.length ++ r) := by
    rw [show (6 : Nat) = 2 + 4 from rfl, ← List.drop_drop, d2, List.drop_left' (beN_len 4 _)]
  have d14 : (header f ++ r).drop 14 = beN 4 f.payload.length ++ r := by
    rw [show (14 : Nat) = 6 + 8 from rfl, ← List.drop_drop, d6, List.drop_left' (beN_len 8 _)]
  exact ⟨by rw [d2, List.take_left' (beN_len 4 _)], by rw [d6, List.take_left' (beN_len 8 _)], by rw [d14, List.take_left' (beN_len 4 _)]⟩
theorem nums_of {f : Fr} {r : List UInt8} (h : check f = 0) : stN (header f ++ r) = f.stream.toNat ∧ nbN (header f ++ r) = f.number.toNat ∧ lnN (header f ++ r) = f.payload.length ∧ ((header f ++ r).getD 0 0) = 245 ∧ (((header f ++ r).getD 1 0).toNat : Int) = f.kind := by
  obtain ⟨h0, h1, h2, h3⟩ := check_ok h
  obtain ⟨i0, i1, i2, i3⟩ := h2
  obtain ⟨t1, t2, t3⟩ := take_of (f := f) (r := r)
  refine ⟨by rw [stN, t1, num_back (by omega)], by rw [nbN, t2, num_back (by omega)], by rw [lnN, t3, num_back (by omega)], rfl, ?_⟩
  have : (header f ++ r).getD 1 0 = UInt8.ofNat (f.kind.toNat / 256 ^ 0) := rfl
  rw [this, UInt8.toNat_ofNat']
  omega
/-- Decode returns the frame, whatever follows. -/
theorem decode_encode {f : Fr} (h : check f = 0) (m : List UInt8) : decode (encode f ++ m) = (f, 42 + f.payload.length, 0) := by
  have e : encode f ++ m = header f ++ (first (header f) ++ (f.payload ++ (second (header f) f.payload ++ m))) := by simp [encode]
  obtain ⟨h0, h1, h2, h3⟩ := check_ok h
  obtain ⟨n1, n2, n3, n4, n5⟩ := nums_of (r := first (header f) ++ (f.payload ++ (second (header f) f.payload ++ m))) h
  rw [← e] at n1 n2 n3 n4 n5
  have hl := header_len f
  have t18 : (encode f ++ m).take 18 = header f := by rw [e, List.take_left' hl]
  have d18 : (encode f ++ m).drop 18 = first (header f) ++ (f.payload ++ (second (header f) f.payload ++ m)) := by rw [e, List.drop_left' hl]
  have d26 : (encode f ++ m).drop 26 = f.payload ++ (second (header f) f.payload ++ m) := by
    rw [show (26 : Nat) = 18 + 8 from rfl, ← List.drop_drop, d18, List.drop_left' (first_len _)]
  have dn : (encode f ++ m).drop (26 + f.payload.length) = second (header f) f.payload ++ m := by
    rw [← List.drop_drop, d26, List.drop_left]
  have hp : pay (encode f ++ m) = f.payload := by rw [pay, n3, d26, List.take_left]
  have hlen : (encode f ++ m).length = 42 + f.payload.length + m.length := by rw [List.length_append, encode_len]
  rw [dec9 (fun h => h n4) (by omega) (fun h => h (by rw [d18, t18, List.take_left' (first_len _)])) (by rw [n1, n2]; obtain ⟨i0, i1, i2, i3⟩ := h2; omega) (by omega) (by omega)
    (fun h => h (by rw [n3, dn, t18, hp, List.take_left' (second_len _ _)]))]
  rw [n5, n1, n2, n3, hp]
  obtain ⟨i0, i1, i2, i3⟩ := h2
  rw [show ((f.stream.toNat : Nat) : Int) = f.stream by omega, show ((f.number.toNat : Nat) : Int) = f.number by omega]
/-- A proper beginning of a frame is truncated. -/
theorem decode_cut {f : Fr} (h : check f = 0) (k : Nat) (hk : k < (encode f).length) : decode ((encode f).take k) = (Fr.zero, 0, 28) := by
  have hel := encode_len f
  have hlen : ((encode f).take k).length = k := by simp; omega
  obtain ⟨h0, h1, h2, h3⟩ := check_ok h
  by_cases h0 : k = 0
  · exact dec1 (by omega)
  have hg : ((encode f).take k).getD 0 0 = 245 := by
    have : (encode f).getD 0 0 = 245 := rfl
    rw [← this]
    simp [List.getD, List.getElem?_take_of_lt (show 0 < k by omega)]
  by_cases h26 : k < 26
  · exact dec3 (by omega) (fun h => h hg) (by omega)
  have e : (encode f).take k = header f ++ (first (header f) ++ (f.payload ++ second (header f) f.payload).take (k - 26)) := by
    unfold encode
    rw [List.take_append, header_len, List.take_of_length_le (by rw [header_len]; omega), List.take_append, first_len, List.take_of_length_le (by rw [first_len]; omega), show k - 18 - 8 = k - 26 by omega]
  obtain ⟨n1, n2, n3, n4, n5⟩ := nums_of (r := first (header f) ++ (f.payload ++ second (header f) f.payload).take (k - 26)) h
  rw [← e] at n1 n2 n3
  obtain ⟨i0, i1, i2, i3⟩ := h2
  have t18 : ((encode f).take k).take 18 = header f := by rw [e, List.take_left' (header_len f)]
  have d18 : ((encode f).take k).drop 18 = first (header f) ++ (f.payload ++ second (header f) f.payload).take (k - 26) := by rw [e, List.drop_left' (header_len f)]
  exact dec7 (fun h => h hg) (by omega) (fun h => h (by rw [d18, t18, List.take_left' (first_len _)])) (by rw [n1, n2]; omega) (by omega) (by rw [n3]; omega)
theorem bt_at (s : List UInt8) (i : Nat) (c : UInt8) : bt s i = (c.toNat : Int) ↔ s.getD i 0 = c := by
  unfold bt
  constructor
  · intro h; exact UInt8.toNat_inj.1 (by omega)
  · intro h; rw [h]
theorem bt245 (s : List UInt8) : bt s 0 = 245 ↔ s.getD 0 0 = 245 := bt_at s 0 245
theorem or_nat64 (a b : Nat) (ha : a < 2 ^ 64) (hb : b < 2 ^ 64) : bits .or .u64 (a : Int) (b : Int) = ((a ||| b : Nat) : Int) := by
  have hx : a ||| b < 2 ^ 64 := Nat.or_lt_two_pow ha hb
  show IntKind.u64.wrap ((BitVec.ofInt 64 (a : Int) ||| BitVec.ofInt 64 (b : Int)).toNat : Int) = _
  rw [BitVec.toNat_or, BitVec.ofInt_natCast, BitVec.ofInt_natCast, BitVec.toNat_ofNat, BitVec.toNat_ofNat, Nat.mod_eq_of_lt ha, Nat.mod_eq_of_lt hb, u64w]
  omega
theorem or_byte (a : Nat) (ha : a < 2 ^ 56) (b : UInt8) : bits .or .u64 (((a : Int) * 256) % 18446744073709551616) ((b.toNat : Nat) : Int) = ((a * 256 + b.toNat : Nat) : Int) := by
  have hb := b.toNat_lt
  have e : ((a : Int) * 256) % 18446744073709551616 = ((2 ^ 8 * a : Nat) : Int) := by omega
  rw [e, or_nat64 _ _ (by omega) (by omega), ← Nat.two_pow_add_eq_or_of_lt (by omega)]
  omega
/-- The fields of a header: their sizes, where they begin, and what has been read of them. -/
def fldL : List Int := [1, 4, 8, 4]
def fld (i : Nat) : Nat := [1, 4, 8, 4].getD i 0
def off (i : Nat) : Nat := [1, 2, 6, 14, 18].getD i 0
def kN (s : List UInt8) : Nat := num ((s.drop 1).take 1)
def nums (s : List UInt8) : Nat → List Int
  | 0 => [0, 0, 0, 0]
  | 1 => [(kN s : Int), 0, 0, 0]
  | 2 => [(kN s : Int), (stN s : Int), 0, 0]
  | 3 => [(kN s : Int), (stN s : Int), (nbN s : Int), 0]
  | _ => [(kN s : Int), (stN s : Int), (nbN s : Int), (lnN s : Int)]
theorem nums_len (s : List UInt8) : ∀ i, (nums s i).length = 4
  | 0 => rfl
  | 1 => rfl
  | 2 => rfl
  | 3 => rfl
  | _ + 4 => rfl
theorem off_fld : ∀ i, i < 4 → off (i + 1) = off i + fld i ∧ off (i + 1) ≤ 18 ∧ fld i ≤ 8 ∧ fldL.getD i 0 = (fld i : Int) := by decide
theorem nums_at (s : List UInt8) : ∀ i, i < 4 → (nums s i).set i 0 = nums s i
  | 0, _ => rfl
  | 1, _ => rfl
  | 2, _ => rfl
  | 3, _ => rfl
  | n + 4, h => by omega
theorem nums_next (s : List UInt8) : ∀ i, i < 4 → (nums s i).set i ((num ((s.drop (off i)).take (fld i)) : Nat) : Int) = nums s (i + 1)
  | 0, _ => rfl
  | 1, _ => rfl
  | 2, _ => rfl
  | 3, _ => rfl
  | n + 4, h => by omega
theorem kN_eq {s : List UInt8} (h : 1 < s.length) : kN s = (s.getD 1 0).toNat := by
  have := num_take (s.drop 1) 0 (by simp; omega)
  unfold kN
  rw [this]
  simp [num, List.getD]
theorem num_step {s : List UInt8} {o j : Nat} (h : o + j < s.length) : num ((s.drop o).take (j + 1)) = num ((s.drop o).take j) * 256 + (s.getD (o + j) 0).toNat := by
  rw [num_take _ _ (by simp; omega)]
  simp [List.getD]
theorem num_small (s : List UInt8) (o j : Nat) (h : j ≤ 7) : num ((s.drop o).take j) < 2 ^ 56 := by
  have h1 := num_lt ((s.drop o).take j)
  have h2 : ((s.drop o).take j).length ≤ 7 := by simp; omega
  have h3 : 256 ^ ((s.drop o).take j).length ≤ 256 ^ 7 := Nat.pow_le_pow_right (by decide) h2
  omega
theorem lnN_lt (s : List UInt8) : lnN s < 4294967296 := by
  have h1 := num_lt ((s.drop 14).take 4)
  have h2 : ((s.drop 14).take 4).length ≤ 4 := by simp; omega
  have h3 : 256 ^ ((s.drop 14).take 4).length ≤ 256 ^ 4 := Nat.pow_le_pow_right (by decide) h2
  unfold lnN
  omega
theorem bytesOf_cells {d : List Int} (hd : Dig d) (m : Nat) : ((iv .u8 d).drop 0).take m = bv (bytesOf (d.take m)) := by
  rw [List.drop_zero]
  unfold iv bv bytesOf
  rw [← List.map_take, List.map_map]
  apply List.map_congr_left
  intro x hx
  have := hd.2 x (List.mem_of_mem_take hx)
  simp only [Function.comp_apply, Value.int.injEq, true_and]
  rw [UInt8.toNat_ofNat', Nat.mod_eq_of_lt (by omega)]
  omega
theorem beN_take : ∀ (k n j : Nat), j < k → (beN k n).take (j + 1) = (beN k n).take j ++ [UInt8.ofNat (n / 2 ^ (8 * (k - 1 - j)))]
  | 0, _, _, h => by omega
  | k + 1, n, 0, _ => by
    have : (256 : Nat) ^ k = 2 ^ (8 * k) := by rw [show (256 : Nat) = 2 ^ 8 from rfl, ← Nat.pow_mul]
    simp [beN, this]
  | k + 1, n, j + 1, h => by
    have ih := beN_take k n j (by omega)
    simp only [beN, List.take_succ_cons, List.cons_append]
    rw [ih, show k + 1 - 1 - (j + 1) = k - 1 - j by omega]
/-- A number in some bytes, as the reference reads it: -1 if it is too large. -/
def rnum (l : List UInt8) : Int := if 8 ≤ l.length ∧ 1125899906842624 < num (l.take 7) then -1 else (num l : Int)
theorem num_take_lt (l : List UInt8) {j : Nat} (h : j ≤ 6) : num (l.take j) ≤ 281474976710656 := by
  have h1 := num_lt (l.take j)
  have h2 : (l.take j).length ≤ 6 := by simp; omega
  have h3 : 256 ^ (l.take j).length ≤ 256 ^ 6 := Nat.pow_le_pow_right (by decide) h2
  omega
theorem rnum_big {l : List UInt8} {j : Nat} (hl : l.length ≤ 8) (hj : j < l.length) (hb : 1125899906842624 < num (l.take j)) : rnum l = -1 := by
  have h7 : j = 7 := by
    apply Decidable.byContradiction
    intro h
    have := num_take_lt l (show j ≤ 6 by omega)
    omega
  subst h7
  unfold rnum
  rw [if_pos ⟨by omega, hb⟩]
theorem rnum_all {l : List UInt8} (h : l.length = 8 → num (l.take 7) ≤ 1125899906842624) (hl : l.length ≤ 8 := by omega) : rnum l = (num l : Int) := by
  unfold rnum
  rw [if_neg]
  rintro ⟨h1, h2⟩
  have := h (by omega)
  omega
def fv (f : Fr) (i : Nat) : Nat := [f.kind.toNat, f.stream.toNat, f.number.toNat, f.payload.length].getD i 0
def hdrTo (f : Fr) : Nat → List UInt8
  | 0 => [245]
  | i + 1 => hdrTo f i ++ beN (fld i) (fv f i)
theorem hdrTo_succ (f : Fr) (i : Nat) : hdrTo f (i + 1) = hdrTo f i ++ beN (fld i) (fv f i) := rfl
theorem hdrTo_all (f : Fr) : hdrTo f 4 = header f := by
  simp [hdrTo, header, fld, fv]
theorem fld_le : ∀ i, fld i ≤ 8
  | 0 => by decide
  | 1 => by decide
  | 2 => by decide
  | 3 => by decide
  | _ + 4 => by simp [fld]
theorem hdrTo_len (f : Fr) : ∀ i, i ≤ 4 → (hdrTo f i).length ≤ 1 + 8 * i
  | 0, _ => by simp [hdrTo]
  | i + 1, h => by
    have := hdrTo_len f i (by omega)
    have h2 := fld_le i
    rw [hdrTo, List.length_append, beN_len]
    omega
theorem fv_val {f : Fr} (h : check f = 0) : ∀ i, i < 4 → [f.kind, f.stream, f.number, (f.payload.length : Int)].getD i 0 = (fv f i : Int) ∧ fv f i < 9223372036854775808 := by
  obtain ⟨h0, h1, h2, h3⟩ := check_ok h
  obtain ⟨i0, i1, i2, i3⟩ := h2
  intro i hi
  rcases (show i = 0 ∨ i = 1 ∨ i = 2 ∨ i = 3 by omega) with rfl | rfl | rfl | rfl
  · exact ⟨show f.kind = ((f.kind.toNat : Nat) : Int) by omega, show f.kind.toNat < _ by omega⟩
  · exact ⟨show f.stream = ((f.stream.toNat : Nat) : Int) by omega, show f.stream.toNat < _ by omega⟩
  · exact ⟨show f.number = ((f.number.toNat : Nat) : Int) by omega, show f.number.toNat < _ by omega⟩
  · exact ⟨rfl, show f.payload.length < _ by omega⟩
theorem rnum_short {l : List UInt8} (h : l.length ≤ 7) : rnum l = (num l : Int) := by
  unfold rnum
  rw [if_neg (by omega)]
theorem rnum_num {s : List UInt8} : (rnum ((s.drop 6).take 8) < 0 → 1099511627775 < nbN s) ∧ (0 ≤ rnum ((s.drop 6).take 8) → rnum ((s.drop 6).take 8) = (nbN s : Int)) := by
  unfold rnum nbN
  split
  · rename_i h
    refine ⟨fun _ => ?_, fun h => by simp at h⟩
    have := num_prefix ((s.drop 6).take 8) 7
    omega
  · exact ⟨fun h => by omega, fun _ => rfl⟩
/-- Whether two frames are equal. -/
def frSame (a b : Fr) : Bool := decide (a.kind = b.kind) && (decide (a.stream = b.stream) && (decide (a.number = b.number) && (decide (a.payload = b.payload) && true)))
theorem frSame_self (a : Fr) : frSame a a = true := by simp [frSame]
theorem frSame_iff (a b : Fr) : frSame a b = true ↔ a = b := by
  cases a; cases b
  simp [frSame]
def Fr.short (f : Fr) : Fr := ⟨f.kind, f.stream, f.number, f.payload.take 300⟩
/-- The example that 'known' tries. -/
def fr0 : Fr := ⟨1, 2, 3, [97, 98]⟩
/-- A Reader's cells. -/
def rcells (s n : Int) (wait : List UInt8) (e : Int) : List Value := [.int .i64 s, .int .i64 n, .string (str wait), .int .i64 e]
theorem bytesOf_all {d : List Int} (hd : ∀ x, x ∈ d → 0 ≤ x ∧ x ≤ 255) {m : Nat} (h : d.length ≤ m) : ((iv .u8 d).drop 0).take m = bv (bytesOf d) := by
  rw [List.drop_zero, List.take_of_length_le (by rw [iv_len]; exact h)]
  unfold iv bv bytesOf
  rw [List.map_map]
  apply List.map_congr_left
  intro x hx
  have := hd x hx
  simp only [Function.comp_apply, Value.int.injEq, true_and]
  rw [UInt8.toNat_ofNat', Nat.mod_eq_of_lt (by omega)]
  omega
end Go.Frm
