/- SHA-256 in plain Lean, as the loops of the program and of the reference compute it; no program in sight. Conditions: none. -/
import Derived.Test.YtigjmemoaapmgaaDoorEng
set_option linter.unusedVariables false
namespace Go.Sha
open Go.V



theorem w32_bd (n : Int) : 0 ≤ w32 n ∧ w32 n ≤ 4294967295 := by unfold w32; omega
theorem w32_in {n : Int} (h0 : 0 ≤ n) (h1 : n ≤ 4294967295) : w32 n = n := by unfold w32; omega

def K : List Int := [
  0x428a2f98, 0x71374491, 0xb5c0fbcf, 0xe9b5dba5, 0x3956c25b, 0x59f111f1, 0x923f82a4, 0xab1c5ed5,
  0xd807aa98, 0x12835b01, 0x243185be, 0x550c7dc3, 0x72be5d74, 0x80deb1fe, 0x9bdc06a7, 0xc19bf174,
  0xe49b69c1, 0xefbe4786, 0x0fc19dc6, 0x240ca1cc, 0x2de92c6f, 0x4a7484aa, 0x5cb0a9dc, 0x76f988da,
  0x983e5152, 0xa831c66d, 0xb00327c8, 0xbf597fc7, 0xc6e00bf3, 0xd5a79147, 0x06ca6351, 0x14292967,
  0x27b70a85, 0x2e1b2138, 0x4d2c6dfc, 0x53380d13, 0x650a7354, 0x766a0abb, 0x81c2c92e, 0x92722c85,
  0xa2bfe8a1, 0xa81a664b, 0xc24b8b70, 0xc76c51a3, 0xd192e819, 0xd6990624, 0xf40e3585, 0x106aa070,
  0x19a4c116, 0x1e376c08, 0x2748774c, 0x34b0bcb5, 0x391c0cb3, 0x4ed8aa4a, 0x5b9cca4f, 0x682e6ff3,
  0x748f82ee, 0x78a5636f, 0x84c87814, 0x8cc70208, 0x90befffa, 0xa4506ceb, 0xbef9a3f7, 0xc67178f2]

/-- A word turned to the right. -/
def rotr (m : Nat) (x : Int) : Int := bits .or .u32 (w32 (x * 2 ^ (32 - m))) (x / 2 ^ m)
def xor2 (a b : Int) : Int := bits .xor .u32 a b
def s0 (x : Int) : Int := bits .xor .u32 (bits .xor .u32 (rotr 7 x) (rotr 18 x)) (x / 8)
def s1 (x : Int) : Int := bits .xor .u32 (bits .xor .u32 (rotr 17 x) (rotr 19 x)) (x / 1024)
def S0 (x : Int) : Int := bits .xor .u32 (bits .xor .u32 (rotr 2 x) (rotr 13 x)) (rotr 22 x)
def S1 (x : Int) : Int := bits .xor .u32 (bits .xor .u32 (rotr 6 x) (rotr 11 x)) (rotr 25 x)
def ch (e f g : Int) : Int := bits .xor .u32 (bits .and .u32 e f) (bits .and .u32 (bits .xor .u32 4294967295 e) g)
def maj (a b c : Int) : Int := bits .xor .u32 (bits .xor .u32 (bits .and .u32 a b) (bits .and .u32 a c)) (bits .and .u32 b c)

/-- Word t of a block whose bytes are f. -/
def word (f : Nat → Int) (t : Nat) : Int := f (4 * t) * 16777216 + f (4 * t + 1) * 65536 + f (4 * t + 2) * 256 + f (4 * t + 3)
def next (ws : List Int) (t : Nat) : Int := w32 (w32 (w32 (ws.getD (t - 16) 0 + s0 (ws.getD (t - 15) 0)) + ws.getD (t - 7) 0) + s1 (ws.getD (t - 2) 0))
def schedTo (f : Nat → Int) : Nat → List Int
  | 0 => List.replicate 64 0
  | t + 1 => (schedTo f t).set t (if t < 16 then word f t else next (schedTo f t) t)
theorem schedTo_len (f : Nat → Int) : ∀ t, (schedTo f t).length = 64
  | 0 => by simp [schedTo]
  | t + 1 => by simp [schedTo, schedTo_len f t]

structure S8 where
  a : Int
  b : Int
  c : Int
  d : Int
  e : Int
  f : Int
  g : Int
  h : Int
def S8.l (s : S8) : List Int := [s.a, s.b, s.c, s.d, s.e, s.f, s.g, s.h]
def round (s : S8) (k w : Int) : S8 :=
  let p := w32 (w32 (w32 (w32 (s.h + S1 s.e) + ch s.e s.f s.g) + k) + w)
  let q := w32 (S0 s.a + maj s.a s.b s.c)
  ⟨w32 (p + q), s.a, s.b, s.c, w32 (s.d + p), s.e, s.f, s.g⟩
def rounds (ws : List Int) (s : S8) : Nat → S8
  | 0 => s
  | t + 1 => round (rounds ws s t) (K.getD t 0) (ws.getD t 0)
def addS (s x : S8) : S8 := ⟨w32 (s.a + x.a), w32 (s.b + x.b), w32 (s.c + x.c), w32 (s.d + x.d), w32 (s.e + x.e), w32 (s.f + x.f), w32 (s.g + x.g), w32 (s.h + x.h)⟩
/-- The state behind a block. -/
def comp (s : S8) (f : Nat → Int) : S8 := addS s (rounds (schedTo f 64) s 64)
def init : S8 := ⟨0x6a09e667, 0xbb67ae85, 0x3c6ef372, 0xa54ff53a, 0x510e527f, 0x9b05688c, 0x1f83d9ab, 0x5be0cd19⟩
def zero8 : S8 := ⟨0, 0, 0, 0, 0, 0, 0, 0⟩

def absorb (s : S8) (l : List UInt8) : S8 := if h : l.length < 64 then s else absorb (comp s (bt (l.take 64))) (l.drop 64)
termination_by l.length
decreasing_by simp; omega

def len8 (n : Nat) : List UInt8 := [UInt8.ofNat (n / 2 ^ 56), UInt8.ofNat (n / 2 ^ 48), UInt8.ofNat (n / 2 ^ 40), UInt8.ofNat (n / 2 ^ 32), UInt8.ofNat (n / 2 ^ 24), UInt8.ofNat (n / 2 ^ 16), UInt8.ofNat (n / 2 ^ 8), UInt8.ofNat n]
def zeros (n : Nat) : Nat := (119 - n % 64) % 64
def pad (m : List UInt8) : List UInt8 := m ++ [128] ++ List.replicate (zeros m.length) 0 ++ len8 (8 * m.length)

def bytes4 (x : Int) : List Int := [x / 16777216 % 256, x / 65536 % 256, x / 256 % 256, x % 256]
def dig (s : S8) : List Int := bytes4 s.a ++ bytes4 s.b ++ bytes4 s.c ++ bytes4 s.d ++ bytes4 s.e ++ bytes4 s.f ++ bytes4 s.g ++ bytes4 s.h
/-- The digest of a text: 32 numbers. -/
def sum (m : List UInt8) : List Int := dig (absorb init (pad m))

theorem dig_len (s : S8) : (dig s).length = 32 := rfl
theorem pad_len (m : List UInt8) : (pad m).length % 64 = 0 := by
  simp [pad, zeros, len8]
  omega
def sv (s : S8) : List Value := iv .u32 s.l
theorem or_nat (a b : Nat) (ha : a < 2 ^ 32) (hb : b < 2 ^ 32) : bits .or .u32 (a : Int) (b : Int) = ((a ||| b : Nat) : Int) := by
  have hx : a ||| b < 2 ^ 32 := Nat.or_lt_two_pow ha hb
  show IntKind.u32.wrap ((BitVec.ofInt 32 (a : Int) ||| BitVec.ofInt 32 (b : Int)).toNat : Int) = _
  rw [BitVec.toNat_or, BitVec.ofInt_natCast, BitVec.ofInt_natCast, BitVec.toNat_ofNat, BitVec.toNat_ofNat, Nat.mod_eq_of_lt ha, Nat.mod_eq_of_lt hb, u32w, w32]
  omega
theorem or_add (a b i : Nat) (hb : b < 2 ^ i) (ha : 2 ^ i * a < 2 ^ 32) (hi : i ≤ 32) : bits .or .u32 ((2 ^ i * a : Nat) : Int) (b : Int) = ((2 ^ i * a + b : Nat) : Int) := by
  have h32 : b < 2 ^ 32 := Nat.lt_of_lt_of_le hb (Nat.pow_le_pow_right (by omega) hi)
  rw [or_nat _ _ ha h32, Nat.two_pow_add_eq_or_of_lt hb]
theorem word_nat (a b c d : Nat) (ha : a < 256) (hb : b < 256) (hc : c < 256) (hd : d < 256) :
    bits .or .u32 (bits .or .u32 (bits .or .u32 (w32 ((a : Int) * 16777216)) (w32 ((b : Int) * 65536))) (w32 ((c : Int) * 256))) (d : Int) = (a : Int) * 16777216 + (b : Int) * 65536 + (c : Int) * 256 + d := by
  have e1 : w32 ((a : Int) * 16777216) = ((2 ^ 24 * a : Nat) : Int) := by unfold w32; omega
  have e2 : w32 ((b : Int) * 65536) = ((65536 * b : Nat) : Int) := by unfold w32; omega
  have e3 : w32 ((c : Int) * 256) = ((256 * c : Nat) : Int) := by unfold w32; omega
  rw [e1, e2, e3, or_add a (65536 * b) 24 (by omega) (by omega) (by omega)]
  have e4 : 2 ^ 24 * a + 65536 * b = 2 ^ 16 * (256 * a + b) := by omega
  rw [e4, or_add (256 * a + b) (256 * c) 16 (by omega) (by omega) (by omega)]
  have e5 : 2 ^ 16 * (256 * a + b) + 256 * c = 2 ^ 8 * (256 * (256 * a + b) + c) := by omega
  rw [e5, or_add _ d 8 (by omega) (by omega) (by omega)]
  omega
theorem word_or (l : List UInt8) (t : Nat) : bits .or .u32 (bits .or .u32 (bits .or .u32 (w32 (bt l (4 * t) * 16777216)) (w32 (bt l (4 * t + 1) * 65536))) (w32 (bt l (4 * t + 2) * 256))) (bt l (4 * t + 3)) = word (bt l) t := by
  unfold word bt
  exact word_nat _ _ _ _ (UInt8.toNat_lt _) (UInt8.toNat_lt _) (UInt8.toNat_lt _) (UInt8.toNat_lt _)
theorem or_comm32 (a b : Int) : bits .or .u32 a b = bits .or .u32 b a := by
  show IntKind.u32.wrap ((BitVec.ofInt 32 a ||| BitVec.ofInt 32 b).toNat : Int) = IntKind.u32.wrap ((BitVec.ofInt 32 b ||| BitVec.ofInt 32 a).toNat : Int)
  rw [BitVec.or_comm]
theorem rotr_comm (m : Nat) (x : Int) : rotr m x = bits .or .u32 (x / 2 ^ m) (w32 (x * 2 ^ (32 - m))) := by rw [rotr, or_comm32]
theorem word_add (l : List UInt8) (t : Nat) : w32 (w32 (w32 (w32 (bt l (4 * t) * 16777216) + w32 (bt l (4 * t + 1) * 65536)) + w32 (bt l (4 * t + 2) * 256)) + bt l (4 * t + 3)) = word (bt l) t := by
  have h0 := bt_bd l (4 * t)
  have h1 := bt_bd l (4 * t + 1)
  have h2 := bt_bd l (4 * t + 2)
  have h3 := bt_bd l (4 * t + 3)
  unfold word w32
  omega
theorem schedTo_lt (f : Nat → Int) {t : Nat} (h : t < 16) : schedTo f (t + 1) = (schedTo f t).set t (word f t) := by simp [schedTo, h]
theorem schedTo_ge (f : Nat → Int) {t : Nat} (h : 16 ≤ t) : schedTo f (t + 1) = (schedTo f t).set t (next (schedTo f t) t) := by simp [schedTo, show ¬ t < 16 by omega]
def addTo (s x : List Int) : Nat → List Int
  | 0 => s
  | t + 1 => (addTo s x t).set t (w32 ((addTo s x t).getD t 0 + x.getD t 0))
theorem addTo_len (s x : List Int) : ∀ t, (addTo s x t).length = s.length
  | 0 => rfl
  | t + 1 => by simp [addTo, addTo_len s x t]
theorem K_len : K.length = 64 := rfl
theorem sv_len (s : S8) : (sv s).length = 8 := rfl

/-! ### Padding, absorbing, digests -/
theorem absorb_small (s : S8) {l : List UInt8} (h : l.length < 64) : absorb s l = s := by rw [absorb, dif_pos h]
theorem absorb_big (s : S8) {l : List UInt8} (h : 64 ≤ l.length) : absorb s l = absorb (comp s (bt (l.take 64))) (l.drop 64) := by rw [absorb, dif_neg (by omega)]
theorem absorb_append : ∀ (n : Nat) (s : S8) (x y : List UInt8), x.length = 64 * n → absorb s (x ++ y) = absorb (absorb s x) y
  | 0, s, x, y, h => by
    have : x = [] := List.eq_nil_of_length_eq_zero (by omega)
    subst this
    rw [List.nil_append, absorb_small s (l := []) (by simp)]
  | n + 1, s, x, y, h => by
    rw [absorb_big s (l := x ++ y) (by simp; omega), absorb_big s (l := x) (by omega)]
    rw [List.take_append_of_le_length (by omega), List.drop_append_of_le_length (by omega)]
    exact absorb_append n _ _ _ (by simp; omega)
theorem absorb_next (s : S8) (A : List UInt8) (j n : Nat) (hj : j = 64 * n) (h : j + 64 ≤ A.length) : absorb s (A.take (j + 64)) = comp (absorb s (A.take j)) (bt ((A.drop j).take 64)) := by
  have e : A.take (j + 64) = A.take j ++ (A.drop j).take 64 := by rw [List.take_add]
  rw [e, absorb_append n s _ _ (by simp; omega), absorb_big _ (by simp; omega), absorb_small _ (by simp)]
  congr 2
  rw [List.take_take]
  simp
def cut (m : List UInt8) : Nat := m.length / 64 * 64
def stOf (m : List UInt8) : S8 := if m.length < 64 then zero8 else absorb init (m.take (cut m))
def hashCells (m : List UInt8) : List Value := sv (stOf m) ++ [.string (str (m.drop (cut m))), .int .i64 (m.length : Int)]
/-- The digest's cells behind i words. -/
def digTo (s : S8) : Nat → List Int
  | 0 => List.replicate 32 0
  | i + 1 => ((((digTo s i).set (4 * i) (s.l.getD i 0 / 16777216 % 256)).set (4 * i + 1) (s.l.getD i 0 / 65536 % 256)).set (4 * i + 2) (s.l.getD i 0 / 256 % 256)).set (4 * i + 3) (s.l.getD i 0 % 256)
theorem digTo_len (s : S8) : ∀ i, (digTo s i).length = 32
  | 0 => by simp [digTo]
  | i + 1 => by simp [digTo, digTo_len s i]
theorem digTo_all (s : S8) : digTo s 8 = dig s := by
  simp [digTo, dig, bytes4, S8.l, List.replicate]
def digTo2 (s : S8) : Nat → List Int
  | 0 => List.replicate 32 0
  | i + 1 => (digTo2 s i).set i (s.l.getD (i / 4) 0 / 2 ^ (24 - 8 * (i % 4)) % 256)
theorem digTo2_len (s : S8) : ∀ i, (digTo2 s i).length = 32
  | 0 => by simp [digTo2]
  | i + 1 => by simp [digTo2, digTo2_len s i]
theorem digTo2_all (s : S8) : digTo2 s 32 = dig s := by
  simp [digTo2, dig, bytes4, S8.l, List.replicate]
theorem len8_len (n : Nat) : (len8 n).length = 8 := rfl
theorem len8_get (n k : Nat) (h : k < 8) : (len8 n)[k]? = some (UInt8.ofNat (n / 2 ^ (8 * (7 - k)))) := by
  match k, h with
  | 0, _ => rfl
  | 1, _ => rfl
  | 2, _ => rfl
  | 3, _ => rfl
  | 4, _ => rfl
  | 5, _ => rfl
  | 6, _ => rfl
  | 7, _ => simp [len8]
theorem len8_take (n k : Nat) (h : k < 8) : (len8 n).take (k + 1) = (len8 n).take k ++ [UInt8.ofNat (n / 2 ^ (8 * (7 - k)))] := by
  rw [List.take_add_one, len8_get n k h]; rfl
theorem zeros_bd (n : Nat) : zeros n < 64 := by unfold zeros; omega
theorem zeros_mod (n : Nat) : (n + 1 + zeros n) % 64 = 56 := by unfold zeros; omega
theorem zeros_lt {n j : Nat} (h : j < zeros n) : (n + 1 + j) % 64 ≠ 56 := by unfold zeros at h; omega
theorem pad_drop (m : List UInt8) : (pad m).drop (cut m) = m.drop (cut m) ++ [128] ++ List.replicate (zeros m.length) 0 ++ len8 (8 * m.length) := by
  have h : cut m ≤ m.length := by unfold cut; omega
  unfold pad
  rw [List.append_assoc, List.append_assoc, List.drop_append_of_le_length h]
  simp
theorem sum_of_parts (m : List UInt8) : absorb (absorb init (m.take (cut m))) ((pad m).drop (cut m)) = absorb init (pad m) := by
  have h : cut m ≤ m.length := by unfold cut; omega
  rw [← absorb_append (m.length / 64) init (m.take (cut m)) _ (by simp [cut]; omega)]
  congr 1
  have e : m.take (cut m) = (pad m).take (cut m) := by
    unfold pad
    rw [List.append_assoc, List.append_assoc, List.take_append_of_le_length h]
  rw [e, List.take_append_drop]

end Go.Sha
