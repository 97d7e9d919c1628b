/- SHA-256 in plain Lean, as the loops of the program and of the reference compute it; no program in sight. Conditions: none. -/
import Derived.Test.YtcologcjhenmkaaDoorEngA
import Derived.Test.YtcologcjhenmkaaDoorEngB
set_option linter.unusedVariables false
namespace Go.Sha
open Go.V



theorem w32_bd (n : Int) : 0 ≤ w32 n ∧ w32 n ≤ 4294967295 := by unfold w32; omega
theorem w32_in {n : Int} (h0 : 0 ≤ n) (h1 : n ≤ 4294967295) : w32 n = n := by unfold w32; omega

def K : List Int := [
  0x428a2f98, 0x71374491, 0xb5c0fbcf, 0xe9b5dba5, 0x3956c25b, 0x59f111f1, 0x923f82a4, 0xab1c5ed5,
  0xd807aa98, 0x12835b01, 0x243185be, 0x550c7dc3, 0x72be5d74, 0x80deb1fe, 0x9bdc06a7, 0xc19bf174,
  0xe49b69c1, 0xefbe4786, 0x0fc19dc6, 0x240ca1cc, 0x2de92c6f, 0x4a7484aa, 0x5cb0a9dc, 0x76f988da,
  0x983e5152, 0xa831c66d, 0xb00327c8, 0xbf597fc7, 0xc6e00bf3, 0xd5a79147, 0x06ca6351, 0x14292967,
  0x27b70a85, 0x2e1b2138, 0x4d2c6dfc, 0x53380d13, 0x650a7354, 0x766a0abb, 0x81c2c92e, 0x92722c85,
  0xa2bfe8a1, 0xa81a664b, 0xc24b8b70, 0xc76c51a3, 0xd192e819, 0xd6990624, 0xf40e3585, 0x106aa070,
  0x19a4c116, 0x1e376c08, 0x2748774c, 0x34b0bcb5, 0x391c0cb3, 0x4ed8aa4a, 0x5b9cca4f, 0x682e6ff3,
  0x748f82ee, 0x78a5636f, 0x84c87814, 0x8cc70208, 0x90befffa, 0xa4506ceb, 0xbef9a3f7, 0xc67178f2]

/-- A word turned to the right. -/
def rotr (m : Nat) (x : Int) : Int := bits .or .u32 (w32 (x * 2 ^ (32 - m))) (x / 2 ^ m)
def xor2 (a b : Int) : Int := bits .xor .u32 a b
def s0 (x : Int) : Int := bits .xor .u32 (bits .xor .u32 (rotr 7 x) (rotr 18 x)) (x / 8)
def s1 (x : Int) : Int := bits .xor .u32 (bits .xor .u32 (rotr 17 x) (rotr 19 x)) (x / 1024)
def S0 (x : Int) : Int := bits .xor .u32 (bits .xor .u32 (rotr 2 x) (rotr 13 x)) (rotr 22 x)
def S1 (x : Int) : Int := bits .xor .u32 (bits .xor .u32 (rotr 6 x) (rotr 11 x)) (rotr 25 x)
def ch (e f g : Int) : Int := bits .xor .u32 (bits .and .u32 e f) (bits .and .u32 (bits .xor .u32 4294967295 e) g)
def maj (a b c : Int) : Int := bits .xor .u32 (bits .xor .u32 (bits .and .u32 a b) (bits .and .u32 a c)) (bits .and .u32 b c)

/-- Word t of a block whose bytes are f. -/
def word (f : Nat → Int) (t : Nat) : Int := f (4 * t) * 16777216 + f (4 * t + 1) * 65536 + f (4 * t + 2) * 256 + f (4 * t + 3)
def next (ws : List Int) (t : Nat) : Int := w32 (w32 (w32 (ws.getD (t - 16) 0 + s0 (ws.getD (t - 15) 0)) + ws.getD (t - 7) 0) + s1 (ws.getD (t - 2) 0))
def schedTo (f : Nat → Int) : Nat → List Int
  | 0 => List.replicate 64 0
  | t + 1 => (schedTo f t).set t (if t < 16 then word f t else next (schedTo f t) t)
theorem schedTo_len (f : Nat → Int) : ∀ t, (schedTo f t).length = 64
  | 0 => by simp [schedTo]
  | t + 1 => by simp [schedTo, schedTo_len f t]

structure S8 where
  a : Int
  b : Int
  c : Int
  d : Int
  e : Int
  f : Int
  g : Int
  h : Int
def S8.l (s : S8) : List Int := [s.a, s.b, s.c, s.d, s.e, s.f, s.g, s.h]
def round (s : S8) (k w : Int) : S8 :=
  let p := w32 (w32 (w32 (w32 (s.h + S1 s.e) + ch s.e s.f s.g) + k) + w)
  let q := w32 (S0 s.a + maj s.a s.b s.c)
  ⟨w32 (p + q), s.a, s.b, s.c, w32 (s.d + p), s.e, s.f, s.g⟩
def rounds (ws : List Int) (s : S8) : Nat → S8
  | 0 => s
  | t + 1 => round (rounds ws s t) (K.getD t 0) (ws.getD t 0)
def addS (s x : S8) : S8 := ⟨w32 (s.a + x.a), w32 (s.b + x.b), w32 (s.c + x.c), w32 (s.d + x.d), w32 (s.e + x.e), w32 (s.f + x.f), w32 (s.g + x.g), w32 (s.h + x.h)⟩
/-- The state behind a block. -/
def comp (s : S8) (f : Nat → Int) : S8 := addS s (rounds (schedTo f 64) s 64)
def init : S8 := ⟨0x6a09e667, 0xbb67ae85, 0x3c6ef372, 0xa54ff53a, 0x510e527f, 0x9b05688c, 0x1f83d9ab, 0x5be0cd19⟩
def zero8 : S8 := ⟨0, 0, 0, 0, 0, 0, 0, 0⟩

def absorb (s : S8) (l : List UInt8) : S8 := if h : l.length < 64 then s else absorb (comp s (bt (l.take 64))) (l.drop 64)
termination_by l.length
decreasing_by simp; omega

def len8 (n : Nat) : List UInt8 := [UInt8.ofNat (n / 2 ^ 56), UInt8.ofNat (n / 2 ^ 48), UInt8.ofNat (n / 2 ^ 40), UInt8.ofNat (n / 2 ^ 32), UInt8.ofNat (n / 2 ^ 24), UInt8.ofNat (n / 2 ^ 16), UInt8.ofNat (n / 2 ^ 8), UInt8.ofNat n]
def zeros (n : Nat) : Nat := (119 - n % 64) % 64
def pad (m : List UInt8) : List UInt8 := m ++ [128] ++ List.replicate (zeros m.length) 0 ++ len8 (8 * m.length)

def bytes4 (x : Int) : List Int := [x / 16777216 % 256, x / 65536 % 256, x / 256 % 256, x % 256]
def dig (s : S8) : List Int := bytes4 s.a ++ bytes4 s.b ++ bytes4 s.c ++ bytes4 s.d ++ bytes4 s.e ++ bytes4 s.f ++ bytes4 s.g ++ bytes4 s.h
/-- The digest of a text: 32 numbers. -/
def sum (m : List UInt8) : List Int := dig (absorb init (pad m))

theorem dig_len (s : S8) : (dig s).length = 32 := rfl
theorem pad_len (m : List UInt8) : (pad m).length % 64 = 0 := by
  simp [pad, zeros, len8]
  omega
def sv (s : S8) : List Value := iv .u32 s.l
theorem or_nat (a b : Nat) (ha : a < 2 ^ 32) (hb : b < 2 ^ 32) : bits .or .u32 (a : Int) (b : Int) = ((a ||| b : Nat) : Int) := by
  have hx : a ||| b < 2 ^ 32 := Nat.or_lt_two_pow ha hb
  show IntKind.u32.wrap ((BitVec.ofInt 32 (a : Int) ||| BitVec.ofInt 32 (b : Int)).toNat : Int) = _
  rw [BitVec.toNat_or, BitVec.ofInt_natCast, BitVec.ofInt_natCast, BitVec.toNat_ofNat, BitVec.toNat_ofNat, Nat.mod_eq_of_lt ha, Nat.mod_eq_of_lt hb, u32w, w32]
  omega
theorem or_add (a b i : Nat) (hb : b < 2 ^ i) (ha : 2 ^ i * a < 2 ^ 32) (hi : i ≤ 32) : bits .or .u32 ((2 ^ i * a : Nat) : Int) (b : Int) = ((2 ^ i * a + b : Nat) : Int) := by
  have h32 : b < 2 ^ 32 := Nat.lt_of_lt_of_le hb (Nat.pow_le_pow_right (by omega) hi)
  rw [or_nat _ _ ha h32, Nat.two_pow_add_eq_or_of_lt hb]
theorem word_nat (a b c d : Nat) (ha : a < 256) (hb : b < 256) (hc : c < 256) (hd : d < 256) :
    bits .or .u32 (bits .or .u32 (bits .or .u32 (w32 ((a : Int) * 16777216)) (w32 ((b : Int) * 65536))) (w32 ((c : Int) * 256))) (d : Int) = (a : Int) * 16777216 + (b : Int) * 65536 + (c : Int) * 256 + d := by
  have e1 : w32 ((a : Int) * 16777216) = ((2 ^ 24 * a : Nat) : Int) := by unfold w32; omega
  have e2 : w32 ((b : Int) * 65536) = ((65536 * b : Nat) : Int) := by unfold w32; omega
  have e3 : w32 ((c : Int) * 256) = ((256 * c : Nat) : Int) := by unfold w32; omega
  rw [e1, e2, e3, or_add a (65536 * b) 24 (by omega) (by omega) (by omega)]
  have e4 : 2 ^ 24 * a + 65536 * b = 2 ^ 16 * (256 * a + b) := by omega
  rw [e4, or_add (256 * a + b) (256 * c) 16 (by omega) (by omega) (by omega)]
  have e5 : 2 ^ 16 * (256 * a + b) + 256 * c = 2 ^ 8 * (256 * (256 * a + b) + c) := by omega
  rw [e5, or_add _ d 8 (by omega) (by omega) (by omega)]
  omega
theorem word_or (l : List UInt8) (t : Nat) : bits .or .u32 (bits .or .u32 (bits .or .u32 (w32 (bt l (4 * t) * 16777216)) (w32 (bt l (4 * t + 1) * 65536))) (w32 (bt l (4 * t + 2) * 256))) (bt l (4 * t + 3)) = word (bt l) t := by
  unfold word bt
  exact word_nat _ _ _ _ (UInt8.toNat_lt _) (UInt8.toNat_lt _) (UInt8.toNat_lt _) (UInt8.toNat_lt _)
theorem or_comm32 (a b : Int) : bits .or .u32 a b = bits .or .u32 b a := by
  show IntKind.u32.wrap ((BitVec.ofInt 32 a ||| BitVec.ofInt 32 b).toNat : Int) = IntKind.u32.wrap ((BitVec.ofInt 32 b ||| BitVec.ofInt 32 a).toNat : Int)
  rw [BitVec.or_comm]
theorem rotr_comm (m : Nat) (x : Int) : rotr m x = bits .or .u32 (x / 2 ^ m) (w32 (x * 2 ^ (32 - m))) := by rw [rotr, or_comm32]
theorem word_add (l : List UInt8) (t : Nat) : w32 (w32 (w32 (w32 (bt l (4 * t) * 16777216) + w32 (bt l (4 * t + 1) * 65536)) + w32 (bt l (4 * t + 2) * 256)) + bt l (4 * t + 3)) = word (bt l) t := by
  have h0 := bt_bd l (4 * t)
  have h1 := bt_bd l (4 * t + 1)
  have h2 := bt_bd l (4 * t + 2)
  have h3 := bt_bd l (4 * t + 3)
  unfold word w32
  omega
theorem schedTo_lt (f : Nat → Int) {t : Nat} (h : t < 16) : schedTo f (t + 1) = (schedTo f t).set t (word f t) := by simp [schedTo, h]
theorem schedTo_ge (f : Nat → Int) {t : Nat} (h : 16 ≤ t) : schedTo f (t + 1) = (schedTo f t).set t (next (schedTo f t) t) := by simp [schedTo, show ¬ t < 16 by omega]
def addTo (s x : List Int) : Nat → List Int
  | 0 => s
  | t + 1 => (addTo s x t).set t (w32 ((addTo s x t).getD t 0 + x.getD t 0))
theorem addTo_len (s x : List Int) : ∀ t, (addTo s x t).length = s.length
  | 0 => rfl
  | t + 1 => by simp [addTo, addTo_len s x t]
theorem K_len : K.length = 64 := rfl
theorem sv_len (s : S8) : (sv s).length = 8 := rfl

/-! ### Padding, absorbing, digests -/
theorem absorb_small (s : S8) {l : List UInt8} (h : l.length < 64) : absorb s l = s := by rw [absorb, dif_pos h]
theorem absorb_big (s : S8) {l : List UInt8} (h : 64 ≤ l.length) : absorb s l = absorb (comp s (bt (l.take 64))) (l.drop 64) := by rw [absorb, dif_neg (by omega)]
theorem absorb_append : ∀ (n : Nat) (s : S8) (x y : List UInt8), x.length = 64 * n → absorb s (x ++ y) = absorb (absorb s x) y
  | 0, s, x, y, h => by
    have : x = [] := List.eq_nil_of_length_eq_zero (by omega)
    subst this
    rw [List.nil_append, absorb_small s (l := []) (by simp)]
  | n + 1, s, x, y, h => by
    rw [absorb_big s (l := x ++ y) (by simp; omega), absorb_big s (l := x) (by omega)]
    rw [List.take_append_of_le_length (by omega), List.drop_append_of_le_length (by omega)]
    exact absorb_append n _ _ _ (by simp; omega)
theorem absorb_next (s : S8) (A : List UInt8) (j n : Nat) (hj : j = 64 * n) (h : j + 64 ≤ A.length) : absorb s (A.take (j + 64)) = comp (absorb s (A.take j)) (bt ((A.drop j).take 64)) := by
  have e : A.take (j + 64) = A.take j ++ (A.drop j).take 64 := by rw [List.take_add]
  rw [e, absorb_append n s _ _ (by simp; omega), absorb_big _ (by simp; omega), absorb_small _ (by simp)]
  congr 2
  rw [List.take_take]
  simp
def cut (m : List UInt8) : Nat := m.length / 64 * 64
def stOf (m : List UInt8) : S8 := if m.length < 64 then zero8 else absorb init (m.take (cut m))
def hashCells (m : List UInt8) : List Value := sv (stOf m) ++ [.string (str (m.drop (cut m))), .int .i64 (m.length : Int)]
/-- The digest's cells behind i words. -/
def digTo (s : S8) : Nat → List Int
  | 0 => List.replicate 32 0
  | i + 1 => ((((digTo s i).set (4 * i) (s.l.getD i 0 / 16777216 % 256)).set (4 * i + 1) (s.l.getD i 0 / 65536 % 256)).set (4 * i + 2) (s.l.getD i 0 / 256 % 256)).set (4 * i + 3) (s.l.getD i 0 % 256)
theorem digTo_len (s : S8) : ∀ i, (digTo s i).length = 32
  | 0 => by simp [digTo]
  | i + 1 => by simp [digTo, digTo_len s i]
theorem digTo_all (s : S8) : digTo s 8 = dig s := by
  simp [digTo, dig, bytes4, S8.l, List.replicate]
def digTo2 (s : S8) : Nat → List Int
  | 0 => List.replicate 32 0
  | i + 1 => (digTo2 s i).set i (s.l.getD (i / 4) 0 / 2 ^ (24 - 8 * (i % 4)) % 256)
theorem digTo2_len (s : S8) : ∀ i, (digTo2 s i).length = 32
  | 0 => by simp [digTo2]
  | i + 1 => by simp [digTo2, digTo2_len s i]
theorem digTo2_all (s : S8) : digTo2 s 32 = dig s := by
  simp [digTo2, dig, bytes4, S8.l, List.replicate]
theorem len8_len (n : Nat) : (len8 n).length = 8 := rfl
theorem len8_get (n k : Nat) (h : k < 8) : (len8 n)[k]? = some (UInt8.ofNat (n / 2 ^ (8 * (7 - k)))) := by
  match k, h with
  | 0, _ => rfl
  | 1, _ => rfl
  | 2, _ => rfl
  | 3, _ => rfl
  | 4, _ => rfl
  | 5, _ => rfl
  | 6, _ => rfl
  | 7, _ => simp [len8]
theorem len8_take (n k : Nat) (h : k < 8) : (len8 n).take (k + 1) = (len8 n).take k ++ [UInt8.ofNat (n / 2 ^ (8 * (7 - k)))] := by
  rw [List.take_add_one, len8_get n k h]; rfl
theorem zeros_bd (n : Nat) : zeros n < 64 := by unfold zeros; omega
theorem zeros_mod (n : Nat) : (n + 1 + zeros n) % 64 = 56 := by unfold zeros; omega
theorem zeros_lt {n j : Nat} (h : j < zeros n) : (n + 1 + j) % 64 ≠ 56 := by unfold zeros at h; omega
theorem pad_drop (m : List UInt8) : (pad m).drop (cut m) = m.drop (cut m) ++ [128] ++ List.replicate (zeros m.length) 0 ++ len8 (8 * m.length) := by
  have h : cut m ≤ m.length := by unfold cut; omega
  unfold pad
  rw [List.append_assoc, List.append_assoc, List.drop_append_of_le_length h]
  simp
theorem sum_of_parts (m : List UInt8) : absorb (absorb init (m.take (cut m))) ((pad m).drop (cut m)) = absorb init (pad m) := by
  have h : cut m ≤ m.length := by unfold cut; omega
  rw [← absorb_append (m.length / 64) init (m.take (cut m)) _ (by simp [cut]; omega)]
  congr 1
  have e : m.take (cut m) = (pad m).take (cut m) := by
    unfold pad
    rw [List.append_assoc, List.append_assoc, List.take_append_of_le_length h]
  rw [e, List.take_append_drop]

end Go.Sha
/- SHA-256 in plain Lean, continued: the cells of a hash behind a write. Conditions: none. -/
set_option linter.unusedVariables false
namespace Go.Sha
open Go.V
def hcells (s : S8) (t : List UInt8) (n : Nat) : List Value := sv s ++ [.string (str t), .int .i64 (n : Int)]
theorem cut_le (m : List UInt8) : cut m ≤ m.length := by unfold cut; omega
theorem cut_mod (m : List UInt8) : cut m % 64 = 0 := by unfold cut; omega
theorem cut_rest (m : List UInt8) : m.length - cut m = m.length % 64 := by unfold cut; omega
theorem rest_len (m : List UInt8) : (m.drop (cut m)).length = m.length % 64 := by rw [List.length_drop, cut_rest]
theorem cut_small {m : List UInt8} (h : m.length < 64) : cut m = 0 := by unfold cut; omega
theorem hash_small {m : List UInt8} (h : m.length < 64) : hashCells m = hcells zero8 (m.drop (cut m)) m.length := by simp [hashCells, stOf, h, hcells]
theorem hash_big {m : List UInt8} (h : ¬ m.length < 64) : hashCells m = hcells (absorb init (m.take (cut m))) (m.drop (cut m)) m.length := by simp [hashCells, stOf, h, hcells]
theorem st_small {m : List UInt8} (h : m.length < 64) : absorb init (m.take (cut m)) = init := by rw [cut_small h, List.take_zero, absorb_small _ (by simp)]
theorem st_big {m : List UInt8} (h : ¬ m.length < 64) : stOf m = absorb init (m.take (cut m)) := by simp [stOf, h]
theorem hash_first {m : List UInt8} (h : m.length < 64) : lay (hashCells m) 0 (sv init) = hcells (absorb init (m.take (cut m))) (m.drop (cut m)) m.length := by rw [st_small h]; rfl
theorem write_at (m l A : List UInt8) (hA : A = m.drop (cut m) ++ l) (j : Nat) (h1 : j % 64 = 0) (h2 : j ≤ A.length) (h3 : A.length - j < 64) :
    cut (m ++ l) = cut m + j ∧ A.drop j = (m ++ l).drop (cut (m ++ l)) ∧ absorb (absorb init (m.take (cut m))) (A.take j) = absorb init ((m ++ l).take (cut (m ++ l))) := by
  have hc := cut_le m
  have hm := cut_mod m
  have hr := cut_rest m
  have e : (m ++ l).drop (cut m) = A := by rw [List.drop_append_of_le_length hc, hA]
  have hl : A.length = m.length - cut m + l.length := by rw [hA]; simp
  have e1 : cut (m ++ l) = cut m + j := by
    have : (m ++ l).length = m.length + l.length := by simp
    unfold cut at *
    omega
  refine ⟨e1, by rw [e1, ← List.drop_drop, e], ?_⟩
  rw [e1, List.take_add, e, List.take_append_of_le_length hc]
  exact (absorb_append (m.length / 64) init _ _ (by simp [cut]; omega)).symm
theorem zeros_same {n r : Nat} (h : r = n % 64) : zeros r = zeros n := by unfold zeros; omega
theorem padR_len (m : List UInt8) : ((pad m).drop (cut m)).length = m.length % 64 + 1 + zeros m.length + 8 := by
  rw [pad_drop]; simp [len8]; have := cut_rest m; omega
theorem padR_mod (m : List UInt8) : ((pad m).drop (cut m)).length % 64 = 0 := by
  rw [padR_len]; unfold zeros; omega
theorem absorb_zero (s : S8) (l : List UInt8) : absorb s (l.take 0) = s := by rw [List.take_zero, absorb_small _ (by simp)]
theorem absorb_sub {cs : List Value} {R : List UInt8} {j : Nat} (h : cs.take (R.length * 1) = bv R) (hj : j + 64 ≤ R.length) : (cs.drop j).take (j + 64 - j) = bv ((R.drop j).take 64) := by
  have h1 := drop_take_sub (cs := cs) (o := 0) (m := R.length) (xs := bv R) (p := j) (q := j + 64) (by simpa using h) (by omega) hj
  rw [Nat.zero_add] at h1
  rw [h1]
  simp only [bv, ← List.map_take, ← List.map_drop, List.drop_take, Nat.add_sub_cancel_left]
theorem pad_snoc (m : List UInt8) (b : UInt8) (hb : b ≠ 128 := by decide) : pad m ≠ pad (m ++ [b]) := fun h => by
  have h1 := congrArg (fun l : List UInt8 => l[m.length]?) h
  simp [pad] at h1
  exact hb h1.symm
def hex : List UInt8 := [48, 49, 50, 51, 52, 53, 54, 55, 56, 57, 97, 98, 99, 100, 101, 102]
def hex2 (x : Int) : List UInt8 := [hex.getD (x / 16).toNat 0, hex.getD (x % 16).toNat 0]
def hexOf (d : List Int) : List UInt8 := d.flatMap hex2
theorem hexOf_len (d : List Int) : (hexOf d).length = 2 * d.length := by
  unfold hexOf
  induction d with
  | nil => rfl
  | cons x r ih => simp [hex2, ih]; omega
theorem hexOf_succ {d : List Int} {t : Nat} (h : t < d.length) : hexOf (d.take (t + 1)) = hexOf (d.take t) ++ hex2 (d.getD t 0) := by
  unfold hexOf
  rw [List.take_add_one, List.flatMap_append]
  simp [h]
/-- 32 bytes, as numbers. -/
def Dig (d : List Int) : Prop := d.length = 32 ∧ ∀ x, x ∈ d → 0 ≤ x ∧ x ≤ 255
theorem Dig.at_ {d : List Int} (h : Dig d) (t : Nat) : 0 ≤ d.getD t 0 ∧ d.getD t 0 ≤ 255 := by
  by_cases ht : t < d.length
  · have : d.getD t 0 = d[t] := by simp [ht]
    rw [this]; exact h.2 _ (List.getElem_mem ht)
  · have : d.getD t 0 = 0 := by simp [Nat.le_of_not_lt ht]
    rw [this]; omega
theorem dig_ok (s : S8) : Dig (dig s) := ⟨rfl, fun x hx => by
  simp only [dig, bytes4, List.mem_append, List.mem_cons, List.not_mem_nil, or_false] at hx
  omega⟩
theorem sum_ok (m : List UInt8) : Dig (sum m) := dig_ok _
theorem take_min (l : List UInt8) (n : Nat) : l.take (min l.length n) = l.take n := by
  by_cases h : n ≤ l.length
  · rw [Nat.min_eq_right h]
  · rw [Nat.min_eq_left (by omega), List.take_length, List.take_of_length_le (by omega)]
/-- The order of two lists of numbers, as -1, 0 or 1. -/
def cmp : List Int → List Int → Int
  | x :: xs, y :: ys => if x < y then -1 else if y < x then 1 else cmp xs ys
  | _, _ => 0
theorem cmp_self : ∀ a : List Int, cmp a a = 0
  | [] => rfl
  | x :: xs => by simp [cmp, cmp_self xs]
theorem cmp_skip : ∀ (t : Nat) (a b : List Int), a.take t = b.take t → t ≤ a.length → t ≤ b.length → cmp a b = cmp (a.drop t) (b.drop t)
  | 0, a, b, _, _, _ => by simp
  | t + 1, [], b, _, h, _ => by simp at h
  | t + 1, x :: xs, [], _, _, h => by simp at h
  | t + 1, x :: xs, y :: ys, h, h1, h2 => by
    simp only [List.take_succ_cons, List.cons.injEq] at h
    obtain ⟨rfl, h⟩ := h
    simp only [List.length_cons, Nat.add_le_add_iff_right] at h1 h2
    simp only [cmp, Int.lt_irrefl, if_false, List.drop_succ_cons]
    exact cmp_skip t xs ys h h1 h2
theorem drop_getD {a : List Int} {t : Nat} (h : t < a.length) : a.drop t = a.getD t 0 :: a.drop (t + 1) := by
  rw [List.drop_eq_getElem_cons h]; simp [h]
theorem cmp_lt {a b : List Int} {t : Nat} (h : a.take t = b.take t) (h1 : t < a.length) (h2 : t < b.length) (hlt : a.getD t 0 < b.getD t 0) : cmp a b = -1 := by
  rw [cmp_skip t a b h (by omega) (by omega), drop_getD h1, drop_getD h2, cmp, if_pos hlt]
theorem cmp_gt {a b : List Int} {t : Nat} (h : a.take t = b.take t) (h1 : t < a.length) (h2 : t < b.length) (hlt : a.getD t 0 > b.getD t 0) : cmp a b = 1 := by
  rw [cmp_skip t a b h (by omega) (by omega), drop_getD h1, drop_getD h2, cmp, if_neg (by omega), if_pos hlt]
theorem take_next {a b : List Int} {t : Nat} (h : a.take t = b.take t) (h1 : t < a.length) (h2 : t < b.length) (he : a.getD t 0 = b.getD t 0) : a.take (t + 1) = b.take (t + 1) := by
  have e1 : a[t]? = some (a.getD t 0) := by simp [h1]
  have e2 : b[t]? = some (b.getD t 0) := by simp [h2]
  rw [List.take_add_one, List.take_add_one, h, e1, e2, he]
end Go.Sha
/- The order of digests is the order of their texts. Conditions: none. -/
set_option linter.unusedVariables false
namespace Go.Sha
open Go.V
theorem cmp_neg : ∀ (a b : List Int), a.length = b.length → cmp b a = - cmp a b
  | [], [], _ => rfl
  | [], y :: ys, h => by simp at h
  | x :: xs, [], h => by simp at h
  | x :: xs, y :: ys, h => by
    have ih := cmp_neg xs ys (by simpa using h)
    simp only [cmp]
    by_cases h1 : x < y
    · have h2 : ¬ y < x := by omega
      simp [h1, h2]
    · by_cases h2 : y < x
      · simp [h1, h2]
      · simp [h1, h2, ih]
theorem cmp_zero : ∀ (a b : List Int), a.length = b.length → cmp a b = 0 → a = b
  | [], [], _, _ => rfl
  | [], y :: ys, h, _ => by simp at h
  | x :: xs, [], h, _ => by simp at h
  | x :: xs, y :: ys, h, hc => by
    simp only [cmp] at hc
    by_cases h1 : x < y
    · rw [if_pos h1] at hc; simp at hc
    · by_cases h2 : y < x
      · rw [if_neg h1, if_pos h2] at hc; simp at hc
      · rw [if_neg h1, if_neg h2] at hc
        rw [cmp_zero xs ys (by simpa using h) hc, show x = y by omega]
theorem cmp_cases : ∀ (a b : List Int), cmp a b = -1 ∨ cmp a b = 0 ∨ cmp a b = 1
  | [], _ => .inr (.inl (by simp [cmp]))
  | _ :: _, [] => .inr (.inl (by simp [cmp]))
  | x :: xs, y :: ys => by
    have ih := cmp_cases xs ys
    simp only [cmp]
    split
    · exact .inl rfl
    · split
      · exact .inr (.inr rfl)
      · exact ih
theorem hex_lt : ∀ i j : Fin 16, (decide (hex.getD i.val 0 < hex.getD j.val 0) = decide (i.val < j.val)) ∧ ((hex.getD i.val 0 == hex.getD j.val 0) = decide (i.val = j.val)) := by decide +kernel
theorem hex_less {x y : Int} (hx : 0 ≤ x ∧ x ≤ 255) (hy : 0 ≤ y ∧ y ≤ 255) (r s : List UInt8) : Op.bytesLess (hex2 x ++ r) (hex2 y ++ s) = if x < y then true else if y < x then false else Op.bytesLess r s := by
  have h1 := hex_lt ⟨(x / 16).toNat, by omega⟩ ⟨(y / 16).toNat, by omega⟩
  have h2 := hex_lt ⟨(x % 16).toNat, by omega⟩ ⟨(y % 16).toNat, by omega⟩
  simp only [hex2, List.cons_append, List.nil_append, Op.bytesLess]
  simp only [] at h1 h2
  rw [h1.1, h1.2, h2.1, h2.2]
  by_cases a1 : (x / 16).toNat < (y / 16).toNat
  · rw [if_pos (by omega)]; simp [a1]
  · by_cases a2 : (x / 16).toNat = (y / 16).toNat
    · by_cases a3 : (x % 16).toNat < (y % 16).toNat
      · rw [if_pos (by omega)]; simp [a2, a3]
      · by_cases a4 : (x % 16).toNat = (y % 16).toNat
        · rw [if_neg (by omega), if_neg (by omega)]; simp [a2, a4]
        · rw [if_neg (by omega), if_pos (by omega)]; simp [a2, a3, a4]
    · rw [if_neg (by omega), if_pos (by omega)]; simp [a1, a2]
theorem hexOf_cons (x : Int) (r : List Int) : hexOf (x :: r) = hex2 x ++ hexOf r := rfl
theorem text_less : ∀ (a b : List Int), a.length = b.length → (∀ x, x ∈ a → 0 ≤ x ∧ x ≤ 255) → (∀ x, x ∈ b → 0 ≤ x ∧ x ≤ 255) → Op.bytesLess (hexOf a) (hexOf b) = decide (cmp a b = -1)
  | [], [], _, _, _ => by simp [hexOf, Op.bytesLess, cmp]
  | [], y :: ys, h, _, _ => by simp at h
  | x :: xs, [], h, _, _ => by simp at h
  | x :: xs, y :: ys, h, ha, hb => by
    rw [hexOf_cons, hexOf_cons, hex_less (ha x (by simp)) (hb y (by simp)), text_less xs ys (by simpa using h) (fun z hz => ha z (by simp [hz])) (fun z hz => hb z (by simp [hz]))]
    simp only [cmp]
    by_cases h1 : x < y
    · simp [h1]
    · by_cases h2 : y < x
      · simp [h1, h2]
      · simp [h1, h2]
theorem text_lss {a b : List Int} (ha : Dig a) (hb : Dig b) : Op.bytesLess (hexOf a) (hexOf b) = true ↔ cmp a b = -1 := by
  rw [text_less a b (by rw [ha.1, hb.1]) ha.2 hb.2]; simp
theorem text_gtr {a b : List Int} (ha : Dig a) (hb : Dig b) : (Op.bytesLess (hexOf a) (hexOf b) = false ∧ hexOf a ≠ hexOf b) ↔ cmp a b = 1 := by
  have hl : a.length = b.length := by rw [ha.1, hb.1]
  have h1 := text_less a b hl ha.2 hb.2
  have h2 := text_less b a hl.symm hb.2 ha.2
  have h3 := text_less a a rfl ha.2 ha.2
  have hn := cmp_neg a b hl
  have h0 := cmp_zero a b hl
  rcases cmp_cases a b with h | h | h
  · rw [h1, h]; simp
  · rw [h]; have := h0 h; subst this; simp
  · rw [h1, h]
    simp only [show ¬ ((1 : Int) = -1) by decide, decide_false, true_and, iff_true]
    intro he
    rw [← he, h3, cmp_self, hn, h] at h2
    simp at h2
theorem xor_same {x y : Int} (hx : 0 ≤ x ∧ x ≤ 255) (hy : 0 ≤ y ∧ y ≤ 255) : (bits .xor .u8 x y = x ↔ y = 0) ∧ 0 ≤ bits .xor .u8 x y ∧ bits .xor .u8 x y ≤ 255 := by
  obtain ⟨m, rfl⟩ := Int.eq_ofNat_of_zero_le hx.1
  obtain ⟨k, rfl⟩ := Int.eq_ofNat_of_zero_le hy.1
  have e : bits .xor .u8 (m : Int) (k : Int) = ((m ^^^ k : Nat) : Int) := by
    show IntKind.u8.wrap ((BitVec.ofInt 8 (m : Int) ^^^ BitVec.ofInt 8 (k : Int)).toNat : Int) = _
    have hlt : m ^^^ k < 2 ^ 8 := Nat.xor_lt_two_pow (by omega) (by omega)
    rw [BitVec.toNat_xor, BitVec.ofInt_natCast, BitVec.ofInt_natCast, BitVec.toNat_ofNat, BitVec.toNat_ofNat, Nat.mod_eq_of_lt (by omega), Nat.mod_eq_of_lt (by omega), u8w]
    omega
  have hlt : m ^^^ k < 2 ^ 8 := Nat.xor_lt_two_pow (by omega) (by omega)
  rw [e]
  refine ⟨⟨fun h => ?_, fun h => ?_⟩, by omega, by omega⟩
  · have h1 : m ^^^ k = m := by omega
    have h2 : m ^^^ (m ^^^ k) = m ^^^ m := by rw [h1]
    rw [← Nat.xor_assoc, Nat.xor_self, Nat.zero_xor] at h2
    omega
  · have : k = 0 := by omega
    subst this; simp
theorem Dig.set_ {d : List Int} (h : Dig d) (i : Nat) {x : Int} (hx : 0 ≤ x ∧ x ≤ 255) : Dig (d.set i x) := ⟨by simp [h.1], fun z hz => by
  rcases List.mem_or_eq_of_mem_set hz with h1 | h1
  · exact h.2 z h1
  · subst h1; exact hx⟩
theorem set_same {d : List Int} {i : Nat} {x : Int} (hi : i < d.length) : d.set i x = d ↔ x = d.getD i 0 := by
  constructor
  · intro h
    have : (d.set i x)[i]? = d[i]? := by rw [h]
    simp [hi] at this ⊢
    exact this
  · rintro rfl
    simp [hi]
end Go.Sha
/- Joined texts and the parsing of digests, in plain Lean. -/
set_option linter.unusedVariables false
namespace Go.Sha
open Go.V
/-- A length in four bytes. -/
def be4 (n : Nat) : List UInt8 := [UInt8.ofNat (n / 16777216), UInt8.ofNat (n / 65536), UInt8.ofNat (n / 256), UInt8.ofNat n]
def jpart (p : List UInt8) : List UInt8 := be4 p.length ++ p
def jparts (L : List (List UInt8)) : List UInt8 := L.flatMap jpart
/-- The text that stands for a tag and a list of texts. -/
def join (t : UInt8) (L : List (List UInt8)) : List UInt8 := [t, UInt8.ofNat L.length] ++ jparts L
theorem be4_len (n : Nat) : (be4 n).length = 4 := rfl
theorem jpart_len (p : List UInt8) : (jpart p).length = 4 + p.length := by simp [jpart, be4_len]
theorem jparts_cons (p : List UInt8) (L : List (List UInt8)) : jparts (p :: L) = jpart p ++ jparts L := rfl
theorem jparts_nil : jparts [] = [] := rfl
theorem jparts_app (L M : List (List UInt8)) : jparts (L ++ M) = jparts L ++ jparts M := by simp [jparts]
theorem join_len (t : UInt8) (L : List (List UInt8)) : (join t L).length = 2 + (jparts L).length := by simp [join]; omega
theorem jparts_succ {L : List (List UInt8)} {j : Nat} (h : j < L.length) : jparts (L.take (j + 1)) = jparts (L.take j) ++ jpart (L.getD j []) := by
  rw [List.take_add_one, jparts_app]
  simp [List.getD, h, jparts]
theorem jparts_take_le (L : List (List UInt8)) (j : Nat) : (jparts (L.take j)).length ≤ (jparts L).length := by
  have : jparts L = jparts (L.take j) ++ jparts (L.drop j) := by rw [← jparts_app, List.take_append_drop]
  rw [this, List.length_append]
  omega
theorem jparts_bound (L : List (List UInt8)) (m : Nat) (h : ∀ p, p ∈ L → p.length ≤ m) : (jparts L).length ≤ L.length * (4 + m) := by
  induction L with
  | nil => simp [jparts]
  | cons p L ih =>
    have h1 := ih (fun q hq => h q (List.mem_cons_of_mem _ hq))
    have h2 := h p (List.mem_cons_self)
    rw [jparts_cons, List.length_append, jpart_len, List.length_cons, Nat.succ_mul]
    omega
theorem be4_inj {m n : Nat} (hm : m < 256) (hn : n < 256) (h : be4 m = be4 n) : m = n := by
  simp only [be4, List.cons.injEq, and_true] at h
  have := congrArg UInt8.toNat h.2.2.2
  simp at this
  omega
theorem jparts_inj : ∀ (A B : List (List UInt8)), (∀ p, p ∈ A → p.length < 256) → (∀ p, p ∈ B → p.length < 256) → A.length = B.length → jparts A = jparts B → A = B
  | [], [], _, _, _, _ => rfl
  | [], _ :: _, _, _, h, _ => by simp at h
  | _ :: _, [], _, _, h, _ => by simp at h
  | p :: A, q :: B, hA, hB, h, he => by
    rw [jparts_cons, jparts_cons, jpart, jpart, List.append_assoc, List.append_assoc] at he
    obtain ⟨h1, h2⟩ := List.append_inj he rfl
    have hl := be4_inj (hA p List.mem_cons_self) (hB q List.mem_cons_self) h1
    obtain ⟨h3, h4⟩ := List.append_inj h2 hl
    rw [h3, jparts_inj A B (fun r hr => hA r (List.mem_cons_of_mem _ hr)) (fun r hr => hB r (List.mem_cons_of_mem _ hr)) (by simpa using h) h4]
theorem join_inj {s t : UInt8} {A B : List (List UInt8)} (hA : ∀ p, p ∈ A → p.length < 256) (hB : ∀ p, p ∈ B → p.length < 256) (hl : A.length < 256) (hm : B.length < 256) : join s A = join t B ↔ s = t ∧ A = B := by
  constructor
  · intro h
    simp only [join, List.cons_append, List.nil_append, List.cons.injEq] at h
    obtain ⟨h1, h2, h3⟩ := h
    have := congrArg UInt8.toNat h2
    simp at this
    exact ⟨h1, jparts_inj A B hA hB (by omega) h3⟩
  · rintro ⟨rfl, rfl⟩
    rfl
/-- The list that the laws use: at most 12 texts of at most 100 bytes. -/
def cutL (L : List (List UInt8)) : List (List UInt8) := (L.take 12).map (·.take 100)
theorem cutL_len (L : List (List UInt8)) : (cutL L).length ≤ 12 := by simp [cutL]; omega
theorem cutL_mem (L : List (List UInt8)) : ∀ p, p ∈ cutL L → p.length ≤ 100 := by
  intro p hp
  simp only [cutL, List.mem_map] at hp
  obtain ⟨q, _, rfl⟩ := hp
  simp
  omega
theorem cutL_bound (L : List (List UInt8)) : (jparts (cutL L)).length ≤ 1248 := by
  have := jparts_bound (cutL L) 100 (cutL_mem L)
  have := cutL_len L
  omega
theorem cutL_len_eq (L : List (List UInt8)) : (cutL L).length = min 12 L.length := by simp [cutL]
theorem cutL_take (L : List (List UInt8)) {j : Nat} (h : L.length ≤ j ∨ 12 ≤ j) : cutL (L.take j) = cutL L := by
  unfold cutL
  rw [List.take_take]
  rcases h with h | h
  · congr 1
    by_cases h12 : 12 ≤ j
    · rw [Nat.min_eq_left h12]
    · rw [List.take_of_length_le (by omega), List.take_of_length_le (by omega)]
  · rw [Nat.min_eq_left h]
theorem cutL_succ {L : List (List UInt8)} {j : Nat} (h : j < L.length) (h2 : j < 12) : cutL (L.take (j + 1)) = cutL (L.take j) ++ [(L.getD j []).take 100] := by
  unfold cutL
  rw [List.take_take, List.take_take, Nat.min_eq_right (by omega), Nat.min_eq_right (by omega), List.take_add_one, List.map_append]
  simp [List.getD, h]
theorem takeL_next {α : Type} [Inhabited α] {L M : List (List α)} {j : Nat} (h : L.take j = M.take j) (h1 : j < L.length) (h2 : j < M.length) (he : L.getD j [] = M.getD j []) : L.take (j + 1) = M.take (j + 1) := by
  rw [List.take_add_one, List.take_add_one, h]
  simp [List.getD, h1, h2] at he
  simp [h1, h2, he]
theorem jparts_empty : ∀ N : Nat, (jparts (List.replicate N [])).length = 4 * (List.replicate N ([] : List UInt8)).length
  | 0 => rfl
  | N + 1 => by
    rw [List.replicate_succ, jparts_cons, List.length_append, jparts_empty N, jpart_len, List.length_cons]
    simp
    omega
end Go.Sha
/- Frames, in plain Lean: encoding and decoding. -/
set_option linter.unusedVariables false
namespace Go.Frm
open Go.V Go.Sha
/-- A frame. -/
structure Fr where
  kind : Int
  stream : Int
  number : Int
  payload : List UInt8
  deriving DecidableEq
def Fr.zero : Fr := ⟨0, 0, 0, []⟩
def Fr.cells (f : Fr) : List Value := [.int .i64 f.kind, .int .i64 f.stream, .int .i64 f.number, .string (str f.payload)]
/-- A digest's first bytes. -/
def bytesOf (d : List Int) : List UInt8 := d.map fun z => UInt8.ofNat z.toNat
def first (h : List UInt8) : List UInt8 := bytesOf ((sum (join 10 [h])).take 8)
def second (h p : List UInt8) : List UInt8 := bytesOf ((sum (join 11 [h, p])).take 16)
theorem first_len (h : List UInt8) : (first h).length = 8 := by
  have := (sum_ok (join 10 [h])).1
  simp [first, bytesOf]; omega
theorem second_len (h p : List UInt8) : (second h p).length = 16 := by
  have := (sum_ok (join 11 [h, p])).1
  simp [second, bytesOf]; omega
/-- A number, its greatest byte first. -/
def beN : Nat → Nat → List UInt8
  | 0, _ => []
  | k + 1, n => UInt8.ofNat (n / 256 ^ k) :: beN k n
theorem beN_len (k n : Nat) : (beN k n).length = k := by induction k with
  | zero => rfl
  | succ k ih => simp [beN, ih]
def num (l : List UInt8) : Nat := l.foldl (fun n b => n * 256 + b.toNat) 0
theorem num_snoc (l : List UInt8) (b : UInt8) : num (l ++ [b]) = num l * 256 + b.toNat := by simp [num]
theorem fold_num (l : List UInt8) (a : Nat) : l.foldl (fun n b => n * 256 + b.toNat) a = a * 256 ^ l.length + num l := by
  induction l generalizing a with
  | nil => simp [num]
  | cons b l ih =>
    simp only [num, List.foldl_cons]
    rw [ih (a * 256 + b.toNat), ih (0 * 256 + b.toNat), List.length_cons, Nat.pow_succ]
    generalize 256 ^ l.length = p
    grind
theorem num_cons (b : UInt8) (l : List UInt8) : num (b :: l) = b.toNat * 256 ^ l.length + num l := by
  have := fold_num l (0 * 256 + b.toNat)
  simpa [num] using this
theorem num_lt (l : List UInt8) : num l < 256 ^ l.length := by
  induction l with
  | nil => simp [num]
  | cons b l ih =>
    rw [num_cons, List.length_cons, Nat.pow_succ]
    have hb := b.toNat_lt
    have h1 : b.toNat * 256 ^ l.length ≤ 255 * 256 ^ l.length := Nat.mul_le_mul_right _ (by omega)
    omega
theorem num_beN (k n : Nat) : num (beN k n) = n % 256 ^ k := by
  induction k with
  | zero => simp [beN, num, Nat.mod_one]
  | succ k ih =>
    rw [beN, num_cons, beN_len, ih, Nat.mod_pow_succ, UInt8.toNat_ofNat', show (2 : Nat) ^ 8 = 256 from rfl, Nat.mul_comm, Nat.add_comm]
theorem num_back {k n : Nat} (h : n < 256 ^ k) : num (beN k n) = n := by rw [num_beN, Nat.mod_eq_of_lt h]
theorem num_take (l : List UInt8) (i : Nat) (h : i < l.length) : num (l.take (i + 1)) = num (l.take i) * 256 + (l.getD i 0).toNat := by
  have e : l.take (i + 1) = l.take i ++ [l.getD i 0] := by
    rw [List.take_add_one]
    simp [h, List.getD]
  rw [e, num_snoc]
/-- A prefix's number is no greater. -/
theorem num_prefix (l : List UInt8) (i : Nat) : num (l.take i) ≤ num l := by
  have : num l = num (l.take i ++ l.drop i) := by rw [List.take_append_drop]
  rw [this]
  have e : num (l.take i ++ l.drop i) = num (l.take i) * 256 ^ (l.drop i).length + num (l.drop i) := by
    rw [num, List.foldl_append, fold_num]
    rfl
  rw [e]
  have h : 0 < 256 ^ (l.drop i).length := Nat.pow_pos (by decide)
  have := Nat.le_mul_of_pos_right (num (l.take i)) h
  omega
/-- The first 18 bytes. -/
def header (f : Fr) : List UInt8 := 245 :: (beN 1 f.kind.toNat ++ (beN 4 f.stream.toNat ++ (beN 8 f.number.toNat ++ beN 4 f.payload.length)))
theorem header_len (f : Fr) : (header f).length = 18 := by simp [header, beN_len]
def encode (f : Fr) : List UInt8 := header f ++ (first (header f) ++ (f.payload ++ second (header f) f.payload))
theorem encode_len (f : Fr) : (encode f).length = 42 + f.payload.length := by
  simp [encode, header_len, first_len, second_len]; omega
def inside (s n : Int) : Prop := 0 ≤ s ∧ s ≤ 2147483647 ∧ 0 ≤ n ∧ n ≤ 1099511627775
instance (s n : Int) : Decidable (inside s n) := by unfold inside; infer_instance
/-- The first error of a frame. -/
def check (f : Fr) : Int := if f.kind < 0 ∨ 255 < f.kind then 11 else if ¬ inside f.stream f.number then 2 else if 262144 < f.payload.length then 5 else 0
theorem check_ok {f : Fr} (h : check f = 0) : 0 ≤ f.kind ∧ f.kind ≤ 255 ∧ inside f.stream f.number ∧ f.payload.length ≤ 262144 := by
  unfold check at h
  split at h
  · simp at h
  · split at h
    · simp at h
    · split at h
      · simp at h
      · rename_i h1 h2 h3
        exact ⟨by omega, by omega, Decidable.byContradiction h2, by omega⟩
def stN (s : List UInt8) : Nat := num ((s.drop 2).take 4)
def nbN (s : List UInt8) : Nat := num ((s.drop 6).take 8)
def lnN (s : List UInt8) : Nat := num ((s.drop 14).take 4)
def pay (s : List UInt8) : List UInt8 := (s.drop 26).take (lnN s)
/-- The frame at the beginning of bytes, its size, and the error. -/
def decode (s : List UInt8) : Fr × Nat × Int :=
  if s.length = 0 then (Fr.zero, 0, 28) else
  if s.getD 0 0 ≠ 245 then (Fr.zero, 0, 3) else
  if s.length < 26 then (Fr.zero, 0, 28) else
  if (s.drop 18).take 8 ≠ first (s.take 18) then (Fr.zero, 0, 27) else
  if 2147483647 < stN s ∨ 1099511627775 < nbN s then (Fr.zero, 0, 2) else
  if 262144 < lnN s then (Fr.zero, 0, 5) else
  if s.length < 42 + lnN s then (Fr.zero, 0, 28) else
  if (s.drop (26 + lnN s)).take 16 ≠ second (s.take 18) (pay s) then (Fr.zero, 0, 27) else
  (⟨((s.getD 1 0).toNat : Int), (stN s : Int), (nbN s : Int), pay s⟩, 42 + lnN s, 0)
section
variable {s : List UInt8}
theorem dec1 (h1 : s.length = 0) : decode s = (Fr.zero, 0, 28) := by unfold decode; rw [if_pos h1]
theorem dec2 (h1 : ¬ s.length = 0) (h2 : s.getD 0 0 ≠ 245) : decode s = (Fr.zero, 0, 3) := by unfold decode; rw [if_neg h1, if_pos h2]
theorem dec3 (h1 : ¬ s.length = 0) (h2 : ¬ s.getD 0 0 ≠ 245) (h3 : s.length < 26) : decode s = (Fr.zero, 0, 28) := by unfold decode; rw [if_neg h1, if_neg h2, if_pos h3]
theorem dec4 (h2 : ¬ s.getD 0 0 ≠ 245) (h3 : ¬ s.length < 26) (h4 : (s.drop 18).take 8 ≠ first (s.take 18)) : decode s = (Fr.zero, 0, 27) := by unfold decode; rw [if_neg (by omega), if_neg h2, if_neg h3, if_pos h4]
theorem dec5 (h2 : ¬ s.getD 0 0 ≠ 245) (h3 : ¬ s.length < 26) (h4 : ¬ (s.drop 18).take 8 ≠ first (s.take 18)) (h5 : 2147483647 < stN s ∨ 1099511627775 < nbN s) : decode s = (Fr.zero, 0, 2) := by
  unfold decode; rw [if_neg (by omega), if_neg h2, if_neg h3, if_neg h4, if_pos h5]
theorem dec6 (h2 : ¬ s.getD 0 0 ≠ 245) (h3 : ¬ s.length < 26) (h4 : ¬ (s.drop 18).take 8 ≠ first (s.take 18)) (h5 : ¬ (2147483647 < stN s ∨ 1099511627775 < nbN s)) (h6 : 262144 < lnN s) : decode s = (Fr.zero, 0, 5) := by
  unfold decode; rw [if_neg (by omega), if_neg h2, if_neg h3, if_neg h4, if_neg h5, if_pos h6]
theorem dec7 (h2 : ¬ s.getD 0 0 ≠ 245) (h3 : ¬ s.length < 26) (h4 : ¬ (s.drop 18).take 8 ≠ first (s.take 18)) (h5 : ¬ (2147483647 < stN s ∨ 1099511627775 < nbN s)) (h6 : ¬ 262144 < lnN s) (h7 : s.length < 42 + lnN s) :
    decode s = (Fr.zero, 0, 28) := by
  unfold decode; rw [if_neg (by omega), if_neg h2, if_neg h3, if_neg h4, if_neg h5, if_neg h6, if_pos h7]
theorem dec8 (h2 : ¬ s.getD 0 0 ≠ 245) (h3 : ¬ s.length < 26) (h4 : ¬ (s.drop 18).take 8 ≠ first (s.take 18)) (h5 : ¬ (2147483647 < stN s ∨ 1099511627775 < nbN s)) (h6 : ¬ 262144 < lnN s) (h7 : ¬ s.length < 42 + lnN s)
    (h8 : (s.drop (26 + lnN s)).take 16 ≠ second (s.take 18) (pay s)) : decode s = (Fr.zero, 0, 27) := by
  unfold decode; rw [if_neg (by omega), if_neg h2, if_neg h3, if_neg h4, if_neg h5, if_neg h6, if_neg h7, if_pos h8]
theorem dec9 (h2 : ¬ s.getD 0 0 ≠ 245) (h3 : ¬ s.length < 26) (h4 : ¬ (s.drop 18).take 8 ≠ first (s.take 18)) (h5 : ¬ (2147483647 < stN s ∨ 1099511627775 < nbN s)) (h6 : ¬ 262144 < lnN s) (h7 : ¬ s.length < 42 + lnN s)
    (h8 : ¬ (s.drop (26 + lnN s)).take 16 ≠ second (s.take 18) (pay s)) : decode s = (⟨((s.getD 1 0).toNat : Int), (stN s : Int), (nbN s : Int), pay s⟩, 42 + lnN s, 0) := by
  unfold decode; rw [if_neg (by omega), if_neg h2, if_neg h3, if_neg h4, if_neg h5, if_neg h6, if_neg h7, if_neg h8]
/-- What an accepted frame says. -/
theorem dec_ok (h : (decode s).2.2 = 0) : s.getD 0 0 = 245 ∧ 26 ≤ s.length ∧ (s.drop 18).take 8 = first (s.take 18) ∧ ¬ (2147483647 < stN s ∨ 1099511627775 < nbN s) ∧ lnN s ≤ 262144 ∧ 42 + lnN s ≤ s.length ∧
    (s.drop (26 + lnN s)).take 16 = second (s.take 18) (pay s) ∧ decode s = (⟨((s.getD 1 0).toNat : Int), (stN s : Int), (nbN s : Int), pay s⟩, 42 + lnN s, 0) := by
  by_cases h1 : s.length = 0
  · rw [dec1 h1] at h; simp at h
  by_cases h2 : s.getD 0 0 ≠ 245
  · rw [dec2 h1 h2] at h; simp at h
  by_cases h3 : s.length < 26
  · rw [dec3 h1 h2 h3] at h; simp at h
  by_cases h4 : (s.drop 18).take 8 ≠ first (s.take 18)
  · rw [dec4 h2 h3 h4] at h; simp at h
  by_cases h5 : 2147483647 < stN s ∨ 1099511627775 < nbN s
  · rw [dec5 h2 h3 h4 h5] at h; simp at h
  by_cases h6 : 262144 < lnN s
  · rw [dec6 h2 h3 h4 h5 h6] at h; simp at h
  by_cases h7 : s.length < 42 + lnN s
  · rw [dec7 h2 h3 h4 h5 h6 h7] at h; simp at h
  by_cases h8 : (s.drop (26 + lnN s)).take 16 ≠ second (s.take 18) (pay s)
  · rw [dec8 h2 h3 h4 h5 h6 h7 h8] at h; simp at h
  exact ⟨Decidable.byContradiction h2, by omega, Decidable.byContradiction h4, h5, by omega, by omega, Decidable.byContradiction h8, dec9 h2 h3 h4 h5 h6 h7 h8⟩
theorem dec_no (h : (decode s).2.2 ≠ 0) : (decode s).1 = Fr.zero ∧ (decode s).2.1 = 0 := by
  by_cases h1 : s.length = 0
  · rw [dec1 h1]; exact ⟨rfl, rfl⟩
  by_cases h2 : s.getD 0 0 ≠ 245
  · rw [dec2 h1 h2]; exact ⟨rfl, rfl⟩
  by_cases h3 : s.length < 26
  · rw [dec3 h1 h2 h3]; exact ⟨rfl, rfl⟩
  by_cases h4 : (s.drop 18).take 8 ≠ first (s.take 18)
  · rw [dec4 h2 h3 h4]; exact ⟨rfl, rfl⟩
  by_cases h5 : 2147483647 < stN s ∨ 1099511627775 < nbN s
  · rw [dec5 h2 h3 h4 h5]; exact ⟨rfl, rfl⟩
  by_cases h6 : 262144 < lnN s
  · rw [dec6 h2 h3 h4 h5 h6]; exact ⟨rfl, rfl⟩
  by_cases h7 : s.length < 42 + lnN s
  · rw [dec7 h2 h3 h4 h5 h6 h7]; exact ⟨rfl, rfl⟩
  by_cases h8 : (s.drop (26 + lnN s)).take 16 ≠ second (s.take 18) (pay s)
  · rw [dec8 h2 h3 h4 h5 h6 h7 h8]; exact ⟨rfl, rfl⟩
  · rw [dec9 h2 h3 h4 h5 h6 h7 h8] at h; simp at h
theorem dec_size : (decode s).2.1 ≤ s.length := by
  by_cases h : (decode s).2.2 = 0
  · obtain ⟨_, _, _, _, _, h6, _, h8⟩ := dec_ok h
    rw [h8]; exact h6
  · rw [(dec_no h).2]; omega
end
/-- What stands at the beginning of bytes that begin with a header. -/
theorem take_of {f : Fr} {r : List UInt8} : ((header f ++ r).drop 2).take 4 = beN 4 f.stream.toNat ∧ ((header f ++ r).drop 6).take 8 = beN 8 f.number.toNat ∧ ((header f ++ r).drop 14).take 4 = beN 4 f.payload.length := by
  have h1 : header f ++ r = (245 :: beN 1 f.kind.toNat) ++ (beN 4 f.stream.toNat ++ (beN 8 f.number.toNat ++ (beN 4 f.payload.length ++ r))) := by simp [header]
  have e1 : (245 :: beN 1 f.kind.toNat).length = 2 := by simp [beN_len]
  have d2 : (header f ++ r).drop 2 = beN 4 f.stream.toNat ++ (beN 8 f.number.toNat ++ (beN 4 f.payload.length ++ r)) := by rw [h1, ← e1, List.drop_left]
  have d6 : (header f ++ r).drop 6 = beN 8 f.number.toNat ++ (beN 4 f.payload.length ++ r) := by
    rw [show (6 : Nat) = 2 + 4 from rfl, ← List.drop_drop, d2, List.drop_left' (beN_len 4 _)]
  have d14 : (header f ++ r).drop 14 = beN 4 f.payload.length ++ r := by
    rw [show (14 : Nat) = 6 + 8 from rfl, ← List.drop_drop, d6, List.drop_left' (beN_len 8 _)]
  exact ⟨by rw [d2, List.take_left' (beN_len 4 _)], by rw [d6, List.take_left' (beN_len 8 _)], by rw [d14, List.take_left' (beN_len 4 _)]⟩
theorem nums_of {f : Fr} {r : List UInt8} (h : check f = 0) : stN (header f ++ r) = f.stream.toNat ∧ nbN (header f ++ r) = f.number.toNat ∧ lnN (header f ++ r) = f.payload.length ∧ ((header f ++ r).getD 0 0) = 245 ∧ (((header f ++ r).getD 1 0).toNat : Int) = f.kind := by
  obtain ⟨h0, h1, h2, h3⟩ := check_ok h
  obtain ⟨i0, i1, i2, i3⟩ := h2
  obtain ⟨t1, t2, t3⟩ := take_of (f := f) (r := r)
  refine ⟨by rw [stN, t1, num_back (by omega)], by rw [nbN, t2, num_back (by omega)], by rw [lnN, t3, num_back (by omega)], rfl, ?_⟩
  have : (header f ++ r).getD 1 0 = UInt8.ofNat (f.kind.toNat / 256 ^ 0) := rfl
  rw [this, UInt8.toNat_ofNat']
  omega
/-- Decode returns the frame, whatever follows. -/
theorem decode_encode {f : Fr} (h : check f = 0) (m : List UInt8) : decode (encode f ++ m) = (f, 42 + f.payload.length, 0) := by
  have e : encode f ++ m = header f ++ (first (header f) ++ (f.payload ++ (second (header f) f.payload ++ m))) := by simp [encode]
  obtain ⟨h0, h1, h2, h3⟩ := check_ok h
  obtain ⟨n1, n2, n3, n4, n5⟩ := nums_of (r := first (header f) ++ (f.payload ++ (second (header f) f.payload ++ m))) h
  rw [← e] at n1 n2 n3 n4 n5
  have hl := header_len f
  have t18 : (encode f ++ m).take 18 = header f := by rw [e, List.take_left' hl]
  have d18 : (encode f ++ m).drop 18 = first (header f) ++ (f.payload ++ (second (header f) f.payload ++ m)) := by rw [e, List.drop_left' hl]
  have d26 : (encode f ++ m).drop 26 = f.payload ++ (second (header f) f.payload ++ m) := by
    rw [show (26 : Nat) = 18 + 8 from rfl, ← List.drop_drop, d18, List.drop_left' (first_len _)]
  have dn : (encode f ++ m).drop (26 + f.payload.length) = second (header f) f.payload ++ m := by
    rw [← List.drop_drop, d26, List.drop_left]
  have hp : pay (encode f ++ m) = f.payload := by rw [pay, n3, d26, List.take_left]
  have hlen : (encode f ++ m).length = 42 + f.payload.length + m.length := by rw [List.length_append, encode_len]
  rw [dec9 (fun h => h n4) (by omega) (fun h => h (by rw [d18, t18, List.take_left' (first_len _)])) (by rw [n1, n2]; obtain ⟨i0, i1, i2, i3⟩ := h2; omega) (by omega) (by omega)
    (fun h => h (by rw [n3, dn, t18, hp, List.take_left' (second_len _ _)]))]
  rw [n5, n1, n2, n3, hp]
  obtain ⟨i0, i1, i2, i3⟩ := h2
  rw [show ((f.stream.toNat : Nat) : Int) = f.stream by omega, show ((f.number.toNat : Nat) : Int) = f.number by omega]
/-- A proper beginning of a frame is truncated. -/
theorem decode_cut {f : Fr} (h : check f = 0) (k : Nat) (hk : k < (encode f).length) : decode ((encode f).take k) = (Fr.zero, 0, 28) := by
  have hel := encode_len f
  have hlen : ((encode f).take k).length = k := by simp; omega
  obtain ⟨h0, h1, h2, h3⟩ := check_ok h
  by_cases h0 : k = 0
  · exact dec1 (by omega)
  have hg : ((encode f).take k).getD 0 0 = 245 := by
    have : (encode f).getD 0 0 = 245 := rfl
    rw [← this]
    simp [List.getD, List.getElem?_take_of_lt (show 0 < k by omega)]
  by_cases h26 : k < 26
  · exact dec3 (by omega) (fun h => h hg) (by omega)
  have e : (encode f).take k = header f ++ (first (header f) ++ (f.payload ++ second (header f) f.payload).take (k - 26)) := by
    unfold encode
    rw [List.take_append, header_len, List.take_of_length_le (by rw [header_len]; omega), List.take_append, first_len, List.take_of_length_le (by rw [first_len]; omega), show k - 18 - 8 = k - 26 by omega]
  obtain ⟨n1, n2, n3, n4, n5⟩ := nums_of (r := first (header f) ++ (f.payload ++ second (header f) f.payload).take (k - 26)) h
  rw [← e] at n1 n2 n3
  obtain ⟨i0, i1, i2, i3⟩ := h2
  have t18 : ((encode f).take k).take 18 = header f := by rw [e, List.take_left' (header_len f)]
  have d18 : ((encode f).take k).drop 18 = first (header f) ++ (f.payload ++ second (header f) f.payload).take (k - 26) := by rw [e, List.drop_left' (header_len f)]
  exact dec7 (fun h => h hg) (by omega) (fun h => h (by rw [d18, t18, List.take_left' (first_len _)])) (by rw [n1, n2]; omega) (by omega) (by rw [n3]; omega)
theorem bt_at (s : List UInt8) (i : Nat) (c : UInt8) : bt s i = (c.toNat : Int) ↔ s.getD i 0 = c := by
  unfold bt
  constructor
  · intro h; exact UInt8.toNat_inj.1 (by omega)
  · intro h; rw [h]
theorem bt245 (s : List UInt8) : bt s 0 = 245 ↔ s.getD 0 0 = 245 := bt_at s 0 245
theorem or_nat64 (a b : Nat) (ha : a < 2 ^ 64) (hb : b < 2 ^ 64) : bits .or .u64 (a : Int) (b : Int) = ((a ||| b : Nat) : Int) := by
  have hx : a ||| b < 2 ^ 64 := Nat.or_lt_two_pow ha hb
  show IntKind.u64.wrap ((BitVec.ofInt 64 (a : Int) ||| BitVec.ofInt 64 (b : Int)).toNat : Int) = _
  rw [BitVec.toNat_or, BitVec.ofInt_natCast, BitVec.ofInt_natCast, BitVec.toNat_ofNat, BitVec.toNat_ofNat, Nat.mod_eq_of_lt ha, Nat.mod_eq_of_lt hb, u64w]
  omega
theorem or_byte (a : Nat) (ha : a < 2 ^ 56) (b : UInt8) : bits .or .u64 (((a : Int) * 256) % 18446744073709551616) ((b.toNat : Nat) : Int) = ((a * 256 + b.toNat : Nat) : Int) := by
  have hb := b.toNat_lt
  have e : ((a : Int) * 256) % 18446744073709551616 = ((2 ^ 8 * a : Nat) : Int) := by omega
  rw [e, or_nat64 _ _ (by omega) (by omega), ← Nat.two_pow_add_eq_or_of_lt (by omega)]
  omega
/-- The fields of a header: their sizes, where they begin, and what has been read of them. -/
def fldL : List Int := [1, 4, 8, 4]
def fld (i : Nat) : Nat := [1, 4, 8, 4].getD i 0
def off (i : Nat) : Nat := [1, 2, 6, 14, 18].getD i 0
def kN (s : List UInt8) : Nat := num ((s.drop 1).take 1)
def nums (s : List UInt8) : Nat → List Int
  | 0 => [0, 0, 0, 0]
  | 1 => [(kN s : Int), 0, 0, 0]
  | 2 => [(kN s : Int), (stN s : Int), 0, 0]
  | 3 => [(kN s : Int), (stN s : Int), (nbN s : Int), 0]
  | _ => [(kN s : Int), (stN s : Int), (nbN s : Int), (lnN s : Int)]
theorem nums_len (s : List UInt8) : ∀ i, (nums s i).length = 4
  | 0 => rfl
  | 1 => rfl
  | 2 => rfl
  | 3 => rfl
  | _ + 4 => rfl
theorem off_fld : ∀ i, i < 4 → off (i + 1) = off i + fld i ∧ off (i + 1) ≤ 18 ∧ fld i ≤ 8 ∧ fldL.getD i 0 = (fld i : Int) := by decide
theorem nums_at (s : List UInt8) : ∀ i, i < 4 → (nums s i).set i 0 = nums s i
  | 0, _ => rfl
  | 1, _ => rfl
  | 2, _ => rfl
  | 3, _ => rfl
  | n + 4, h => by omega
theorem nums_next (s : List UInt8) : ∀ i, i < 4 → (nums s i).set i ((num ((s.drop (off i)).take (fld i)) : Nat) : Int) = nums s (i + 1)
  | 0, _ => rfl
  | 1, _ => rfl
  | 2, _ => rfl
  | 3, _ => rfl
  | n + 4, h => by omega
theorem kN_eq {s : List UInt8} (h : 1 < s.length) : kN s = (s.getD 1 0).toNat := by
  have := num_take (s.drop 1) 0 (by simp; omega)
  unfold kN
  rw [this]
  simp [num, List.getD]
theorem num_step {s : List UInt8} {o j : Nat} (h : o + j < s.length) : num ((s.drop o).take (j + 1)) = num ((s.drop o).take j) * 256 + (s.getD (o + j) 0).toNat := by
  rw [num_take _ _ (by simp; omega)]
  simp [List.getD]
theorem num_small (s : List UInt8) (o j : Nat) (h : j ≤ 7) : num ((s.drop o).take j) < 2 ^ 56 := by
  have h1 := num_lt ((s.drop o).take j)
  have h2 : ((s.drop o).take j).length ≤ 7 := by simp; omega
  have h3 : 256 ^ ((s.drop o).take j).length ≤ 256 ^ 7 := Nat.pow_le_pow_right (by decide) h2
  omega
theorem lnN_lt (s : List UInt8) : lnN s < 4294967296 := by
  have h1 := num_lt ((s.drop 14).take 4)
  have h2 : ((s.drop 14).take 4).length ≤ 4 := by simp; omega
  have h3 : 256 ^ ((s.drop 14).take 4).length ≤ 256 ^ 4 := Nat.pow_le_pow_right (by decide) h2
  unfold lnN
  omega
theorem bytesOf_cells {d : List Int} (hd : Dig d) (m : Nat) : ((iv .u8 d).drop 0).take m = bv (bytesOf (d.take m)) := by
  rw [List.drop_zero]
  unfold iv bv bytesOf
  rw [← List.map_take, List.map_map]
  apply List.map_congr_left
  intro x hx
  have := hd.2 x (List.mem_of_mem_take hx)
  simp only [Function.comp_apply, Value.int.injEq, true_and]
  rw [UInt8.toNat_ofNat', Nat.mod_eq_of_lt (by omega)]
  omega
theorem beN_take : ∀ (k n j : Nat), j < k → (beN k n).take (j + 1) = (beN k n).take j ++ [UInt8.ofNat (n / 2 ^ (8 * (k - 1 - j)))]
  | 0, _, _, h => by omega
  | k + 1, n, 0, _ => by
    have : (256 : Nat) ^ k = 2 ^ (8 * k) := by rw [show (256 : Nat) = 2 ^ 8 from rfl, ← Nat.pow_mul]
    simp [beN, this]
  | k + 1, n, j + 1, h => by
    have ih := beN_take k n j (by omega)
    simp only [beN, List.take_succ_cons, List.cons_append]
    rw [ih, show k + 1 - 1 - (j + 1) = k - 1 - j by omega]
/-- A number in some bytes, as the reference reads it: -1 if it is too large. -/
def rnum (l : List UInt8) : Int := if 8 ≤ l.length ∧ 1125899906842624 < num (l.take 7) then -1 else (num l : Int)
theorem num_take_lt (l : List UInt8) {j : Nat} (h : j ≤ 6) : num (l.take j) ≤ 281474976710656 := by
  have h1 := num_lt (l.take j)
  have h2 : (l.take j).length ≤ 6 := by simp; omega
  have h3 : 256 ^ (l.take j).length ≤ 256 ^ 6 := Nat.pow_le_pow_right (by decide) h2
  omega
theorem rnum_big {l : List UInt8} {j : Nat} (hl : l.length ≤ 8) (hj : j < l.length) (hb : 1125899906842624 < num (l.take j)) : rnum l = -1 := by
  have h7 : j = 7 := by
    apply Decidable.byContradiction
    intro h
    have := num_take_lt l (show j ≤ 6 by omega)
    omega
  subst h7
  unfold rnum
  rw [if_pos ⟨by omega, hb⟩]
theorem rnum_all {l : List UInt8} (h : l.length = 8 → num (l.take 7) ≤ 1125899906842624) (hl : l.length ≤ 8 := by omega) : rnum l = (num l : Int) := by
  unfold rnum
  rw [if_neg]
  rintro ⟨h1, h2⟩
  have := h (by omega)
  omega
def fv (f : Fr) (i : Nat) : Nat := [f.kind.toNat, f.stream.toNat, f.number.toNat, f.payload.length].getD i 0
def hdrTo (f : Fr) : Nat → List UInt8
  | 0 => [245]
  | i + 1 => hdrTo f i ++ beN (fld i) (fv f i)
theorem hdrTo_succ (f : Fr) (i : Nat) : hdrTo f (i + 1) = hdrTo f i ++ beN (fld i) (fv f i) := rfl
theorem hdrTo_all (f : Fr) : hdrTo f 4 = header f := by
  simp [hdrTo, header, fld, fv]
theorem fld_le : ∀ i, fld i ≤ 8
  | 0 => by decide
  | 1 => by decide
  | 2 => by decide
  | 3 => by decide
  | _ + 4 => by simp [fld]
theorem hdrTo_len (f : Fr) : ∀ i, i ≤ 4 → (hdrTo f i).length ≤ 1 + 8 * i
  | 0, _ => by simp [hdrTo]
  | i + 1, h => by
    have := hdrTo_len f i (by omega)
    have h2 := fld_le i
    rw [hdrTo, List.length_append, beN_len]
    omega
theorem fv_val {f : Fr} (h : check f = 0) : ∀ i, i < 4 → [f.kind, f.stream, f.number, (f.payload.length : Int)].getD i 0 = (fv f i : Int) ∧ fv f i < 9223372036854775808 := by
  obtain ⟨h0, h1, h2, h3⟩ := check_ok h
  obtain ⟨i0, i1, i2, i3⟩ := h2
  intro i hi
  rcases (show i = 0 ∨ i = 1 ∨ i = 2 ∨ i = 3 by omega) with rfl | rfl | rfl | rfl
  · exact ⟨show f.kind = ((f.kind.toNat : Nat) : Int) by omega, show f.kind.toNat < _ by omega⟩
  · exact ⟨show f.stream = ((f.stream.toNat : Nat) : Int) by omega, show f.stream.toNat < _ by omega⟩
  · exact ⟨show f.number = ((f.number.toNat : Nat) : Int) by omega, show f.number.toNat < _ by omega⟩
  · exact ⟨rfl, show f.payload.length < _ by omega⟩
theorem rnum_short {l : List UInt8} (h : l.length ≤ 7) : rnum l = (num l : Int) := by
  unfold rnum
  rw [if_neg (by omega)]
theorem rnum_num {s : List UInt8} : (rnum ((s.drop 6).take 8) < 0 → 1099511627775 < nbN s) ∧ (0 ≤ rnum ((s.drop 6).take 8) → rnum ((s.drop 6).take 8) = (nbN s : Int)) := by
  unfold rnum nbN
  split
  · rename_i h
    refine ⟨fun _ => ?_, fun h => by simp at h⟩
    have := num_prefix ((s.drop 6).take 8) 7
    omega
  · exact ⟨fun h => by omega, fun _ => rfl⟩
/-- Whether two frames are equal. -/
def frSame (a b : Fr) : Bool := decide (a.kind = b.kind) && (decide (a.stream = b.stream) && (decide (a.number = b.number) && (decide (a.payload = b.payload) && true)))
theorem frSame_self (a : Fr) : frSame a a = true := by simp [frSame]
theorem frSame_iff (a b : Fr) : frSame a b = true ↔ a = b := by
  cases a; cases b
  simp [frSame]
def Fr.short (f : Fr) : Fr := ⟨f.kind, f.stream, f.number, f.payload.take 300⟩
/-- The example that 'known' tries. -/
def fr0 : Fr := ⟨1, 2, 3, [97, 98]⟩
/-- A Reader's cells. -/
def rcells (s n : Int) (wait : List UInt8) (e : Int) : List Value := [.int .i64 s, .int .i64 n, .string (str wait), .int .i64 e]
theorem bytesOf_all {d : List Int} (hd : ∀ x, x ∈ d → 0 ≤ x ∧ x ≤ 255) {m : Nat} (h : d.length ≤ m) : ((iv .u8 d).drop 0).take m = bv (bytesOf d) := by
  rw [List.drop_zero, List.take_of_length_le (by rw [iv_len]; exact h)]
  unfold iv bv bytesOf
  rw [List.map_map]
  apply List.map_congr_left
  intro x hx
  have := hd x hx
  simp only [Function.comp_apply, Value.int.injEq, true_and]
  rw [UInt8.toNat_ofNat', Nat.mod_eq_of_lt (by omega)]
  omega
end Go.Frm
/- Frames, in plain Lean: changed bytes, streams of frames, frames found in any bytes. -/
set_option linter.unusedVariables false
namespace Go.Frm
open Go.V Go.Sha
theorem gdt {l : List UInt8} {a c j : Nat} (h : j < c) : ((l.drop a).take c).getD j 0 = l.getD (a + j) 0 := by
  simp [List.getD, List.getElem?_take_of_lt h, List.getElem?_drop]
theorem part_same {l : List UInt8} {i a c : Nat} {x : UInt8} (h : i < a ∨ a + c ≤ i) : ((l.set i x).drop a).take c = (l.drop a).take c := by
  apply List.ext_getElem?
  intro j
  by_cases hj : j < c
  · rw [List.getElem?_take_of_lt hj, List.getElem?_take_of_lt hj, List.getElem?_drop, List.getElem?_drop, List.getElem?_set_ne (by omega)]
  · rw [List.getElem?_eq_none (by simp; omega), List.getElem?_eq_none (by simp; omega)]
theorem part_differs {l : List UInt8} {i a c : Nat} {x : UInt8} (hi : i < l.length) (hx : x ≠ l.getD i 0) (h1 : a ≤ i) (h2 : i < a + c) : ((l.set i x).drop a).take c ≠ (l.drop a).take c := fun h => by
  have := congrArg (fun z => z.getD (i - a) 0) h
  simp only [gdt (show i - a < c by omega), show a + (i - a) = i by omega] at this
  apply hx
  rw [← this]
  simp [List.getD, hi]
theorem drop_zero_take {l : List UInt8} {c : Nat} : (l.drop 0).take c = l.take c := rfl
/-- What a changed byte can do. -/
theorem tamper {f : Fr} (h : check f = 0) {i : Nat} (hi : i < (encode f).length) {x : UInt8} (hx : x ≠ (encode f).getD i 0) (hd : (decode ((encode f).set i x)).2.2 = 0) :
    (((encode f).take 18 ≠ ((encode f).set i x).take 18) → join 10 [(encode f).take 18] ≠ join 10 [((encode f).set i x).take 18] ∧ first ((encode f).take 18) = first (((encode f).set i x).take 18)) ∧
    (((encode f).take 18 = ((encode f).set i x).take 18) → (decode ((encode f).set i x)).1.payload ≠ f.payload ∧ second ((encode f).take 18) f.payload = second (((encode f).set i x).take 18) (decode ((encode f).set i x)).1.payload) := by
  obtain ⟨g0, g1, g2, g3, g4, g5, g6, g7⟩ := dec_ok hd
  have hel := encode_len f
  have e : encode f = header f ++ (first (header f) ++ (f.payload ++ second (header f) f.payload)) := rfl
  have hl := header_len f
  have t18 : (encode f).take 18 = header f := by rw [e, List.take_left' hl]
  have d18 : (encode f).drop 18 = first (header f) ++ (f.payload ++ second (header f) f.payload) := by rw [e, List.drop_left' hl]
  have d26 : (encode f).drop 26 = f.payload ++ second (header f) f.payload := by rw [show (26 : Nat) = 18 + 8 from rfl, ← List.drop_drop, d18, List.drop_left' (first_len _)]
  have dn : (encode f).drop (26 + f.payload.length) = second (header f) f.payload := by rw [← List.drop_drop, d26, List.drop_left]
  have p8 : ((encode f).drop 18).take 8 = first (header f) := by rw [d18, List.take_left' (first_len _)]
  constructor
  · intro hne
    have hi18 : i < 18 := by
      apply Decidable.byContradiction
      intro hc
      apply hne
      have := part_same (l := encode f) (i := i) (a := 0) (c := 18) (x := x) (.inr (by omega))
      exact this.symm
    refine ⟨fun hj => hne ?_, ?_⟩
    · have := (join_inj (s := 10) (t := 10) (A := [(encode f).take 18]) (B := [((encode f).set i x).take 18]) (by simp; omega) (by simp; omega) (by simp) (by simp)).1 hj
      simpa using this.2
    · rw [t18, ← g2, part_same (.inl hi18), p8]
  · intro heq
    have hi18 : 18 ≤ i := by
      apply Decidable.byContradiction
      intro hc
      exact part_differs (l := encode f) (i := i) (a := 0) (c := 18) (x := x) hi hx (by omega) (by omega) heq.symm
    have hb : (encode f).set i x = header f ++ ((encode f).set i x).drop 18 := by
      have := List.take_append_drop 18 ((encode f).set i x)
      rw [← heq, t18] at this
      exact this.symm
    obtain ⟨n1, n2, n3, n4, n5⟩ := nums_of (r := ((encode f).set i x).drop 18) h
    rw [← hb] at n3
    rw [← heq, t18] at g2 g6
    have hi26 : 26 ≤ i := by
      apply Decidable.byContradiction
      intro hc
      exact part_differs (l := encode f) (i := i) (a := 18) (c := 8) (x := x) hi hx (by omega) (by omega) (by rw [g2, p8])
    have hin : i < 26 + f.payload.length := by
      apply Decidable.byContradiction
      intro hc
      have hp : pay ((encode f).set i x) = f.payload := by rw [pay, n3, part_same (.inr (by omega)), d26, List.take_left]
      rw [hp, n3] at g6
      exact part_differs (l := encode f) (i := i) (a := 26 + f.payload.length) (c := 16) (x := x) hi hx (by omega) (by omega) (by rw [g6, dn, List.take_of_length_le (by rw [second_len]; exact Nat.le_refl _)])
    have hp : (decode ((encode f).set i x)).1.payload = pay ((encode f).set i x) := by rw [g7]
    rw [hp, ← heq, t18]
    constructor
    · intro hc
      exact part_differs (l := encode f) (i := i) (a := 26) (c := f.payload.length) (x := x) hi hx (by omega) (by omega) (by
        have : ((encode f).set i x).drop 26 = ((encode f).set i x).drop 26 := rfl
        rw [pay, n3] at hc
        rw [hc, d26, List.take_left])
    · rw [← g6, n3, part_same (.inl (by omega)), dn, List.take_of_length_le (by rw [second_len]; exact Nat.le_refl _)]
/-- The frames of a stream with consecutive numbers, where they end, and why. -/
def scan (st : Int) : (fuel : Nat) → List UInt8 → Int → List Fr × Nat × Int
  | 0, _, _ => ([], 0, 0)
  | k + 1, s, nb =>
    if s.length = 0 then ([], 0, 0) else
    if (decode s).2.2 ≠ 0 then ([], 0, (decode s).2.2) else
    if (decode s).1.stream ≠ st ∨ (decode s).1.number ≠ nb then ([], 0, 32) else
    let r := scan st k (s.drop (decode s).2.1) (nb + 1)
    ((decode s).1 :: r.1, (decode s).2.1 + r.2.1, r.2.2)
theorem dec_pos {s : List UInt8} (h : (decode s).2.2 = 0) : 42 ≤ (decode s).2.1 ∧ (decode s).2.1 ≤ s.length := by
  obtain ⟨_, _, _, _, _, h6, _, h8⟩ := dec_ok h
  rw [h8]
  exact ⟨by simp, h6⟩
theorem scan_nil {st : Int} (k : Nat) {s : List UInt8} (nb : Int) (h : s.length = 0) : scan st k s nb = ([], 0, 0) := by
  cases k with
  | zero => rfl
  | succ k => rw [scan, if_pos h]
/-- Fuel does not matter. -/
theorem scan_fuel {st : Int} : ∀ (k : Nat) (s : List UInt8) (nb : Int) (m : Nat), s.length ≤ k → s.length ≤ m → scan st k s nb = scan st m s nb
  | 0, s, nb, m, h, _ => by rw [scan_nil 0 nb (by omega), scan_nil m nb (by omega)]
  | k + 1, s, nb, 0, _, h => by rw [scan_nil 0 nb (by omega), scan_nil (k + 1) nb (by omega)]
  | k + 1, s, nb, m + 1, h1, h2 => by
    rw [scan, scan]
    by_cases h0 : s.length = 0
    · rw [if_pos h0, if_pos h0]
    rw [if_neg h0, if_neg h0]
    by_cases he : (decode s).2.2 ≠ 0
    · rw [if_pos he, if_pos he]
    rw [if_neg he, if_neg he]
    have hd := dec_pos (Decidable.byContradiction he)
    rw [scan_fuel k (s.drop (decode s).2.1) (nb + 1) m (by simp; omega) (by simp; omega)]
def scan' (st : Int) (s : List UInt8) (nb : Int) : List Fr × Nat × Int := scan st s.length s nb
theorem scan_end {st : Int} {s : List UInt8} {nb : Int} (h : s.length = 0) : scan' st s nb = ([], 0, 0) := scan_nil _ _ h
theorem scan_err {st : Int} {s : List UInt8} {nb : Int} (h : 0 < s.length) (he : (decode s).2.2 ≠ 0) : scan' st s nb = ([], 0, (decode s).2.2) := by
  unfold scan'
  obtain ⟨k, hk⟩ : ∃ k, s.length = k + 1 := ⟨s.length - 1, by omega⟩
  rw [hk, scan, if_neg (by omega), if_pos he]
theorem scan_seq {st : Int} {s : List UInt8} {nb : Int} (h : 0 < s.length) (he : (decode s).2.2 = 0) (hs : (decode s).1.stream ≠ st ∨ (decode s).1.number ≠ nb) : scan' st s nb = ([], 0, 32) := by
  unfold scan'
  obtain ⟨k, hk⟩ : ∃ k, s.length = k + 1 := ⟨s.length - 1, by omega⟩
  rw [hk, scan, if_neg (by omega), if_neg (fun h => h he), if_pos hs]
theorem scan_next {st : Int} {s : List UInt8} {nb : Int} (h : 0 < s.length) (he : (decode s).2.2 = 0) (hs : ¬ ((decode s).1.stream ≠ st ∨ (decode s).1.number ≠ nb)) :
    scan' st s nb = ((decode s).1 :: (scan' st (s.drop (decode s).2.1) (nb + 1)).1, (decode s).2.1 + (scan' st (s.drop (decode s).2.1) (nb + 1)).2.1, (scan' st (s.drop (decode s).2.1) (nb + 1)).2.2) := by
  have hd := dec_pos he
  unfold scan'
  obtain ⟨k, hk⟩ : ∃ k, s.length = k + 1 := ⟨s.length - 1, by omega⟩
  rw [hk, scan, if_neg (by omega), if_neg (fun h => h he), if_neg hs, scan_fuel k _ _ (s.drop (decode s).2.1).length (by simp; omega) (Nat.le_refl _)]
/-- The frames that are found in any bytes. -/
def salv : (fuel : Nat) → List UInt8 → Nat → List (Nat × Fr)
  | 0, _, _ => []
  | k + 1, s, a =>
    if s.length = 0 then [] else
    if (decode s).2.2 ≠ 0 then salv k (s.drop 1) (a + 1) else
    (a, (decode s).1) :: salv k (s.drop (decode s).2.1) (a + (decode s).2.1)
theorem salv_nil (k : Nat) {s : List UInt8} (a : Nat) (h : s.length = 0) : salv k s a = [] := by
  cases k with
  | zero => rfl
  | succ k => rw [salv, if_pos h]
theorem salv_fuel : ∀ (k : Nat) (s : List UInt8) (a m : Nat), s.length ≤ k → s.length ≤ m → salv k s a = salv m s a
  | 0, s, a, m, h, _ => by rw [salv_nil 0 a (by omega), salv_nil m a (by omega)]
  | k + 1, s, a, 0, _, h => by rw [salv_nil 0 a (by omega), salv_nil (k + 1) a (by omega)]
  | k + 1, s, a, m + 1, h1, h2 => by
    rw [salv, salv]
    by_cases h0 : s.length = 0
    · rw [if_pos h0, if_pos h0]
    rw [if_neg h0, if_neg h0]
    by_cases he : (decode s).2.2 ≠ 0
    · rw [if_pos he, if_pos he, salv_fuel k (s.drop 1) (a + 1) m (by simp; omega) (by simp; omega)]
    rw [if_neg he, if_neg he]
    have hd := dec_pos (Decidable.byContradiction he)
    rw [salv_fuel k (s.drop (decode s).2.1) _ m (by simp; omega) (by simp; omega)]
def salv' (s : List UInt8) (a : Nat) : List (Nat × Fr) := salv s.length s a
theorem salv_end {s : List UInt8} {a : Nat} (h : s.length = 0) : salv' s a = [] := salv_nil _ _ h
theorem salv_skip {s : List UInt8} {a : Nat} (h : 0 < s.length) (he : (decode s).2.2 ≠ 0) : salv' s a = salv' (s.drop 1) (a + 1) := by
  unfold salv'
  obtain ⟨k, hk⟩ : ∃ k, s.length = k + 1 := ⟨s.length - 1, by omega⟩
  rw [hk, salv, if_neg (by omega), if_pos he, salv_fuel k _ _ (s.drop 1).length (by simp; omega) (Nat.le_refl _)]
theorem salv_take {s : List UInt8} {a : Nat} (h : 0 < s.length) (he : (decode s).2.2 = 0) : salv' s a = (a, (decode s).1) :: salv' (s.drop (decode s).2.1) (a + (decode s).2.1) := by
  have hd := dec_pos he
  unfold salv'
  obtain ⟨k, hk⟩ : ∃ k, s.length = k + 1 := ⟨s.length - 1, by omega⟩
  rw [hk, salv, if_neg (by omega), if_neg (fun h => h he), salv_fuel k _ _ (s.drop (decode s).2.1).length (by simp; omega) (Nat.le_refl _)]
theorem salv_free : ∀ (b x : List UInt8) (a : Nat), (∀ c, c ∈ b → c ≠ 245) → (salv' (b ++ x) a).length = (salv' x (a + b.length)).length
  | [], x, a, _ => rfl
  | c :: b, x, a, h => by
    have hc := h c List.mem_cons_self
    have e : (decode (c :: b ++ x)) = (Fr.zero, 0, 3) := dec2 (by simp) (by simpa [List.getD] using hc)
    rw [salv_skip (by simp) (by rw [e]; simp)]
    show (salv' (b ++ x) (a + 1)).length = _
    rw [salv_free b x (a + 1) (fun d hd => h d (List.mem_cons_of_mem _ hd)), List.length_cons]
    congr 2
    omega
/-- All frames are found. -/
theorem salv_all : ∀ (fs : List Fr) (x : List UInt8) (a : Nat), (∀ f, f ∈ fs → check f = 0) → fs.length ≤ (salv' (fs.flatMap encode ++ x) a).length
  | [], x, a, _ => by simp
  | f :: fs, x, a, h => by
    have hf := h f List.mem_cons_self
    have e0 : (f :: fs).flatMap encode ++ x = encode f ++ (fs.flatMap encode ++ x) := by simp
    have e := decode_encode hf (fs.flatMap encode ++ x)
    rw [e0, salv_take (by rw [List.length_append, encode_len]; omega) (by rw [e]), e]
    have hd : (encode f ++ (fs.flatMap encode ++ x)).drop (42 + f.payload.length) = fs.flatMap encode ++ x := List.drop_left' (encode_len f)
    simp only [hd, List.length_cons]
    have := salv_all fs x (a + (42 + f.payload.length)) (fun g hg => h g (List.mem_cons_of_mem _ hg))
    omega
theorem dec_pay (s : List UInt8) : (decode s).1.payload.length ≤ 262144 := by
  by_cases h : (decode s).2.2 = 0
  · obtain ⟨_, _, _, _, h5, _, _, h8⟩ := dec_ok h
    rw [h8]
    show (pay s).length ≤ _
    unfold pay
    simp
    omega
  · rw [(dec_no h).1]
    simp [Fr.zero]
theorem take_part {cs : List Value} {n q : Nat} {b : List UInt8} (h : cs.take n = bv b) (hq : q ≤ n) : (cs.drop 0).take q = bv (b.take q) := by
  rw [List.drop_zero, show cs.take q = (cs.take n).take q by rw [List.take_take, Nat.min_eq_left hq], h]
  simp [bv, List.map_take]
end Go.Frm
/- The bytes of a run, in plain Lean. -/
set_option linter.unusedVariables false
namespace Go.Frm
open Go.V Go.Sha
/-- A run's cells. -/
def runCells (st nb : Int) (vp : Value) (b a : List UInt8) (vt vb : Value) (cut : Nat) : List Value := [.int .i64 st, .int .i64 nb, vp, .string (str b), .string (str a), vt, vb, .int .u16 (cut : Int)]
/-- The i-th frame of a run. -/
def runFr (st nb : Int) (L : List (List UInt8)) (i : Nat) : Fr := ⟨(i : Int), st, IntKind.i64.wrap (nb + i), (L.getD i []).take 100⟩
def runFrs (st nb : Int) (L : List (List UInt8)) : Nat → List Fr
  | 0 => []
  | i + 1 => runFrs st nb L i ++ (if check (runFr st nb L i) = 0 then [runFr st nb L i] else [])
theorem runFr_len (st nb : Int) (L : List (List UInt8)) (i : Nat) : (runFr st nb L i).payload.length ≤ 100 := by simp [runFr]; omega
theorem runFrs_ok (st nb : Int) (L : List (List UInt8)) : ∀ i f, f ∈ runFrs st nb L i → check f = 0
  | 0, f, h => by simp [runFrs] at h
  | i + 1, f, h => by
    rw [runFrs, List.mem_append] at h
    rcases h with h | h
    · exact runFrs_ok st nb L i f h
    · split at h
      · simp at h; rw [h]; assumption
      · simp at h
/-- The bytes of the frames so far. -/
def runTo (st nb : Int) (L : List (List UInt8)) (b : List UInt8) (i : Nat) : List UInt8 := b ++ (runFrs st nb L i).flatMap encode
theorem runTo_yes {st nb : Int} {L : List (List UInt8)} {b : List UInt8} {i : Nat} (h : check (runFr st nb L i) = 0) : runTo st nb L b (i + 1) = runTo st nb L b i ++ encode (runFr st nb L i) := by
  simp [runTo, runFrs, h]
theorem runTo_no {st nb : Int} {L : List (List UInt8)} {b : List UInt8} {i : Nat} (h : ¬ check (runFr st nb L i) = 0) : runTo st nb L b (i + 1) = runTo st nb L b i := by
  simp [runTo, runFrs, h]
theorem runTo_len (st nb : Int) (L : List (List UInt8)) (b : List UInt8) : ∀ i, (runTo st nb L b i).length ≤ b.length + 142 * i
  | 0 => by simp [runTo, runFrs]
  | i + 1 => by
    have ih := runTo_len st nb L b i
    have hl := runFr_len st nb L i
    by_cases h : check (runFr st nb L i) = 0
    · rw [runTo_yes h, List.length_append, encode_len]; omega
    · rw [runTo_no h]; omega
/-- What Bytes returns: a text; if nothing is changed or cut off, what stands before, the frames, what stands behind. -/
def RetBytes (st nb : Int) (L : List (List UInt8)) (b a : List UInt8) (nt nc cut : Nat) (w : World) (e : Ending) (w' : World) : Prop :=
  ∃ s : List UInt8, e = .returned (.string (str s)) ∧ s.length ≤ 1000 ∧ ((nt = 0 ∨ nc = 0) → cut = 0 → s = runTo st nb L (b.take 50) (min 6 L.length) ++ a.take 50) ∧ Chg [] w w'
end Go.Frm
/- Lists of frames in memory; streams, continued. -/
set_option linter.unusedVariables false
namespace Go.Frm
open Go.V Go.Sha
def fvs (l : List Fr) : List Value := l.flatMap Fr.cells
theorem fvs_len (l : List Fr) : (fvs l).length = l.length * 4 := by
  induction l with
  | nil => rfl
  | cons f l ih =>
    have : fvs (f :: l) = f.cells ++ fvs l := rfl
    rw [this, List.length_append, ih, List.length_cons]
    have : f.cells.length = 4 := rfl
    omega
theorem fvs_snoc (l : List Fr) (f : Fr) : fvs (l ++ [f]) = fvs l ++ f.cells := by simp [fvs]
theorem fvs_at : ∀ (l : List Fr) (j : Nat), j < l.length → ((fvs l).drop (j * 4)).take 4 = (l.getD j Fr.zero).cells
  | [], _, h => by simp at h
  | f :: l, 0, _ => by
    have : fvs (f :: l) = f.cells ++ fvs l := rfl
    rw [this]
    rfl
  | f :: l, j + 1, h => by
    have e : fvs (f :: l) = f.cells ++ fvs l := rfl
    rw [e, show (j + 1) * 4 = 4 + j * 4 by omega, ← List.drop_drop, List.drop_left' (show f.cells.length = 4 from rfl), fvs_at l j (by simpa using h)]
    rfl
theorem rows_at {cs : List Value} {l : List Fr} {n j : Nat} (h : cs.take (n * 4) = fvs l) (hn : n = l.length) (hj : j < l.length) : (cs.drop (j * 4)).take 4 = (l.getD j Fr.zero).cells := by
  subst hn
  rw [← fvs_at l j hj, ← h, List.drop_take, List.take_take, Nat.min_eq_left (by omega)]
/-- What a stream answers, within limits. -/
def scanL (st nb : Int) (s : List UInt8) : List Fr × Nat × Int := if inside st nb then scan' st s nb else ([], 0, 2)
/-- The loop's invariant: what the rest adds. -/
def ScanInv (st nb : Int) (s : List UInt8) (acc : List Fr) (at_ : Nat) : Prop :=
  at_ ≤ s.length ∧ acc.length * 42 ≤ at_ ∧ scan' st s nb = (acc ++ (scan' st (s.drop at_) (nb + acc.length)).1, at_ + (scan' st (s.drop at_) (nb + acc.length)).2.1, (scan' st (s.drop at_) (nb + acc.length)).2.2)
theorem ScanInv.start (st nb : Int) (s : List UInt8) : ScanInv st nb s [] 0 := ⟨Nat.zero_le _, by simp, by simp⟩
section
variable {st nb : Int} {s : List UInt8} {acc : List Fr} {a : Nat} {l : List Fr} {z : Nat} {y : Int}
theorem ScanInv.fin (h : ScanInv st nb s acc a) (hp : scan' st s nb = (l, z, y)) (ha : ¬ a < s.length) : acc = l ∧ a = z ∧ 0 = y := by
  obtain ⟨h1, h2, h3⟩ := h
  rw [hp, scan_end (s := s.drop a) (by simp; omega)] at h3
  simp at h3
  exact ⟨h3.1.symm, h3.2.1.symm, h3.2.2.symm⟩
theorem ScanInv.err (h : ScanInv st nb s acc a) (hp : scan' st s nb = (l, z, y)) (ha : a < s.length) {d : Fr} {m : Nat} {e : Int} (hd : decode (s.drop a) = (d, m, e)) (he : e ≠ 0) : acc = l ∧ a = z ∧ e = y := by
  obtain ⟨h1, h2, h3⟩ := h
  rw [hp, scan_err (s := s.drop a) (by simp; omega) (by rw [hd]; exact he), hd] at h3
  simp at h3
  exact ⟨h3.1.symm, h3.2.1.symm, h3.2.2.symm⟩
theorem ScanInv.seq (h : ScanInv st nb s acc a) (hp : scan' st s nb = (l, z, y)) (ha : a < s.length) {d : Fr} {m : Nat} {e : Int} (hd : decode (s.drop a) = (d, m, e)) (he : e = 0) (hs : d.stream ≠ st ∨ d.number ≠ nb + acc.length) : acc = l ∧ a = z ∧ 32 = y := by
  obtain ⟨h1, h2, h3⟩ := h
  rw [hp, scan_seq (s := s.drop a) (by simp; omega) (by rw [hd]; exact he) (by rw [hd]; exact hs)] at h3
  simp at h3
  exact ⟨h3.1.symm, h3.2.1.symm, h3.2.2.symm⟩
theorem ScanInv.next (h : ScanInv st nb s acc a) (ha : a < s.length) {d : Fr} {m : Nat} {e : Int} (hd : decode (s.drop a) = (d, m, e)) (he : e = 0) (hs : d.stream = st) (hn : d.number = nb + acc.length) : ScanInv st nb s (acc ++ [d]) (a + m) ∧ 42 ≤ m ∧ a + m ≤ s.length := by
  obtain ⟨h1, h2, h3⟩ := h
  have hp := dec_pos (s := s.drop a) (by rw [hd]; exact he)
  rw [hd] at hp
  simp at hp
  have hn := scan_next (st := st) (s := s.drop a) (nb := nb + acc.length) (by simp; omega) (by rw [hd]; exact he) (by rw [hd]; simp; exact ⟨hs, hn⟩)
  rw [hd] at hn
  simp only [List.drop_drop] at hn
  refine ⟨⟨by omega, by simp; omega, ?_⟩, hp.1, by omega⟩
  rw [h3, hn]
  have e1 : nb + (acc ++ [d]).length = nb + acc.length + 1 := by simp; omega
  rw [e1]
  simp [Nat.add_assoc]
end
/-- What Scan returns: a new list of frames, where it ends, and why. -/
def RetScan (t : TypeId) (r : List Fr × Nat × Int) (w : World) (e : Ending) (w' : World) : Prop := ∃ v, e = .returned (.tuple #[v, .int .i64 (r.2.1 : Int), .int .i64 r.2.2]) ∧ Row w' t 4 v r.1.length (fvs r.1) ∧ Chg [] w w' ∧ Mine w.heap.size v
theorem scan_len : ∀ (k : Nat) (st : Int) (s : List UInt8) (nb : Int), (scan st k s nb).1.length ≤ s.length
  | 0, _, _, _ => by simp [scan]
  | k + 1, st, s, nb => by
    rw [scan]
    split
    · simp
    · split
      · simp
      · rename_i h0 he
        split
        · simp
        · have hd := dec_pos (Decidable.byContradiction he)
          have ih := scan_len k st (s.drop (decode s).2.1) (nb + 1)
          simp only [List.length_cons]
          rw [List.length_drop] at ih
          omega
theorem scanL_len (st nb : Int) (s : List UInt8) : (scanL st nb s).1.length ≤ s.length := by
  unfold scanL
  split
  · exact scan_len _ _ _ _
  · simp
end Go.Frm
/- A device in the heap: what its blocks show. Conditions: none of its own. -/
set_option linter.unusedVariables false
namespace Go.V
open Go

/-- The bytes of an empty block. -/
def zb : List UInt8 := List.replicate 512 0
abbrev Pend := List (Nat × List UInt8)
def upd (f : Int → List UInt8) (k : Int) (b : List UInt8) : Int → List UInt8 := fun j => if j = k then b else f j
/-- What is visible over pending writes. -/
def vis (p : Pend) (dur : Int → List UInt8) : Int → List UInt8 := p.foldl (fun f x => upd f x.1 x.2) dur
theorem vis_nil (dur : Int → List UInt8) : vis [] dur = dur := rfl
theorem vis_snoc (p : Pend) (a : Nat) (b : List UInt8) (dur : Int → List UInt8) : vis (p ++ [(a, b)]) dur = upd (vis p dur) a b := by simp [vis]
theorem vis_take {p : Pend} {dur : Int → List UInt8} {i : Nat} (h : i < p.length) : vis (p.take (i + 1)) dur = upd (vis (p.take i) dur) (p[i].1) p[i].2 := by
  rw [List.take_succ_eq_append_getElem h]
  exact vis_snoc _ _ _ _
theorem vis_len {p : Pend} {dur : Int → List UInt8} (hp : ∀ x ∈ p, x.2.length = 512) (hd : ∀ k, (dur k).length = 512) (k : Int) : (vis p dur k).length = 512 := by
  induction p generalizing dur with
  | nil => exact hd k
  | cons x r ih =>
    refine ih (fun y hy => hp y (List.mem_cons_of_mem _ hy)) fun j => ?_
    simp only [upd]
    split
    · exact hp x (by simp)
    · exact hd j
def prow (x : Nat × List UInt8) : List Value := .int .i64 (x.1 : Int) :: bv x.2
def flat (p : Pend) : List Value := p.flatMap prow
theorem prow_len {x : Nat × List UInt8} (h : x.2.length = 512) : (prow x).length = 513 := by simp [prow, bv_len, h]
theorem flat_len : ∀ {p : Pend}, (∀ x ∈ p, x.2.length = 512) → (flat p).length = p.length * 513
  | [], _ => rfl
  | x :: r, h => by
    have h1 := flat_len (p := r) fun y hy => h y (List.mem_cons_of_mem _ hy)
    have h2 := prow_len (h x (by simp))
    simp only [flat, List.flatMap_cons, List.length_append, List.length_cons] at h1 ⊢
    omega
theorem flat_snoc (p : Pend) (x : Nat × List UInt8) : flat (p ++ [x]) = flat p ++ prow x := by simp [flat]
theorem flat_at : ∀ {p : Pend} {i : Nat} (h : i < p.length), (∀ x ∈ p, x.2.length = 512) → ((flat p).drop (i * 513)).take 513 = prow p[i]
  | x :: r, 0, h, hl => by
    have h2 := prow_len (hl x (by simp))
    simp only [flat, List.flatMap_cons, Nat.zero_mul, List.drop_zero, List.getElem_cons_zero]
    rw [List.take_append_of_le_length (by omega), ← h2, List.take_length]
  | x :: r, i + 1, h, hl => by
    have h2 := prow_len (hl x (by simp))
    have h1 := flat_at (p := r) (i := i) (by simpa using h) fun y hy => hl y (List.mem_cons_of_mem _ hy)
    simp only [flat, List.flatMap_cons, List.getElem_cons_succ] at h1 ⊢
    rw [List.drop_append, List.drop_of_length_le (by omega), List.nil_append, h2, show (i + 1) * 513 - 513 = i * 513 by omega]
    exact h1
def bval (b : List UInt8) : Value := .agg (bv b).toArray
def zval : Value := bval zb

/-- The parts of a device. -/
structure DkI (tD tP : TypeId) (w : World) (d n : Nat) (mb : Nat) (pv : Value) (pend : Pend) (dur : Int → List UInt8) (o : Int) (dn : Bool) : Prop where
  blk : Blk w d tD [.int .i64 (n : Int), .map (some mb), pv, .int .i64 o, .int .i64 (-1), .bool dn]
  map : Mp w mb zval (fun k => bval (dur k))
  row : Row w tP 513 pv pend.length (flat pend)
  good : ∀ x ∈ pend, x.2.length = 512 ∧ x.1 < n
  len : ∀ k, (dur k).length = 512
  n0 : 1 ≤ n
  n1 : n ≤ 8192
/-- A device at d: n blocks, what they show, at most c writes pending, whether the power is down, the heap's blocks of which it consists. -/
def Dk (tD tP : TypeId) (w : World) (d n : Nat) (V : Int → List UInt8) (c : Nat) (dn : Bool) (ks : List Nat) : Prop :=
  ∃ mb pv pend dur o, DkI tD tP w d n mb pv pend dur o dn ∧ (∀ k, V k = vis pend dur k) ∧ pend.length ≤ c ∧ ks = d :: mb :: own pv

section
variable {tD tP : TypeId} {w w' : World} {d n mb : Nat} {pv : Value} {pend : Pend} {dur : Int → List UInt8} {o : Int} {dn : Bool} {V : Int → List UInt8} {c : Nat} {ks : List Nat}
theorem DkI.chg {bad : List Nat} (h : DkI tD tP w d n mb pv pend dur o dn) (hc : Chg bad w w') (hb : ∀ k ∈ d :: mb :: own pv, k ∉ bad) : DkI tD tP w' d n mb pv pend dur o dn :=
  ⟨h.blk.chg hc (hb _ (by simp)), h.map.chg hc (hb _ (by simp)), h.row.chg hc fun k hk => hb k (by simp [hk]), h.good, h.len, h.n0, h.n1⟩
theorem Dk.chg {bad : List Nat} (h : Dk tD tP w d n V c dn ks) (hc : Chg bad w w') (hb : ∀ k ∈ ks, k ∉ bad) : Dk tD tP w' d n V c dn ks := by
  obtain ⟨mb, pv, pend, dur, o, h1, h2, h3, rfl⟩ := h
  exact ⟨mb, pv, pend, dur, o, h1.chg hc hb, h2, h3, rfl⟩
theorem Dk.chg0 (h : Dk tD tP w d n V c dn ks) (hc : Chg [] w w') : Dk tD tP w' d n V c dn ks := h.chg hc (by simp)
theorem Dk.len (h : Dk tD tP w d n V c dn ks) (k : Int) : (V k).length = 512 := by
  obtain ⟨mb, pv, pend, dur, o, h1, h2, h3, rfl⟩ := h
  rw [h2]
  exact vis_len (fun x hx => (h1.good x hx).1) h1.len k
theorem Dk.n0 (h : Dk tD tP w d n V c dn ks) : 1 ≤ n ∧ n ≤ 8192 := by
  obtain ⟨mb, pv, pend, dur, o, h1, h2, h3, rfl⟩ := h
  exact ⟨h1.n0, h1.n1⟩
theorem Dk.lt (h : Dk tD tP w d n V c dn ks) : ∀ k ∈ ks, k < w.heap.size := by
  obtain ⟨mb, pv, pend, dur, o, h1, h2, h3, rfl⟩ := h
  intro k hk
  rcases List.mem_cons.1 hk with rfl | hk
  · exact h1.blk.lt
  rcases List.mem_cons.1 hk with rfl | hk
  · exact h1.map.lt
  · exact h1.row.lt k hk
theorem Dk.mem (h : Dk tD tP w d n V c dn ks) : d ∈ ks := by
  obtain ⟨mb, pv, pend, dur, o, h1, h2, h3, rfl⟩ := h
  simp
/-- A row of another type is none of the device's blocks. -/
theorem Dk.notin {g : Nat} {t : TypeId} {cs : List Value} (h : Dk tD tP w d n V c dn ks) (hb : Blk w g t cs) (h1 : t ≠ tD) (h2 : t ≠ tP) : g ∉ ks := by
  obtain ⟨mb, pv, pend, dur, o, hi, _, _, rfl⟩ := h
  intro hk
  rcases List.mem_cons.1 hk with rfl | hk
  · exact hb.ne hi.blk h1 rfl
  rcases List.mem_cons.1 hk with rfl | hk
  · exact hi.map.ne hb rfl
  · exact hi.row.notin hb (Ne.symm h2) hk
theorem Dk.apart {g : Nat} {t : TypeId} {cs : List Value} (h : Dk tD tP w d n V c dn ks) (hb : Blk w g t cs) (h1 : t ≠ tD) (h2 : t ≠ tP) : ∀ k ∈ ks, k ∉ [g] := fun k hk hm => by
  have : k = g := by simpa using hm
  subst this
  exact h.notin hb h1 h2 hk
theorem Dk.apartR {e : TypeId} {size m : Nat} {v : Value} {xs : List Value} (h : Dk tD tP w d n V c dn ks) (hr : Row w e size v m xs) (h1 : e ≠ tD) (h2 : e ≠ tP) : ∀ k, k ∈ own v → k ∉ ks := by
  rcases hr.2 with ⟨rfl, _⟩ | ⟨g, cap, cs, rfl, h3, _⟩
  · simp [own]
  · intro k hk
    have : k = g := by simpa [own] using hk
    subst this
    exact h.notin h3 h1 h2
theorem Dk.apartR' {e : TypeId} {size m : Nat} {v : Value} {xs : List Value} (h : Dk tD tP w d n V c dn ks) (hr : Row w e size v m xs) (h1 : e ≠ tD) (h2 : e ≠ tP) : ∀ k ∈ ks, k ∉ own v := fun k hk hm => h.apartR hr h1 h2 k hm hk
theorem Dk.notinL {l : Nat} {r : Loop} (h : Dk tD tP w d n V c dn ks) (hl : Lp w l r) : l ∉ ks := by
  obtain ⟨mb, pv, pend, dur, o, hi, _, _, rfl⟩ := h
  intro hk
  rcases List.mem_cons.1 hk with rfl | hk
  · exact hl.ne hi.blk rfl
  rcases List.mem_cons.1 hk with rfl | hk
  · exact hi.map.neL hl rfl
  · exact hl.notin hi.row hk
theorem Dk.notinD {l : Nat} (h : Dk tD tP w d n V c dn ks) (hl : Df w l) : l ∉ ks := by
  obtain ⟨mb, pv, pend, dur, o, hi, _, _, rfl⟩ := h
  intro hk
  rcases List.mem_cons.1 hk with rfl | hk
  · exact hl.ne hi.blk rfl
  rcases List.mem_cons.1 hk with rfl | hk
  · exact hi.map.neD hl rfl
  · exact hl.notin hi.row hk
theorem Dk.apartL {l : Nat} {r : Loop} (h : Dk tD tP w d n V c dn ks) (hl : Lp w l r) : ∀ k ∈ ks, k ∉ [l] := fun k hk hm => by
  have : k = l := by simpa using hm
  subst this
  exact h.notinL hl hk
theorem Dk.apartD {l : Nat} (h : Dk tD tP w d n V c dn ks) (hl : Df w l) : ∀ k ∈ ks, k ∉ [l] := fun k hk hm => by
  have : k = l := by simpa using hm
  subst this
  exact h.notinD hl hk
end
/-- The device has changed, and nothing else that was there. -/
def Grew (ks ks' : List Nat) (w : World) : Prop := ∀ k ∈ ks', k ∈ ks ∨ w.heap.size ≤ k
theorem Grew.refl (ks : List Nat) (w : World) : Grew ks ks w := fun k hk => .inl hk
theorem Grew.trans {ks ks' ks'' : List Nat} {w w' : World} (h : Grew ks ks' w) (h' : Grew ks' ks'' w') (hs : w.heap.size ≤ w'.heap.size) : Grew ks ks'' w := fun k hk => by
  rcases h' k hk with h1 | h1
  · exact h k h1
  · exact .inr (by omega)
theorem bv_iv (b : List UInt8) : bv b = iv .u8 (b.map fun x => (x.toNat : Int)) := by simp [bv, iv]
theorem bytes_inj {a b : List UInt8} (h : (a.map fun x => (x.toNat : Int)) = b.map fun x => (x.toNat : Int)) : a = b := by
  have h2 : ∀ (a b : List UInt8), (a.map fun x => (x.toNat : Int)) = (b.map fun x => (x.toNat : Int)) → a = b := by
    intro a
    induction a with
    | nil => intro b h; cases b <;> simp at h ⊢
    | cons x r ih =>
      intro b h
      cases b with
      | nil => simp at h
      | cons y s =>
        simp only [List.map_cons, List.cons.injEq] at h
        have : x = y := UInt8.toNat.inj (by have := h.1; omega)
        rw [this, ih s h.2]
  exact h2 a b h
theorem Mp.eq {w : World} {b : Nat} {z : Value} {f g : Int → Value} (h : Mp w b z f) (hfg : ∀ k, f k = g k) : Mp w b z g := by
  obtain ⟨L, c, h1, h2, h3⟩ := h
  exact ⟨L, c, h1, h2, fun k => (h3 k).trans (hfg k)⟩
theorem vis_other {p : Pend} {dur : Int → List UInt8} {k : Int} (h : ∀ x ∈ p, (x.1 : Int) ≠ k) : vis p dur k = dur k := by
  induction p generalizing dur with
  | nil => rfl
  | cons x r ih =>
    show vis r (upd dur x.1 x.2) k = dur k
    rw [ih fun y hy => h y (List.mem_cons_of_mem _ hy)]
    simp [upd, Ne.symm (h x (by simp))]
theorem vis_last {p : Pend} {dur : Int → List UInt8} {at_ i : Nat} (hi : i < p.length) (h : p[i].1 = at_) (hj : ∀ j (hj : j < p.length), i + 1 ≤ j → p[j].1 ≠ at_) : vis p dur at_ = p[i].2 := by
  have e2 : vis p dur at_ = vis (p.drop (i + 1)) (vis (p.take (i + 1)) dur) at_ := by
    unfold vis
    rw [← List.foldl_append, List.take_append_drop]
  rw [e2, vis_other, vis_take hi]
  · simp [upd, h]
  · intro x hx
    obtain ⟨j, hj1, hj2⟩ := List.getElem_of_mem hx
    simp only [List.length_drop] at hj1
    rw [List.getElem_drop] at hj2
    have := hj (i + 1 + j) (by omega) (by omega)
    rw [hj2] at this
    omega
theorem Row.cell1 {w : World} {e : TypeId} {size n : Nat} {v : Value} {xs : List Value} (h : Row w e size v n xs) : v.cells = #[v] := by
  obtain ⟨A, cap, rfl, _⟩ := h.shape
  rfl
theorem none_below {p : Pend} {at_ i : Nat} (hi : i < p.length) (h : ∀ j (hj : j < p.length), i + 1 ≤ j → p[j].1 ≠ at_) (h2 : p[i].1 ≠ at_) : ∀ j (hj : j < p.length), i ≤ j → p[j].1 ≠ at_ := fun j hj hij => by
  by_cases e : i = j
  · subst e; exact h2
  · exact h j hj (by omega)
theorem lay_two {cs vs : List Value} {x : Value} {n : Nat} (h : cs.length = n + 1) (hv : vs.length = n) : lay (lay cs 0 [x]) 1 vs = x :: vs := by
  cases cs with
  | nil => simp at h
  | cons y r =>
    have hr : r.length = n := by simpa using h
    simp only [lay, List.take_zero, List.nil_append, List.length_cons, List.length_nil, Nat.zero_add, List.drop_succ_cons, List.drop_zero, List.singleton_append, List.take_succ_cons]
    rw [show 1 + vs.length = vs.length + 1 by omega, List.drop_succ_cons, List.drop_of_length_le (by omega)]
    simp
theorem prow_one {x : Nat × List UInt8} : ∀ v ∈ prow x, v.oneCell' = true := fun v hv => by
  rcases List.mem_cons.1 hv with rfl | hv
  · rfl
  · obtain ⟨b, _, rfl⟩ := List.mem_map.1 hv
    rfl
theorem Mp.apart {w : World} {l size n : Nat} {z : Value} {f : Int → Value} {e : TypeId} {v : Value} {xs : List Value} (h : Mp w l z f) (hr : Row w e size v n xs) : ∀ k, k ∈ own v → k ∉ [l] := fun k hk hm => by
  have : k = l := by simpa using hm
  subst this
  exact h.notin hr hk
end Go.V
/- The encoding of natural numbers in groups of seven bits. Conditions: none of its own. -/
set_option linter.unusedVariables false
namespace Go.V
open Go
/-- The encoding of a number. -/
def natEnc (n : Nat) : List UInt8 := if n < 128 then [UInt8.ofNat n] else UInt8.ofNat (n % 128 + 128) :: natEnc (n / 128)
termination_by n
decreasing_by omega
theorem natEnc_small {n : Nat} (h : n < 128) : natEnc n = [UInt8.ofNat n] := by rw [natEnc, if_pos h]
theorem natEnc_big {n : Nat} (h : ¬ n < 128) : natEnc n = UInt8.ofNat (n % 128 + 128) :: natEnc (n / 128) := by rw [natEnc, if_neg h]
theorem natEnc_len : ∀ (k n : Nat), n < 128 ^ (k + 1) → (natEnc n).length ≤ k + 1
  | 0, n, h => by rw [natEnc_small (by simpa using h)]; simp
  | k + 1, n, h => by
    by_cases h1 : n < 128
    · rw [natEnc_small h1]; simp
    · rw [natEnc_big h1]
      have := natEnc_len k (n / 128) (by rw [Nat.div_lt_iff_lt_mul (by omega)]; rw [Nat.pow_succ] at h; omega)
      simp only [List.length_cons]
      omega
theorem natEnc_pos (n : Nat) : 0 < (natEnc n).length := by
  by_cases h : n < 128
  · rw [natEnc_small h]; simp
  · rw [natEnc_big h]; simp

/-- The number at the beginning of bytes: the number, its length, the error. -/
def grp (most : Nat) : List UInt8 → Nat → Nat → Nat × Nat × Nat
  | [], i, u => (0, 0, if most ≤ i then 3 else 28)
  | c :: r, i, u => if i = most then (0, 0, 3) else if c.toNat < 128 then (if c.toNat = 0 ∧ 0 < i then (0, 0, 3) else (u + c.toNat * 2 ^ (7 * i), i + 1, 0)) else grp most r (i + 1) (u + (c.toNat - 128) * 2 ^ (7 * i))
theorem grp_natEnc (most : Nat) (rest : List UInt8) : ∀ (k n i u : Nat), n < 128 ^ (k + 1) → i + k < most → (0 < i → 0 < n) → grp most (natEnc n ++ rest) i u = (u + n * 2 ^ (7 * i), i + (natEnc n).length, 0)
  | 0, n, i, u, h, hm, h0 => by
    have h1 : n < 128 := by simpa using h
    have h2 : (UInt8.ofNat n).toNat = n := by simp [UInt8.toNat_ofNat']; omega
    rw [natEnc_small h1, List.singleton_append]
    simp only [grp, h2, h1, if_true]
    rw [if_neg (by omega), if_neg (by omega)]
    rfl
  | k + 1, n, i, u, h, hm, h0 => by
    by_cases h1 : n < 128
    · have h2 : (UInt8.ofNat n).toNat = n := by simp [UInt8.toNat_ofNat']; omega
      rw [natEnc_small h1, List.singleton_append]
      simp only [grp, h2, h1, if_true]
      rw [if_neg (by omega), if_neg (by omega)]
      rfl
    · have h2 : (UInt8.ofNat (n % 128 + 128)).toNat = n % 128 + 128 := by simp [UInt8.toNat_ofNat']; omega
      rw [natEnc_big h1, List.cons_append]
      simp only [grp, h2]
      rw [if_neg (by omega), if_neg (by omega), grp_natEnc most rest k (n / 128) (i + 1) _ (by rw [Nat.div_lt_iff_lt_mul (by omega)]; rw [Nat.pow_succ] at h; omega) (by omega) (by omega)]
      have e : 2 ^ (7 * (i + 1)) = 128 * 2 ^ (7 * i) := by rw [show 7 * (i + 1) = 7 * i + 7 by omega, Nat.pow_add]; omega
      have e2 : (n % 128 + 128 - 128) * 2 ^ (7 * i) + n / 128 * (128 * 2 ^ (7 * i)) = n * 2 ^ (7 * i) := by
        rw [Nat.add_sub_cancel, ← Nat.mul_assoc, ← Nat.add_mul]
        congr 1
        omega
      simp only [List.length_cons, Prod.mk.injEq, and_true]
      refine ⟨?_, by omega⟩
      rw [e]
      omega
theorem grp_bound (most : Nat) : ∀ (l : List UInt8) (i u : Nat), u < 2 ^ (7 * i) → i ≤ most → (grp most l i u).1 < 2 ^ (7 * most)
  | [], i, u, hu, hi => by simp only [grp]; exact Nat.two_pow_pos _
  | c :: r, i, u, hu, hi => by
    simp only [grp]
    split
    · exact Nat.two_pow_pos _
    · rename_i hne
      have hc := c.toNat_lt
      have e : 2 ^ (7 * (i + 1)) = 2 ^ (7 * i) * 128 := by rw [show 7 * (i + 1) = 7 * i + 7 by omega, Nat.pow_add]
      split
      · rename_i h1
        split
        · exact Nat.two_pow_pos _
        · have h2 : c.toNat * 2 ^ (7 * i) ≤ 127 * 2 ^ (7 * i) := Nat.mul_le_mul_right _ (by omega)
          have h3 : 2 ^ (7 * (i + 1)) ≤ 2 ^ (7 * most) := Nat.pow_le_pow_right (by omega) (by omega)
          simp only []
          omega
      · have h2 : (c.toNat - 128) * 2 ^ (7 * i) ≤ 127 * 2 ^ (7 * i) := Nat.mul_le_mul_right _ (by omega)
        exact grp_bound most r (i + 1) _ (by omega) (by omega)
theorem grp_size (most : Nat) : ∀ (l : List UInt8) (i u : Nat), (grp most l i u).2.1 ≤ i + l.length
  | [], i, u => by simp [grp]
  | c :: r, i, u => by
    simp only [grp, List.length_cons]
    split
    · simp
    · split
      · split
        · simp
        · simp only []; omega
      · have := grp_size most r (i + 1) (u + (c.toNat - 128) * 2 ^ (7 * i)); omega
theorem or_add64 (x y k : Nat) (hx : x < 2 ^ k) (hy : y < 128) (hk : k ≤ 56) : bits .or .u64 (x : Int) ((y * 2 ^ k : Nat) : Int) = ((x + y * 2 ^ k : Nat) : Int) := by
  have hp : 2 ^ k ≤ 2 ^ 56 := Nat.pow_le_pow_right (by omega) hk
  have hyk : y * 2 ^ k ≤ 127 * 2 ^ k := Nat.mul_le_mul_right _ (by omega)
  have h1 : x ||| y * 2 ^ k = x + y * 2 ^ k := by
    rw [Nat.or_comm, Nat.mul_comm, ← Nat.two_pow_add_eq_or_of_lt hx]
    omega
  have hb : x + y * 2 ^ k < 18446744073709551616 := by omega
  show IntKind.u64.wrap ((BitVec.ofInt 64 (x : Int) ||| BitVec.ofInt 64 ((y * 2 ^ k : Nat) : Int)).toNat : Int) = _
  rw [BitVec.toNat_or, BitVec.toNat_ofInt, BitVec.toNat_ofInt]
  have e1 : ((x : Int) % ((2 ^ 64 : Nat) : Int)).toNat = x := by omega
  have e2 : (((y * 2 ^ k : Nat) : Int) % ((2 ^ 64 : Nat) : Int)).toNat = y * 2 ^ k := by omega
  rw [e1, e2, h1, u64w]
  omega
end Go.V
