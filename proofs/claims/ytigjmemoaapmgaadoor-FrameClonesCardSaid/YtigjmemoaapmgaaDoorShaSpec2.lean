/- SHA-256 in plain Lean, continued: the cells of a hash behind a write. Conditions: none. -/
import Derived.Test.YtigjmemoaapmgaaDoorEng2
import Derived.Test.YtigjmemoaapmgaaDoorShaSpec
set_option linter.unusedVariables false
namespace Go.Sha
open Go.V
def hcells (s : S8) (t : List UInt8) (n : Nat) : List Value := sv s ++ [.string (str t), .int .i64 (n : Int)]
theorem cut_le (m : List UInt8) : cut m ≤ m.length := by unfold cut; omega
theorem cut_mod (m : List UInt8) : cut m % 64 = 0 := by unfold cut; omega
theorem cut_rest (m : List UInt8) : m.length - cut m = m.length % 64 := by unfold cut; omega
theorem rest_len (m : List UInt8) : (m.drop (cut m)).length = m.length % 64 := by rw [List.length_drop, cut_rest]
theorem cut_small {m : List UInt8} (h : m.length < 64) : cut m = 0 := by unfold cut; omega
theorem hash_small {m : List UInt8} (h : m.length < 64) : hashCells m = hcells zero8 (m.drop (cut m)) m.length := by simp [hashCells, stOf, h, hcells]
theorem hash_big {m : List UInt8} (h : ¬ m.length < 64) : hashCells m = hcells (absorb init (m.take (cut m))) (m.drop (cut m)) m.length := by simp [hashCells, stOf, h, hcells]
theorem st_small {m : List UInt8} (h : m.length < 64) : absorb init (m.take (cut m)) = init := by rw [cut_small h, List.take_zero, absorb_small _ (by simp)]
theorem st_big {m : List UInt8} (h : ¬ m.length < 64) : stOf m = absorb init (m.take (cut m)) := by simp [stOf, h]
theorem hash_first {m : List UInt8} (h : m.length < 64) : lay (hashCells m) 0 (sv init) = hcells (absorb init (m.take (cut m))) (m.drop (cut m)) m.length := by rw [st_small h]; rfl
theorem write_at (m l A : List UInt8) (hA : A = m.drop (cut m) ++ l) (j : Nat) (h1 : j % 64 = 0) (h2 : j ≤ A.length) (h3 : A.length - j < 64) :
    cut (m ++ l) = cut m + j ∧ A.drop j = (m ++ l).drop (cut (m ++ l)) ∧ absorb (absorb init (m.take (cut m))) (A.take j) = absorb init ((m ++ l).take (cut (m ++ l))) := by
  have hc := cut_le m
  have hm := cut_mod m
  have hr := cut_rest m
  have e : (m ++ l).drop (cut m) = A := by rw [List.drop_append_of_le_length hc, hA]
  have hl : A.length = m.length - cut m + l.length := by rw [hA]; simp
  have e1 : cut (m ++ l) = cut m + j := by
    have : (m ++ l).length = m.length + l.length := by simp
    unfold cut at *
    omega
  refine ⟨e1, by rw [e1, ← List.drop_drop, e], ?_⟩
  rw [e1, List.take_add, e, List.take_append_of_le_length hc]
  exact (absorb_append (m.length / 64) init _ _ (by simp [cut]; omega)).symm
theorem zeros_same {n r : Nat} (h : r = n % 64) : zeros r = zeros n := by unfold zeros; omega
theorem padR_len (m : List UInt8) : ((pad m).drop (cut m)).length = m.length % 64 + 1 + zeros m.length + 8 := by
  rw [pad_drop]; simp [len8]; have := cut_rest m; omega
theorem padR_mod (m : List UInt8) : ((pad m).drop (cut m)).length % 64 = 0 := by
  rw [padR_len]; unfold zeros; omega
theorem absorb_zero (s : S8) (l : List UInt8) : absorb s (l.take 0) = s := by rw [List.take_zero, absorb_small _ (by simp)]
theorem absorb_sub {cs : List Value} {R : List UInt8} {j : Nat} (h : cs.take (R.length * 1) = bv R) (hj : j + 64 ≤ R.length) : (cs.drop j).take (j + 64 - j) = bv ((R.drop j).take 64) := by
  have h1 := drop_take_sub (cs := cs) (o := 0) (m := R.length) (xs := bv R) (p := j) (q := j + 64) (by simpa using h) (by omega) hj
  rw [Nat.zero_add] at h1
  rw [h1]
  simp only [bv, ← List.map_take, ← List.map_drop, List.drop_take, Nat.add_sub_cancel_left]
theorem pad_snoc (m : List UInt8) (b : UInt8) (hb : b ≠ 128 := by decide) : pad m ≠ pad (m ++ [b]) := fun h => by
  have h1 := congrArg (fun l : List UInt8 => l[m.length]?) h
  simp [pad] at h1
  exact hb h1.symm
def hex : List UInt8 := [48, 49, 50, 51, 52, 53, 54, 55, 56, 57, 97, 98, 99, 100, 101, 102]
def hex2 (x : Int) : List UInt8 := [hex.getD (x / 16).toNat 0, hex.getD (x % 16).toNat 0]
def hexOf (d : List Int) : List UInt8 := d.flatMap hex2
theorem hexOf_len (d : List Int) : (hexOf d).length = 2 * d.length := by
  unfold hexOf
  induction d with
  | nil => rfl
  | cons x r ih => simp [hex2, ih]; omega
theorem hexOf_succ {d : List Int} {t : Nat} (h : t < d.length) : hexOf (d.take (t + 1)) = hexOf (d.take t) ++ hex2 (d.getD t 0) := by
  unfold hexOf
  rw [List.take_add_one, List.flatMap_append]
  simp [h]
/-- 32 bytes, as numbers. -/
def Dig (d : List Int) : Prop := d.length = 32 ∧ ∀ x, x ∈ d → 0 ≤ x ∧ x ≤ 255
theorem Dig.at_ {d : List Int} (h : Dig d) (t : Nat) : 0 ≤ d.getD t 0 ∧ d.getD t 0 ≤ 255 := by
  by_cases ht : t < d.length
  · have : d.getD t 0 = d[t] := by simp [ht]
    rw [this]; exact h.2 _ (List.getElem_mem ht)
  · have : d.getD t 0 = 0 := by simp [Nat.le_of_not_lt ht]
    rw [this]; omega
theorem dig_ok (s : S8) : Dig (dig s) := ⟨rfl, fun x hx => by
  simp only [dig, bytes4, List.mem_append, List.mem_cons, List.not_mem_nil, or_false] at hx
  omega⟩
theorem sum_ok (m : List UInt8) : Dig (sum m) := dig_ok _
theorem take_min (l : List UInt8) (n : Nat) : l.take (min l.length n) = l.take n := by
  by_cases h : n ≤ l.length
  · rw [Nat.min_eq_right h]
  · rw [Nat.min_eq_left (by omega), List.take_length, List.take_of_length_le (by omega)]
/-- The order of two lists of numbers, as -1, 0 or 1. -/
def cmp : List Int → List Int → Int
  | x :: xs, y :: ys => if x < y then -1 else if y < x then 1 else cmp xs ys
  | _, _ => 0
theorem cmp_self : ∀ a : List Int, cmp a a = 0
  | [] => rfl
  | x :: xs => by simp [cmp, cmp_self xs]
theorem cmp_skip : ∀ (t : Nat) (a b : List Int), a.take t = b.take t → t ≤ a.length → t ≤ b.length → cmp a b = cmp (a.drop t) (b.drop t)
  | 0, a, b, _, _, _ => by simp
  | t + 1, [], b, _, h, _ => by simp at h
  | t + 1, x :: xs, [], _, _, h => by simp at h
  | t + 1, x :: xs, y :: ys, h, h1, h2 => by
    simp only [List.take_succ_cons, List.cons.injEq] at h
    obtain ⟨rfl, h⟩ := h
    simp only [List.length_cons, Nat.add_le_add_iff_right] at h1 h2
    simp only [cmp, Int.lt_irrefl, if_false, List.drop_succ_cons]
    exact cmp_skip t xs ys h h1 h2
theorem drop_getD {a : List Int} {t : Nat} (h : t < a.length) : a.drop t = a.getD t 0 :: a.drop (t + 1) := by
  rw [List.drop_eq_getElem_cons h]; simp [h]
theorem cmp_lt {a b : List Int} {t : Nat} (h : a.take t = b.take t) (h1 : t < a.length) (h2 : t < b.length) (hlt : a.getD t 0 < b.getD t 0) : cmp a b = -1 := by
  rw [cmp_skip t a b h (by omega) (by omega), drop_getD h1, drop_getD h2, cmp, if_pos hlt]
theorem cmp_gt {a b : List Int} {t : Nat} (h : a.take t = b.take t) (h1 : t < a.length) (h2 : t < b.length) (hlt : a.getD t 0 > b.getD t 0) : cmp a b = 1 := by
  rw [cmp_skip t a b h (by omega) (by omega), drop_getD h1, drop_getD h2, cmp, if_neg (by omega), if_pos hlt]
theorem take_next {a b : List Int} {t : Nat} (h : a.take t = b.take t) (h1 : t < a.length) (h2 : t < b.length) (he : a.getD t 0 = b.getD t 0) : a.take (t + 1) = b.take (t + 1) := by
  have e1 : a[t]? = some (a.getD t 0) := by simp [h1]
  have e2 : b[t]? = some (b.getD t 0) := by simp [h2]
  rw [List.take_add_one, List.take_add_one, h, e1, e2, he]
end Go.Sha
