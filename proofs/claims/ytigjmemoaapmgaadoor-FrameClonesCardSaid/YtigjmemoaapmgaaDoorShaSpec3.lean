/- The order of digests is the order of their texts. Conditions: none. -/
import Derived.Test.YtigjmemoaapmgaaDoorShaSpec2
set_option linter.unusedVariables false
namespace Go.Sha
open Go.V
theorem cmp_neg : ∀ (a b : List Int), a.length = b.length → cmp b a = - cmp a b
  | [], [], _ => rfl
  | [], y :: ys, h => by simp at h
  | x :: xs, [], h => by simp at h
  | x :: xs, y :: ys, h => by
    have ih := cmp_neg xs ys (by simpa using h)
    simp only [cmp]
    by_cases h1 : x < y
    · have h2 : ¬ y < x := by omega
      simp [h1, h2]
    · by_cases h2 : y < x
      · simp [h1, h2]
      · simp [h1, h2, ih]
theorem cmp_zero : ∀ (a b : List Int), a.length = b.length → cmp a b = 0 → a = b
  | [], [], _, _ => rfl
  | [], y :: ys, h, _ => by simp at h
  | x :: xs, [], h, _ => by simp at h
  | x :: xs, y :: ys, h, hc => by
    simp only [cmp] at hc
    by_cases h1 : x < y
    · rw [if_pos h1] at hc; simp at hc
    · by_cases h2 : y < x
      · rw [if_neg h1, if_pos h2] at hc; simp at hc
      · rw [if_neg h1, if_neg h2] at hc
        rw [cmp_zero xs ys (by simpa using h) hc, show x = y by omega]
theorem cmp_cases : ∀ (a b : List Int), cmp a b = -1 ∨ cmp a b = 0 ∨ cmp a b = 1
  | [], _ => .inr (.inl (by simp [cmp]))
  | _ :: _, [] => .inr (.inl (by simp [cmp]))
  | x :: xs, y :: ys => by
    have ih := cmp_cases xs ys
    simp only [cmp]
    split
    · exact .inl rfl
    · split
      · exact .inr (.inr rfl)
      · exact ih
theorem hex_lt : ∀ i j : Fin 16, (decide (hex.getD i.val 0 < hex.getD j.val 0) = decide (i.val < j.val)) ∧ ((hex.getD i.val 0 == hex.getD j.val 0) = decide (i.val = j.val)) := by decide +kernel
theorem hex_less {x y : Int} (hx : 0 ≤ x ∧ x ≤ 255) (hy : 0 ≤ y ∧ y ≤ 255) (r s : List UInt8) : Op.bytesLess (hex2 x ++ r) (hex2 y ++ s) = if x < y then true else if y < x then false else Op.bytesLess r s := by
  have h1 := hex_lt ⟨(x / 16).toNat, by omega⟩ ⟨(y / 16).toNat, by omega⟩
  have h2 := hex_lt ⟨(x % 16).toNat, by omega⟩ ⟨(y % 16).toNat, by omega⟩
  simp only [hex2, List.cons_append, List.nil_append, Op.bytesLess]
  simp only [] at h1 h2
  rw [h1.1, h1.2, h2.1, h2.2]
  by_cases a1 : (x / 16).toNat < (y / 16).toNat
  · rw [if_pos (by omega)]; simp [a1]
  · by_cases a2 : (x / 16).toNat = (y / 16).toNat
    · by_cases a3 : (x % 16).toNat < (y % 16).toNat
      · rw [if_pos (by omega)]; simp [a2, a3]
      · by_cases a4 : (x % 16).toNat = (y % 16).toNat
        · rw [if_neg (by omega), if_neg (by omega)]; simp [a2, a4]
        · rw [if_neg (by omega), if_pos (by omega)]; simp [a2, a3, a4]
    · rw [if_neg (by omega), if_pos (by omega)]; simp [a1, a2]
theorem hexOf_cons (x : Int) (r : List Int) : hexOf (x :: r) = hex2 x ++ hexOf r := rfl
theorem text_less : ∀ (a b : List Int), a.length = b.length → (∀ x, x ∈ a → 0 ≤ x ∧ x ≤ 255) → (∀ x, x ∈ b → 0 ≤ x ∧ x ≤ 255) → Op.bytesLess (hexOf a) (hexOf b) = decide (cmp a b = -1)
  | [], [], _, _, _ => by simp [hexOf, Op.bytesLess, cmp]
  | [], y :: ys, h, _, _ => by simp at h
  | x :: xs, [], h, _, _ => by simp at h
  | x :: xs, y :: ys, h, ha, hb => by
    rw [hexOf_cons, hexOf_cons, hex_less (ha x (by simp)) (hb y (by simp)), text_less xs ys (by simpa using h) (fun z hz => ha z (by simp [hz])) (fun z hz => hb z (by simp [hz]))]
    simp only [cmp]
    by_cases h1 : x < y
    · simp [h1]
    · by_cases h2 : y < x
      · simp [h1, h2]
      · simp [h1, h2]
theorem text_lss {a b : List Int} (ha : Dig a) (hb : Dig b) : Op.bytesLess (hexOf a) (hexOf b) = true ↔ cmp a b = -1 := by
  rw [text_less a b (by rw [ha.1, hb.1]) ha.2 hb.2]; simp
theorem text_gtr {a b : List Int} (ha : Dig a) (hb : Dig b) : (Op.bytesLess (hexOf a) (hexOf b) = false ∧ hexOf a ≠ hexOf b) ↔ cmp a b = 1 := by
  have hl : a.length = b.length := by rw [ha.1, hb.1]
  have h1 := text_less a b hl ha.2 hb.2
  have h2 := text_less b a hl.symm hb.2 ha.2
  have h3 := text_less a a rfl ha.2 ha.2
  have hn := cmp_neg a b hl
  have h0 := cmp_zero a b hl
  rcases cmp_cases a b with h | h | h
  · rw [h1, h]; simp
  · rw [h]; have := h0 h; subst this; simp
  · rw [h1, h]
    simp only [show ¬ ((1 : Int) = -1) by decide, decide_false, true_and, iff_true]
    intro he
    rw [← he, h3, cmp_self, hn, h] at h2
    simp at h2
theorem xor_same {x y : Int} (hx : 0 ≤ x ∧ x ≤ 255) (hy : 0 ≤ y ∧ y ≤ 255) : (bits .xor .u8 x y = x ↔ y = 0) ∧ 0 ≤ bits .xor .u8 x y ∧ bits .xor .u8 x y ≤ 255 := by
  obtain ⟨m, rfl⟩ := Int.eq_ofNat_of_zero_le hx.1
  obtain ⟨k, rfl⟩ := Int.eq_ofNat_of_zero_le hy.1
  have e : bits .xor .u8 (m : Int) (k : Int) = ((m ^^^ k : Nat) : Int) := by
    show IntKind.u8.wrap ((BitVec.ofInt 8 (m : Int) ^^^ BitVec.ofInt 8 (k : Int)).toNat : Int) = _
    have hlt : m ^^^ k < 2 ^ 8 := Nat.xor_lt_two_pow (by omega) (by omega)
    rw [BitVec.toNat_xor, BitVec.ofInt_natCast, BitVec.ofInt_natCast, BitVec.toNat_ofNat, BitVec.toNat_ofNat, Nat.mod_eq_of_lt (by omega), Nat.mod_eq_of_lt (by omega), u8w]
    omega
  have hlt : m ^^^ k < 2 ^ 8 := Nat.xor_lt_two_pow (by omega) (by omega)
  rw [e]
  refine ⟨⟨fun h => ?_, fun h => ?_⟩, by omega, by omega⟩
  · have h1 : m ^^^ k = m := by omega
    have h2 : m ^^^ (m ^^^ k) = m ^^^ m := by rw [h1]
    rw [← Nat.xor_assoc, Nat.xor_self, Nat.zero_xor] at h2
    omega
  · have : k = 0 := by omega
    subst this; simp
theorem Dig.set_ {d : List Int} (h : Dig d) (i : Nat) {x : Int} (hx : 0 ≤ x ∧ x ≤ 255) : Dig (d.set i x) := ⟨by simp [h.1], fun z hz => by
  rcases List.mem_or_eq_of_mem_set hz with h1 | h1
  · exact h.2 z h1
  · subst h1; exact hx⟩
theorem set_same {d : List Int} {i : Nat} {x : Int} (hi : i < d.length) : d.set i x = d ↔ x = d.getD i 0 := by
  constructor
  · intro h
    have : (d.set i x)[i]? = d[i]? := by rw [h]
    simp [hi] at this ⊢
    exact this
  · rintro rfl
    simp [hi]
end Go.Sha
