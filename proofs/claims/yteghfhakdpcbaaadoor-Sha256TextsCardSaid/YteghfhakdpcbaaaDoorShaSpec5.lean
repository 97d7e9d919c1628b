/- The text of a digest and its parsing, in plain Lean. -/
import Derived.Test.YteghfhakdpcbaaaDoorEng4
import Derived.Test.YteghfhakdpcbaaaDoorShaSpec3
set_option linter.unusedVariables false
namespace Go.Sha
open Go.V
/-- The value of a hexadecimal digit, or -1. -/
def hv (c : Int) : Int := if 48 ≤ c ∧ c ≤ 57 then c - 48 else if 97 ≤ c ∧ c ≤ 102 then c - 87 else -1
theorem hv_dig {c : Int} (h : 48 ≤ c ∧ c ≤ 57) : c - 48 = hv c := by unfold hv; rw [if_pos h]
theorem hv_let {c : Int} (h : 97 ≤ c ∧ c ≤ 102) : c - 87 = hv c := by unfold hv; rw [if_neg (by omega), if_pos h]
theorem hv_bd (c : Int) : -1 ≤ hv c ∧ hv c ≤ 15 := by unfold hv; split <;> (try split) <;> omega
theorem hv_bad {c : Int} (h1 : ¬ (48 ≤ c ∧ c ≤ 57)) (h2 : ¬ (97 ≤ c ∧ c ≤ 102)) : hv c < 0 := by unfold hv; rw [if_neg h1, if_neg h2]; decide
theorem hv_hex : ∀ i : Fin 16, hv (((hex.getD i.val 0).toNat : Nat) : Int) = (i.val : Int) := by decide
theorem hv_none : ∀ c : Fin 256, (∃ i : Fin 16, (hex.getD i.val 0).toNat = c.val) ∨ hv (c.val : Int) = -1 := by decide +kernel
theorem hv_at {c : UInt8} {i : Nat} (h : i < 16) (he : ((hex.getD i 0).toNat : Int) = (c.toNat : Int)) : hv (c.toNat : Int) = i := by
  rw [← he]; exact hv_hex ⟨i, h⟩
theorem hv_no {c : UInt8} (h : ∀ i, i < 16 → (hex.getD i 0).toNat ≠ c.toNat) : hv (c.toNat : Int) = -1 := by
  rcases hv_none ⟨c.toNat, c.toNat_lt⟩ with ⟨i, hi⟩ | h'
  · exact absurd hi (h i.val i.isLt)
  · exact h'
theorem hex_hv : ∀ c : Fin 256, 0 ≤ hv (c.val : Int) → (hex.getD (hv (c.val : Int)).toNat 0).toNat = c.val := by decide +kernel
theorem or16 : ∀ a b : Fin 16, bits .or .u8 (((a.val * 16 : Nat) : Int) % 256) (b.val : Int) = ((a.val * 16 + b.val : Nat) : Int) % 256 := by decide +kernel
theorem or_digit {x v : Int} (hx : 0 ≤ x) (h0 : 0 ≤ v) (h1 : v ≤ 15) : bits .or .u8 ((x * 16) % 256) v = (x * 16 + v) % 256 := by
  have := or16 ⟨(x % 16).toNat, by omega⟩ ⟨v.toNat, by omega⟩
  simp only at this
  rw [show (((x % 16).toNat * 16 : Nat) : Int) % 256 = (x * 16) % 256 by omega, show ((v.toNat : Nat) : Int) = v by omega, show (((x % 16).toNat * 16 + v.toNat : Nat) : Int) % 256 = (x * 16 + v) % 256 by omega] at this
  exact this
/-- The digest after the first digits. -/
def pd (l : List UInt8) : Nat → List Int
  | 0 => List.replicate 32 0
  | i + 1 => (pd l i).set (i / 2) (((pd l i).getD (i / 2) 0 * 16 + hv (bt l i)) % 256)
theorem pd_len (l : List UInt8) : ∀ i, (pd l i).length = 32
  | 0 => rfl
  | i + 1 => by simp [pd, pd_len l i]
theorem pd_dig (l : List UInt8) : ∀ i, Dig (pd l i)
  | 0 => ⟨rfl, fun x hx => by rw [List.eq_of_mem_replicate hx]; decide⟩
  | i + 1 => (pd_dig l i).set_ _ (by omega)
/-- The first digits are digits. -/
def Ok (l : List UInt8) (j : Nat) : Prop := ∀ i, i < j → 0 ≤ hv (bt l i)
theorem Ok.zero (l : List UInt8) : Ok l 0 := fun i h => by omega
theorem Ok.succ {l : List UInt8} {j : Nat} (h : Ok l j) (hj : 0 ≤ hv (bt l j)) : Ok l (j + 1) := fun i hi => by
  by_cases e : i = j
  · rw [e]; exact hj
  · exact h i (by omega)
/-- Where the first byte stands that is no digit. -/
def firstBad (l : List UInt8) : Nat := (List.range (min l.length 64)).findIdx fun i => decide (hv (bt l i) < 0)
theorem firstBad_at {l : List UInt8} {j : Nat} (hj : j < min l.length 64) (h : Ok l j) (hb : hv (bt l j) < 0) : firstBad l = j := by
  unfold firstBad
  rw [List.findIdx_eq (by simpa using hj)]
  refine ⟨by simpa using hb, fun i hi => ?_⟩
  simpa using h i hi
theorem firstBad_no {l : List UInt8} (h : Ok l (min l.length 64)) : firstBad l = min l.length 64 := by
  have : firstBad l = (List.range (min l.length 64)).length := by
    unfold firstBad
    rw [List.findIdx_eq_length]
    intro x hx
    have := h x (by simpa using hx)
    simpa using this
  simpa using this
def zeros32 : List Int := List.replicate 32 0
/-- What Parse answers. -/
def parse (l : List UInt8) : List Int × Nat × Int :=
  if firstBad l < min l.length 64 then (zeros32, firstBad l, 6) else if l.length < 64 then (zeros32, l.length, 4) else if 64 < l.length then (zeros32, 64, 5) else (pd l 64, 0, 0)
theorem parse_bad {l : List UInt8} {j : Nat} (hj : j < min l.length 64) (h : Ok l j) (hb : hv (bt l j) < 0) : parse l = (zeros32, j, 6) := by
  unfold parse
  rw [firstBad_at hj h hb, if_pos hj]
theorem parse_short {l : List UInt8} (h : Ok l (min l.length 64)) (hs : l.length < 64) : parse l = (zeros32, l.length, 4) := by
  unfold parse
  rw [firstBad_no h, if_neg (by omega), if_pos hs]
theorem parse_long {l : List UInt8} (h : Ok l (min l.length 64)) (hs : 64 < l.length) : parse l = (zeros32, 64, 5) := by
  unfold parse
  rw [firstBad_no h, if_neg (by omega), if_neg (by omega), if_pos hs]
theorem parse_ok {l : List UInt8} (h : Ok l 64) (hs : l.length = 64) : parse l = (pd l 64, 0, 0) := by
  have h' : Ok l (min l.length 64) := by rw [hs]; exact h
  unfold parse
  rw [firstBad_no h', if_neg (by omega), if_neg (by omega), if_neg (by omega)]
theorem parse_dig (l : List UInt8) : Dig (parse l).1 := by
  have hz : Dig zeros32 := ⟨rfl, fun x hx => by rw [List.eq_of_mem_replicate hx]; decide⟩
  have hp := pd_dig l 64
  unfold parse
  generalize pd l 64 = z at hp ⊢
  split
  · exact hz
  · split
    · exact hz
    · split
      · exact hz
      · exact hp
theorem parse_at (l : List UInt8) : (parse l).2.1 ≤ l.length := by
  unfold parse
  split
  · simp only []; omega
  · split
    · simp
    · split <;> simp only [] <;> omega
theorem parse_zero {l : List UInt8} (h : (parse l).2.2 = 0) : Ok l 64 ∧ l.length = 64 := by
  unfold parse at h
  split at h
  · simp at h
  · rename_i hb
    split at h
    · simp at h
    · split at h
      · simp at h
      · have hl : l.length = 64 := by omega
        refine ⟨fun i hi => ?_, hl⟩
        by_cases hn : 0 ≤ hv (bt l i)
        · exact hn
        · exfalso
          apply hb
          unfold firstBad
          have : (List.range (min l.length 64)).findIdx (fun i => decide (hv (bt l i) < 0)) < (List.range (min l.length 64)).length := by
            rw [List.findIdx_lt_length]
            exact ⟨i, by simp; omega, by simpa using hn⟩
          simpa using this
def pairv (l : List UInt8) (i : Nat) : Int := 16 * hv (bt l (2 * i)) + hv (bt l (2 * i + 1))
theorem pd_even {l : List UInt8} (h : Ok l 64) : ∀ k, k ≤ 32 → pd l (2 * k) = (List.range k).map (pairv l) ++ List.replicate (32 - k) 0
  | 0, _ => rfl
  | k + 1, hk => by
    have ih := pd_even h k (by omega)
    have a0 := h (2 * k) (by omega)
    have a1 := h (2 * k + 1) (by omega)
    have b0 := hv_bd (bt l (2 * k))
    have b1 := hv_bd (bt l (2 * k + 1))
    have hl : ((List.range k).map (pairv l)).length = k := by simp
    have hrep : List.replicate (32 - k) (0 : Int) = 0 :: List.replicate (32 - (k + 1)) 0 := by
      rw [show 32 - k = (32 - (k + 1)) + 1 by omega, List.replicate_succ]
    have set_at : ∀ (x y : Int) (r : List Int), ((List.range k).map (pairv l) ++ x :: r).set k y = (List.range k).map (pairv l) ++ y :: r := by
      intro x y r
      rw [List.set_append_right _ _ (by omega), hl, Nat.sub_self]
      rfl
    have get_at : ∀ (x : Int) (r : List Int), ((List.range k).map (pairv l) ++ x :: r).getD k 0 = x := by
      intro x r
      simp [List.getD, hl]
    show pd l (2 * k + 1 + 1) = _
    rw [pd, pd, ih, show (2 * k) / 2 = k by omega, show (2 * k + 1) / 2 = k by omega, hrep, get_at, set_at, get_at, set_at, List.range_succ, List.map_append, List.map_cons, List.map_nil, List.append_assoc]
    congr 1
    simp only [List.cons_append, List.nil_append]
    congr 1
    unfold pairv
    omega
theorem pd_all {l : List UInt8} (h : Ok l 64) : pd l 64 = (List.range 32).map (pairv l) := by
  have := pd_even h 32 (Nat.le_refl _)
  simpa using this
theorem hexOf_map {l : List UInt8} (h : Ok l 64) (hl : l.length = 64) : ∀ k, k ≤ 32 → hexOf ((List.range k).map (pairv l)) = l.take (2 * k)
  | 0, _ => by simp [hexOf]
  | k + 1, hk => by
    have ih := hexOf_map h hl k (by omega)
    have key : ∀ i, i < 64 → hex.getD (hv (bt l i)).toNat 0 = l.getD i 0 := by
      intro i hi
      have := hex_hv ⟨(l.getD i 0).toNat, (l.getD i 0).toNat_lt⟩ (h i hi)
      exact UInt8.toNat_inj.1 this
    have a0 := h (2 * k) (by omega)
    have a1 := h (2 * k + 1) (by omega)
    have b0 := hv_bd (bt l (2 * k))
    have b1 := hv_bd (bt l (2 * k + 1))
    rw [List.range_succ, List.map_append, hexOf, List.flatMap_append]
    show hexOf _ ++ _ = _
    rw [ih]
    have e2 : hex2 (pairv l k) = [l.getD (2 * k) 0, l.getD (2 * k + 1) 0] := by
      unfold hex2 pairv
      rw [show (16 * hv (bt l (2 * k)) + hv (bt l (2 * k + 1))) / 16 = hv (bt l (2 * k)) by omega, show (16 * hv (bt l (2 * k)) + hv (bt l (2 * k + 1))) % 16 = hv (bt l (2 * k + 1)) by omega, key _ (by omega), key _ (by omega)]
    simp only [List.map_cons, List.map_nil, List.flatMap_cons, List.flatMap_nil, List.append_nil, e2]
    show _ = l.take (2 * k + 1 + 1)
    have e3 : l.take (2 * k + 1) = l.take (2 * k) ++ [l.getD (2 * k) 0] := by
      rw [List.take_add_one]
      simp [List.getD, show 2 * k < l.length by omega]
    have e4 : l.take (2 * k + 1 + 1) = l.take (2 * k + 1) ++ [l.getD (2 * k + 1) 0] := by
      rw [List.take_add_one]
      simp [List.getD, show 2 * k + 1 < l.length by omega]
    rw [e4, e3, List.append_assoc]
    rfl
/-- What is accepted is printed unchanged. -/
theorem hexOf_pd {l : List UInt8} (h : Ok l 64) (hl : l.length = 64) : hexOf (pd l 64) = l := by
  rw [pd_all h, hexOf_map h hl 32 (Nat.le_refl _), List.take_of_length_le (by omega)]
theorem hexOf_at : ∀ (d : List Int) (i : Nat), i < d.length → (hexOf d).getD (2 * i) 0 = hex.getD (d.getD i 0 / 16).toNat 0 ∧ (hexOf d).getD (2 * i + 1) 0 = hex.getD (d.getD i 0 % 16).toNat 0
  | [], _, h => by simp at h
  | x :: d, 0, _ => by simp [hexOf, hex2]
  | x :: d, i + 1, h => by
    have := hexOf_at d i (by simpa using h)
    have e : hexOf (x :: d) = hex2 x ++ hexOf d := rfl
    have hl : (hex2 x).length = 2 := rfl
    have sh : ∀ j, (hex2 x ++ hexOf d).getD (2 + j) 0 = (hexOf d).getD j 0 := by
      intro j
      simp [List.getD, List.getElem?_append_right, hl]
    rw [e, show 2 * (i + 1) = 2 + 2 * i by omega, show 2 + 2 * i + 1 = 2 + (2 * i + 1) by omega, sh, sh]
    simpa [List.getD] using this
theorem hv_text {d : List Int} (hd : Dig d) (i : Nat) (h : i < 32) : hv (bt (hexOf d) (2 * i)) = d.getD i 0 / 16 ∧ hv (bt (hexOf d) (2 * i + 1)) = d.getD i 0 % 16 := by
  have hb := hd.at_ i
  have hi := hexOf_at d i (by rw [hd.1]; exact h)
  unfold bt
  rw [hi.1, hi.2]
  have h1 := hv_hex ⟨(d.getD i 0 / 16).toNat, by omega⟩
  have h2 := hv_hex ⟨(d.getD i 0 % 16).toNat, by omega⟩
  simp only at h1 h2
  rw [h1, h2]
  omega
theorem ok_text {d : List Int} (hd : Dig d) : Ok (hexOf d) 64 := fun j hj => by
  have hb := hd.at_ (j / 2)
  have := hv_text hd (j / 2) (by omega)
  by_cases e : j % 2 = 0
  · rw [show j = 2 * (j / 2) by omega, this.1]; omega
  · rw [show j = 2 * (j / 2) + 1 by omega, this.2]; omega
/-- Parse is the inverse of String. -/
theorem parse_text {d : List Int} (hd : Dig d) : parse (hexOf d) = (d, 0, 0) := by
  rw [parse_ok (ok_text hd) (by rw [hexOf_len, hd.1]), pd_all (ok_text hd)]
  congr 1
  apply List.ext_getElem?
  intro i
  by_cases hi : i < 32
  · have := hv_text hd i hi
    have hb := hd.at_ i
    have hl := hd.1
    simp only [List.getElem?_map, List.getElem?_range hi, Option.map_some, pairv, this.1, this.2]
    rw [List.getElem?_eq_getElem (by omega)]
    congr 1
    have : d.getD i 0 = d[i] := by simp [List.getD, show i < d.length by omega]
    rw [← this]
    omega
  · have hl := hd.1
    rw [List.getElem?_eq_none (by simp; omega), List.getElem?_eq_none (by omega)]
end Go.Sha
