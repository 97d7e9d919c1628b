/- Joined texts and the parsing of digests, in plain Lean. -/
import Derived.Test.YtigjmemoaapmgaaDoorEng2
import Derived.Test.YtigjmemoaapmgaaDoorShaSpec3
set_option linter.unusedVariables false
namespace Go.Sha
open Go.V
/-- A length in four bytes. -/
def be4 (n : Nat) : List UInt8 := [UInt8.ofNat (n / 16777216), UInt8.ofNat (n / 65536), UInt8.ofNat (n / 256), UInt8.ofNat n]
def jpart (p : List UInt8) : List UInt8 := be4 p.length ++ p
def jparts (L : List (List UInt8)) : List UInt8 := L.flatMap jpart
/-- The text that stands for a tag and a list of texts. -/
def join (t : UInt8) (L : List (List UInt8)) : List UInt8 := [t, UInt8.ofNat L.length] ++ jparts L
theorem be4_len (n : Nat) : (be4 n).length = 4 := rfl
theorem jpart_len (p : List UInt8) : (jpart p).length = 4 + p.length := by simp [jpart, be4_len]
theorem jparts_cons (p : List UInt8) (L : List (List UInt8)) : jparts (p :: L) = jpart p ++ jparts L := rfl
theorem jparts_nil : jparts [] = [] := rfl
theorem jparts_app (L M : List (List UInt8)) : jparts (L ++ M) = jparts L ++ jparts M := by simp [jparts]
theorem join_len (t : UInt8) (L : List (List UInt8)) : (join t L).length = 2 + (jparts L).length := by simp [join]; omega
theorem jparts_succ {L : List (List UInt8)} {j : Nat} (h : j < L.length) : jparts (L.take (j + 1)) = jparts (L.take j) ++ jpart (L.getD j []) := by
  rw [List.take_add_one, jparts_app]
  simp [List.getD, h, jparts]
theorem jparts_take_le (L : List (List UInt8)) (j : Nat) : (jparts (L.take j)).length ≤ (jparts L).length := by
  have : jparts L = jparts (L.take j) ++ jparts (L.drop j) := by rw [← jparts_app, List.take_append_drop]
  rw [this, List.length_append]
  omega
theorem jparts_bound (L : List (List UInt8)) (m : Nat) (h : ∀ p, p ∈ L → p.length ≤ m) : (jparts L).length ≤ L.length * (4 + m) := by
  induction L with
  | nil => simp [jparts]
  | cons p L ih =>
    have h1 := ih (fun q hq => h q (List.mem_cons_of_mem _ hq))
    have h2 := h p (List.mem_cons_self)
    rw [jparts_cons, List.length_append, jpart_len, List.length_cons, Nat.succ_mul]
    omega
theorem be4_inj {m n : Nat} (hm : m < 256) (hn : n < 256) (h : be4 m = be4 n) : m = n := by
  simp only [be4, List.cons.injEq, and_true] at h
  have := congrArg UInt8.toNat h.2.2.2
  simp at this
  omega
theorem jparts_inj : ∀ (A B : List (List UInt8)), (∀ p, p ∈ A → p.length < 256) → (∀ p, p ∈ B → p.length < 256) → A.length = B.length → jparts A = jparts B → A = B
  | [], [], _, _, _, _ => rfl
  | [], _ :: _, _, _, h, _ => by simp at h
  | _ :: _, [], _, _, h, _ => by simp at h
  | p :: A, q :: B, hA, hB, h, he => by
    rw [jparts_cons, jparts_cons, jpart, jpart, List.append_assoc, List.append_assoc] at he
    obtain ⟨h1, h2⟩ := List.append_inj he rfl
    have hl := be4_inj (hA p List.mem_cons_self) (hB q List.mem_cons_self) h1
    obtain ⟨h3, h4⟩ := List.append_inj h2 hl
    rw [h3, jparts_inj A B (fun r hr => hA r (List.mem_cons_of_mem _ hr)) (fun r hr => hB r (List.mem_cons_of_mem _ hr)) (by simpa using h) h4]
theorem join_inj {s t : UInt8} {A B : List (List UInt8)} (hA : ∀ p, p ∈ A → p.length < 256) (hB : ∀ p, p ∈ B → p.length < 256) (hl : A.length < 256) (hm : B.length < 256) : join s A = join t B ↔ s = t ∧ A = B := by
  constructor
  · intro h
    simp only [join, List.cons_append, List.nil_append, List.cons.injEq] at h
    obtain ⟨h1, h2, h3⟩ := h
    have := congrArg UInt8.toNat h2
    simp at this
    exact ⟨h1, jparts_inj A B hA hB (by omega) h3⟩
  · rintro ⟨rfl, rfl⟩
    rfl
/-- The list that the laws use: at most 12 texts of at most 100 bytes. -/
def cutL (L : List (List UInt8)) : List (List UInt8) := (L.take 12).map (·.take 100)
theorem cutL_len (L : List (List UInt8)) : (cutL L).length ≤ 12 := by simp [cutL]; omega
theorem cutL_mem (L : List (List UInt8)) : ∀ p, p ∈ cutL L → p.length ≤ 100 := by
  intro p hp
  simp only [cutL, List.mem_map] at hp
  obtain ⟨q, _, rfl⟩ := hp
  simp
  omega
theorem cutL_bound (L : List (List UInt8)) : (jparts (cutL L)).length ≤ 1248 := by
  have := jparts_bound (cutL L) 100 (cutL_mem L)
  have := cutL_len L
  omega
theorem cutL_len_eq (L : List (List UInt8)) : (cutL L).length = min 12 L.length := by simp [cutL]
theorem cutL_take (L : List (List UInt8)) {j : Nat} (h : L.length ≤ j ∨ 12 ≤ j) : cutL (L.take j) = cutL L := by
  unfold cutL
  rw [List.take_take]
  rcases h with h | h
  · congr 1
    by_cases h12 : 12 ≤ j
    · rw [Nat.min_eq_left h12]
    · rw [List.take_of_length_le (by omega), List.take_of_length_le (by omega)]
  · rw [Nat.min_eq_left h]
theorem cutL_succ {L : List (List UInt8)} {j : Nat} (h : j < L.length) (h2 : j < 12) : cutL (L.take (j + 1)) = cutL (L.take j) ++ [(L.getD j []).take 100] := by
  unfold cutL
  rw [List.take_take, List.take_take, Nat.min_eq_right (by omega), Nat.min_eq_right (by omega), List.take_add_one, List.map_append]
  simp [List.getD, h]
theorem takeL_next {α : Type} [Inhabited α] {L M : List (List α)} {j : Nat} (h : L.take j = M.take j) (h1 : j < L.length) (h2 : j < M.length) (he : L.getD j [] = M.getD j []) : L.take (j + 1) = M.take (j + 1) := by
  rw [List.take_add_one, List.take_add_one, h]
  simp [List.getD, h1, h2] at he
  simp [h1, h2, he]
theorem jparts_empty : ∀ N : Nat, (jparts (List.replicate N [])).length = 4 * (List.replicate N ([] : List UInt8)).length
  | 0 => rfl
  | N + 1 => by
    rw [List.replicate_succ, jparts_cons, List.length_append, jparts_empty N, jpart_len, List.length_cons]
    simp
    omega
end Go.Sha
