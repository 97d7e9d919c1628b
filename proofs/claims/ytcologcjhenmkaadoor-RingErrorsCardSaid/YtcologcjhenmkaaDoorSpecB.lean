/- Rings, in plain Lean: what places show, heads, entries. Conditions: none of its own. -/
import Derived.Test.YtcologcjhenmkaaDoorSpecA
import Derived.Test.YtcologcjhenmkaaDoorEngB
set_option linter.unusedVariables false
namespace Go.Rg
open Go Go.V Go.Frm

abbrev Vis := Int → List UInt8
/-- The block of a place. -/
def bk (a : Nat) (P i : Nat) : Int := ((a + 2 + i % P : Nat) : Int)
/-- The bytes of n blocks from a place on, without the first byte of each further one. -/
def piece (V : Vis) (a P p : Nat) : Nat → List UInt8
  | 0 => []
  | n + 1 => piece V a P p n ++ (V (bk a P (p + n))).drop (if n = 0 then 0 else 1)
def Full (V : Vis) : Prop := ∀ k, (V k).length = 512
theorem piece_len {V : Vis} (hV : Full V) (a P p : Nat) : ∀ n, (piece V a P p (n + 1)).length = 512 + 511 * n
  | 0 => by simp [piece, hV _]
  | n + 1 => by
    rw [piece, List.length_append, piece_len hV a P p n, List.length_drop, hV _, if_neg (by omega)]
    omega
theorem piece_le {V : Vis} (hV : Full V) (a P p n : Nat) : (piece V a P p n).length ≤ 512 * n := by
  cases n with
  | zero => simp [piece]
  | succ n => rw [piece_len hV]; omega
theorem piece_pre (V : Vis) (a P p n : Nat) : ∀ m, n ≤ m → ∃ r, piece V a P p m = piece V a P p n ++ r
  | 0, h => by obtain rfl : n = 0 := by omega
               exact ⟨[], by simp [piece]⟩
  | m + 1, h => by
    by_cases e : n = m + 1
    · subst e; exact ⟨[], by simp⟩
    · obtain ⟨r, hr⟩ := piece_pre V a P p n m (by omega)
      exact ⟨r ++ (V (bk a P (p + m))).drop (if m = 0 then 0 else 1), by rw [piece, hr, List.append_assoc]⟩
theorem piece_congr {V V' : Vis} {a P p : Nat} : ∀ {n : Nat}, (∀ j, j < n → V (bk a P (p + j)) = V' (bk a P (p + j))) → piece V a P p n = piece V' a P p n
  | 0, _ => rfl
  | n + 1, h => by rw [piece, piece, piece_congr fun j hj => h j (by omega), h n (by omega)]
theorem piece_mod (V : Vis) (a P p : Nat) : ∀ n, piece V a P (p % P) n = piece V a P p n
  | 0 => rfl
  | n + 1 => by rw [piece, piece, piece_mod V a P p n]; simp [bk]
/-- The number of blocks for some bytes. -/
def need (n : Nat) : Nat := 1 + (n - 512 + 510) / 511
theorem need_pos (n : Nat) : 1 ≤ need n := by unfold need; omega
/-- The frame of the kind 2 at a place that has at most some blocks. -/
def find (V : Vis) (a P p most : Nat) : Fr × Nat × Bool :=
  if most = 0 then (Fr.zero, 0, false) else
  let d := if (decode (piece V a P p 1)).2.2 = 28 then decode (piece V a P p most) else decode (piece V a P p 1)
  (d.1, need d.2.1, decide (d.2.2 = 0) && decide (d.1.kind = 2))
/-- A head. -/
structure Hd where
  gen : Nat
  first : Nat
  place : Nat
  base : Nat
  deriving DecidableEq
def Hd.cells (h : Hd) : List Value := [.int .i64 (h.gen : Int), .int .i64 (h.first : Int), .int .i64 (h.place : Int), .int .i64 (h.base : Int)]
/-- A number read from bytes at a place: the number; the place behind it; the error. -/
def rdN (b : List UInt8) (most : Nat) (s : Nat × Nat) : Nat × Nat × Nat :=
  if s.2 ≠ 0 then (0, s) else
  let g := grp 9 (b.drop s.1) 0 0
  if g.2.2 ≠ 0 then (0, s.1, g.2.2) else if most < g.1 then (0, s.1, 2) else (g.1, s.1 + g.2.1, 0)
def rd3 (b : List UInt8) (P st : Nat) : (Nat × Nat × Nat) × (Nat × Nat × Nat) × (Nat × Nat × Nat) :=
  let r1 := rdN b 1099511627775 (0, 0)
  let r2 := rdN b (P - 1) r1.2
  let r3 := rdN b st r2.2
  (r1, r2, r3)
/-- What a head's block says. -/
def rdHead (b : List UInt8) (P n : Nat) : Option Hd :=
  let d := decode b
  if d.2.2 ≠ 0 ∨ d.1.kind ≠ 1 ∨ d.1.number ≠ 0 ∨ d.1.stream % 2 ≠ (n : Int) then none else
  let r := rd3 d.1.payload P d.1.stream.toNat
  if r.2.2.2.2 = 0 ∧ ¬ r.2.2.2.1 < d.1.payload.length then some ⟨d.1.stream.toNat, r.1.1, r.2.1.1, r.2.2.1⟩ else none
def pad (l : List UInt8) : List UInt8 := l ++ List.replicate (512 - l.length) 0
def hdPay (h : Hd) : List UInt8 := natEnc h.first ++ natEnc h.place ++ natEnc h.base
def hdFr (h : Hd) : Fr := ⟨1, h.gen, 0, hdPay h⟩
def encHead (h : Hd) : List UInt8 := pad (encode (hdFr h))
def wrHead (V : Vis) (a : Nat) (h : Hd) : Vis := upd V ((a + h.gen % 2 : Nat) : Int) (encHead h)
/-- A head that can be written. -/
structure HdOk (P : Nat) (h : Hd) : Prop where
  gen : h.gen ≤ 2147483647
  first : h.first ≤ 1099511627775
  place : h.place < P
  base : h.base ≤ h.gen
theorem natEnc_le6 {n : Nat} (h : n ≤ 4398046511103) : (natEnc n).length ≤ 6 := natEnc_len 5 n (by omega)
theorem hdPay_len {P : Nat} {h : Hd} (hk : HdOk P h) (hP : P ≤ 8192) : (hdPay h).length ≤ 18 := by
  have h1 := natEnc_le6 (n := h.first) (by have := hk.first; omega)
  have h2 := natEnc_le6 (n := h.place) (by have := hk.place; omega)
  have h3 := natEnc_le6 (n := h.base) (by have := hk.gen; have := hk.base; omega)
  simp only [hdPay, List.length_append]
  omega
theorem hdFr_ok {P : Nat} {h : Hd} (hk : HdOk P h) (hP : P ≤ 8192) : check (hdFr h) = 0 := by
  have h1 := hdPay_len hk hP
  have h2 := hk.gen
  unfold check
  rw [if_neg (by simp [hdFr]), if_neg (by simp only [inside, hdFr]; omega), if_neg (by simp only [hdFr]; omega)]
theorem encHead_len {P : Nat} {h : Hd} (hk : HdOk P h) (hP : P ≤ 8192) : (encHead h).length = 512 ∧ (encode (hdFr h)).length ≤ 60 := by
  have h1 := hdPay_len hk hP
  have h2 : (encode (hdFr h)).length = 42 + (hdPay h).length := encode_len _
  refine ⟨?_, by omega⟩
  simp only [encHead, pad, List.length_append, List.length_replicate]
  omega
theorem rdN_enc (pre rest : List UInt8) (most n : Nat) (hn : n ≤ most) (hm : most ≤ 4398046511103) : rdN (pre ++ (natEnc n ++ rest)) most (pre.length, 0) = (n, pre.length + (natEnc n).length, 0) := by
  have hg := grp_natEnc 9 rest 5 n 0 0 (by omega) (by omega) (by omega)
  unfold rdN
  simp only [List.drop_left]
  rw [if_neg (by simp)]
  rw [hg]
  simp only [Nat.zero_add, Nat.mul_zero, Nat.pow_zero, Nat.mul_one]
  rw [if_neg (by simp), if_neg (by omega)]
theorem rdHead_enc {P : Nat} {h : Hd} (hk : HdOk P h) (hP : P ≤ 8192) : rdHead (encHead h) P (h.gen % 2) = some h := by
  have hd : decode (encHead h) = (hdFr h, 42 + (hdFr h).payload.length, 0) := decode_encode (hdFr_ok hk hP) _
  have hst : (hdFr h).stream.toNat = h.gen := by simp [hdFr]
  unfold rdHead
  simp only [hd, hst]
  rw [if_neg (by simp only [hdFr]; omega)]
  have e1 := rdN_enc [] (natEnc h.place ++ natEnc h.base) 1099511627775 h.first hk.first (by omega)
  have e2 := rdN_enc (natEnc h.first) (natEnc h.base) (P - 1) h.place (by have := hk.place; omega) (by omega)
  have e3 := rdN_enc (natEnc h.first ++ natEnc h.place) [] h.gen h.base hk.base (by have := hk.gen; omega)
  have hp : (hdFr h).payload = natEnc h.first ++ (natEnc h.place ++ natEnc h.base) := by simp [hdFr, hdPay]
  simp only [List.nil_append, List.length_nil, Nat.zero_add] at e1
  simp only [List.append_nil, List.append_assoc, List.length_append] at e3
  unfold rd3
  simp only [hp, e1, e2, e3]
  rw [if_pos (by simp; omega)]
end Go.Rg
/- Readers of encoded numbers, in plain Lean. Conditions: none of its own. -/
set_option linter.unusedVariables false
namespace Go.V
open Go Go.Rg
set_option maxRecDepth 10000 in
theorem and127 {k : Nat} (h : k < 256) : Go.bits .and .u8 (k : Int) 127 = ((k % 128 : Nat) : Int) := by
  have key : ∀ x : Fin 256, Go.bits .and .u8 ((x.val : Nat) : Int) 127 = ((x.val % 128 : Nat) : Int) := by decide
  exact key ⟨k, h⟩
theorem drop_cons {l : List UInt8} {i : Nat} (h : i < l.length) : l.drop i = l.getD i 0 :: l.drop (i + 1) := by
  rw [List.drop_eq_getElem_cons h, List.getD_eq_getElem?_getD, List.getElem?_eq_getElem h]
  rfl
theorem grp_nine {c : UInt8} {r : List UInt8} {u : Nat} : grp 9 (c :: r) 9 u = (0, 0, 3) := by simp [grp]
theorem grp_zero {c : UInt8} {r : List UInt8} {i u : Nat} (h : c.toNat = 0) (hi : 0 < i) (h9 : i < 9) : grp 9 (c :: r) i u = (0, 0, 3) := by
  simp only [grp]
  rw [if_neg (by omega), if_pos (by omega), if_pos ⟨h, hi⟩]
theorem grp_last {c : UInt8} {r : List UInt8} {i u : Nat} (h : c.toNat < 128) (hz : ¬ (c.toNat = 0 ∧ 0 < i)) (h9 : i < 9) : grp 9 (c :: r) i u = (u + c.toNat * 2 ^ (7 * i), i + 1, 0) := by
  simp only [grp]
  rw [if_neg (by omega), if_pos h, if_neg hz]
theorem grp_more {c : UInt8} {r : List UInt8} {i u : Nat} (h : ¬ c.toNat < 128) (h9 : i < 9) : grp 9 (c :: r) i u = grp 9 r (i + 1) (u + (c.toNat - 128) * 2 ^ (7 * i)) := by
  simp only [grp]
  rw [if_neg (by omega), if_neg h]
theorem grp_end_T {i u : Nat} (h : 9 ≤ i) : grp 9 [] i u = (0, 0, 3) := by simp [grp, h]
theorem grp_end_F {i u : Nat} (h : ¬ 9 ≤ i) : grp 9 [] i u = (0, 0, 28) := by simp [grp, h]
theorem shl64 {a p : Nat} (h : a * p ≤ 127 * p) (hp : p ≤ 2 ^ 56) : IntKind.u64.wrap ((a : Int) * (p : Int)) = ((a * p : Nat) : Int) := by
  rw [← Int.natCast_mul, u64w]
  omega
/-- What the closure of Number returns. -/
def numC (l : List UInt8) (most : Nat) : Nat × Nat × Nat := if (grp 9 l 0 0).2.2 = 0 ∧ most < (grp 9 l 0 0).1 then (0, 0, 2) else grp 9 l 0 0
theorem numC_big {l : List UInt8} {most : Nat} (he : (grp 9 l 0 0).2.2 = 0) (hg : most < (grp 9 l 0 0).1) : numC l most = (0, 0, 2) := if_pos ⟨he, hg⟩
theorem numC_ok {l : List UInt8} {most : Nat} (h : ¬ ((grp 9 l 0 0).2.2 = 0 ∧ most < (grp 9 l 0 0).1)) : numC l most = grp 9 l 0 0 := if_neg h
theorem numC_bound (l : List UInt8) (most : Nat) : (numC l most).1 < 9223372036854775808 := by
  have := grp_bound 9 l 0 0 (by omega) (by omega)
  unfold numC
  split
  · simp
  · omega
theorem numC_size (l : List UInt8) (most : Nat) : (numC l most).2.1 ≤ l.length := by
  have := grp_size 9 l 0 0
  unfold numC
  split
  · simp
  · omega
theorem rdN_failed {b : List UInt8} {most at_ f : Nat} (h : ¬ f = 0) : rdN b most (at_, f) = (0, at_, f) := by
  unfold rdN
  rw [if_pos h]
theorem rdN_zero (b : List UInt8) (most at_ : Nat) : rdN b most (at_, 0) = if (numC (b.drop at_) most).2.2 ≠ 0 then (0, at_, (numC (b.drop at_) most).2.2) else ((numC (b.drop at_) most).1, at_ + (numC (b.drop at_) most).2.1, 0) := by
  unfold rdN
  simp only []
  rw [if_neg (by simp)]
  by_cases he : (grp 9 (b.drop at_) 0 0).2.2 = 0
  · by_cases hg : most < (grp 9 (b.drop at_) 0 0).1
    · rw [numC_big he hg]; simp [he, hg]
    · rw [numC_ok (fun h => hg h.2)]; simp [he, hg]
  · rw [numC_ok (fun h => he h.1)]; simp [he]
theorem rdN_at {b : List UInt8} {most at_ f : Nat} (h : at_ ≤ b.length) : (rdN b most (at_, f)).2.1 ≤ b.length := by
  by_cases hf : f = 0
  · subst hf
    rw [rdN_zero]
    split
    · exact h
    · have := numC_size (b.drop at_) most
      simp only [List.length_drop] at this ⊢
      omega
  · rw [rdN_failed hf]; exact h
end Go.V
/- Rings, in plain Lean, continued: entries, the scan, the invariant of a ring. Conditions: none of its own. -/
set_option linter.unusedVariables false
namespace Go.Rg
open Go Go.V Go.Frm

/-- An entry: its text, its blocks, its stream. -/
abbrev Ent := List UInt8 × Nat × Nat
def entFr (n : Nat) (e : Ent) : Fr := ⟨2, (e.2.2 : Int), (n : Int), e.1⟩
def used : List Ent → Nat
  | [] => 0
  | e :: r => e.2.1 + used r
theorem used_append : ∀ (E F : List Ent), used (E ++ F) = used E + used F
  | [], F => by simp [used]
  | e :: r, F => by simp only [List.cons_append, used, used_append r F]; omega
theorem used_take_drop (E : List Ent) (i : Nat) : used (E.take i) + used (E.drop i) = used E := by
  rw [← used_append, List.take_append_drop]
theorem find_pos {V : Vis} {a P p most : Nat} (h : (find V a P p most).2.2 = true) : 1 ≤ (find V a P p most).2.1 ∧ 0 < most := by
  unfold find at h ⊢
  by_cases e : most = 0
  · rw [if_pos e] at h; cases h
  · rw [if_neg e]
    exact ⟨need_pos _, by omega⟩
def stops (V : Vis) (a P gen p free next st : Nat) : Prop :=
  (find V a P p free).2.2 = false ∨ free < (find V a P p free).2.1 ∨ (find V a P p free).1.number ≠ (next : Int) ∨ (find V a P p free).1.stream < (st : Int) ∨ (gen : Int) < (find V a P p free).1.stream
instance (V : Vis) (a P gen p free next st : Nat) : Decidable (stops V a P gen p free next st) := by unfold stops; infer_instance
def entAt (V : Vis) (a P p free : Nat) : Ent := ((find V a P p free).1.payload, (find V a P p free).2.1, (find V a P p free).1.stream.toNat)
/-- The entries from a place on. -/
def scan (V : Vis) (a P gen : Nat) (p free next st : Nat) : List Ent :=
  if h : stops V a P gen p free next st then [] else
    entAt V a P p free :: scan V a P gen ((p + (find V a P p free).2.1) % P) (free - (find V a P p free).2.1) (next + 1) (find V a P p free).1.stream.toNat
termination_by free
decreasing_by
  simp only [stops, not_or] at h
  have h1 : (find V a P p free).2.2 = true := by simpa using h.1
  have := find_pos h1
  omega
theorem scan_stops {V : Vis} {a P gen p free next st : Nat} (h : stops V a P gen p free next st) : scan V a P gen p free next st = [] := by rw [scan, dif_pos h]
theorem scan_goes {V : Vis} {a P gen p free next st : Nat} (h : ¬ stops V a P gen p free next st) :
    scan V a P gen p free next st = entAt V a P p free :: scan V a P gen ((p + (find V a P p free).2.1) % P) (free - (find V a P p free).2.1) (next + 1) (find V a P p free).1.stream.toNat := by rw [scan, dif_neg h]
theorem find_mod (V : Vis) (a P p most : Nat) : find V a P (p % P) most = find V a P p most := by
  unfold find
  rw [piece_mod, piece_mod]
/-- The cells of the spots of entries. -/
def spotCells (P : Nat) : Nat → List Ent → List Value
  | _, [] => []
  | p, e :: r => .int .i64 (p : Int) :: .int .i64 (e.2.1 : Int) :: .int .i64 (e.2.2 : Int) :: spotCells P ((p + e.2.1) % P) r
theorem spot_len (P : Nat) : ∀ (E : List Ent) (p : Nat), (spotCells P p E).length = E.length * 3
  | [], _ => rfl
  | e :: r, p => by simp only [spotCells, List.length_cons, spot_len P r]; omega
theorem spot_snoc (P : Nat) (e : Ent) : ∀ (E : List Ent) (p : Nat), p < P → spotCells P p (E ++ [e]) = spotCells P p E ++ [.int .i64 (((p + used E) % P : Nat) : Int), .int .i64 (e.2.1 : Int), .int .i64 (e.2.2 : Int)]
  | [], p, h => by simp [spotCells, used, Nat.mod_eq_of_lt h]
  | x :: r, p, h => by
    simp only [List.cons_append, spotCells, used]
    rw [spot_snoc P e r _ (Nat.mod_lt _ (by omega)), Nat.mod_add_mod, Nat.add_assoc]
theorem spot_drop (P : Nat) : ∀ (E : List Ent) (p i : Nat), p < P → i ≤ E.length → (spotCells P p E).drop (i * 3) = spotCells P ((p + used (E.take i)) % P) (E.drop i)
  | E, p, 0, h, _ => by simp [used, Nat.mod_eq_of_lt h]
  | [], p, i + 1, h, hi => by simp at hi
  | x :: r, p, i + 1, h, hi => by
    have := spot_drop P r ((p + x.2.1) % P) i (Nat.mod_lt _ (by omega)) (by simpa using hi)
    simp only [List.take_succ_cons, List.drop_succ_cons, used, spotCells]
    rw [show (i + 1) * 3 = i * 3 + 1 + 1 + 1 by omega, List.drop_succ_cons, List.drop_succ_cons, List.drop_succ_cons, this, Nat.mod_add_mod, Nat.add_assoc]
theorem spot_at (P : Nat) (E : List Ent) (p i : Nat) (h : p < P) (hi : i < E.length) : ((spotCells P p E).drop (i * 3)).take 3 = [.int .i64 (((p + used (E.take i)) % P : Nat) : Int), .int .i64 ((E[i]).2.1 : Int), .int .i64 ((E[i]).2.2 : Int)] := by
  rw [spot_drop P E p i h (by omega), List.drop_eq_getElem_cons hi]
  simp [spotCells]

/-! ### What a block's beginning says -/
theorem stN_app {b r : List UInt8} (h : 26 ≤ b.length) : stN (b ++ r) = stN b := by
  unfold stN
  rw [List.drop_append_of_le_length (by omega), List.take_append_of_le_length (by simp; omega)]
theorem nbN_app {b r : List UInt8} (h : 26 ≤ b.length) : nbN (b ++ r) = nbN b := by
  unfold nbN
  rw [List.drop_append_of_le_length (by omega), List.take_append_of_le_length (by simp; omega)]
theorem getD_app {b r : List UInt8} {i : Nat} (h : i < b.length) : (b ++ r).getD i 0 = b.getD i 0 := by
  simp [List.getD_eq_getElem?_getD, List.getElem?_append_left h]
theorem piece_one (V : Vis) (a P p : Nat) : piece V a P p 1 = V (bk a P p) := by simp [piece]
theorem piece_head {V : Vis} (a P p : Nat) {n : Nat} (h : 1 ≤ n) : ∃ r, piece V a P p n = V (bk a P p) ++ r := by
  obtain ⟨r, hr⟩ := piece_pre V a P p 1 n h
  exact ⟨r, by rw [hr, piece_one]⟩
/-- A frame that is found says what its first block says. -/
theorem find_hdr {V : Vis} (hV : Full V) {a P p most : Nat} (h : (find V a P p most).2.2 = true) :
    (V (bk a P p)).getD 0 0 = 245 ∧ ((V (bk a P p)).getD 1 0).toNat = 2 ∧ (find V a P p most).1.stream = (stN (V (bk a P p)) : Int) ∧ (find V a P p most).1.number = (nbN (V (bk a P p)) : Int) ∧ stN (V (bk a P p)) ≤ 2147483647 ∧ nbN (V (bk a P p)) ≤ 1099511627775 := by
  have h0 := (find_pos h).2
  have hl := hV (bk a P p)
  have key : ∀ s r, s = V (bk a P p) ++ r → (decode s).2.2 = 0 → (decode s).1.kind = 2 →
      (V (bk a P p)).getD 0 0 = 245 ∧ ((V (bk a P p)).getD 1 0).toNat = 2 ∧ (decode s).1.stream = (stN (V (bk a P p)) : Int) ∧ (decode s).1.number = (nbN (V (bk a P p)) : Int) ∧ stN (V (bk a P p)) ≤ 2147483647 ∧ nbN (V (bk a P p)) ≤ 1099511627775 := by
    intro s r hs h1 h2
    obtain ⟨k1, _, _, k4, _, _, _, k8⟩ := dec_ok h1
    rw [k8] at h2 ⊢
    simp only at h2 ⊢
    rw [hs] at k1 k4 h2 ⊢
    rw [getD_app (by omega)] at k1 h2
    rw [stN_app (by omega), nbN_app (by omega)] at k4 ⊢
    exact ⟨k1, by omega, rfl, rfl, by omega, by omega⟩
  unfold find at h ⊢
  rw [if_neg (by omega)] at h ⊢
  simp only [Bool.and_eq_true, decide_eq_true_eq] at h ⊢
  obtain ⟨r, hr⟩ := piece_head (V := V) a P p (n := most) h0
  by_cases e : (decode (piece V a P p 1)).2.2 = 28
  · rw [if_pos e] at h ⊢
    exact key _ r hr h.1 h.2
  · rw [if_neg e] at h ⊢
    exact key _ [] (by rw [piece_one]; simp) h.1 h.2
/-- An entry that is stored is found. -/
theorem find_stored {V : Vis} (hV : Full V) {a P p most n : Nat} {e : Ent} {m : List UInt8} (hc : check (entFr n e) = 0) (hn : e.2.1 = need (42 + e.1.length)) (hp : piece V a P p e.2.1 = encode (entFr n e) ++ m) (hm : e.2.1 ≤ most) :
    find V a P p most = (entFr n e, e.2.1, true) := by
  have hpos : 1 ≤ e.2.1 := by rw [hn]; exact need_pos _
  have hel : (encode (entFr n e)).length = 42 + e.1.length := encode_len _
  obtain ⟨r, hr⟩ := piece_pre V a P p e.2.1 most hm
  have hM : decode (piece V a P p most) = (entFr n e, 42 + e.1.length, 0) := by
    rw [hr, hp, List.append_assoc]
    exact decode_encode hc _
  obtain ⟨q, hq⟩ := piece_pre V a P p 1 e.2.1 hpos
  have h1l : (piece V a P p 1).length = 512 := by rw [piece_len hV]
  have h1 : piece V a P p 1 = (encode (entFr n e) ++ m).take 512 := by
    rw [← hp, hq, ← h1l, List.take_left]
  have hk : (entFr n e).kind = 2 := rfl
  unfold find
  rw [if_neg (by omega)]
  by_cases hs : 42 + e.1.length ≤ 512
  · have : decode (piece V a P p 1) = (entFr n e, 42 + e.1.length, 0) := by
      rw [h1, List.take_append, List.take_of_length_le (by omega)]
      exact decode_encode hc _
    simp [this, hk, hn]
  · have : decode (piece V a P p 1) = (Fr.zero, 0, 28) := by
      rw [h1, List.take_append_of_le_length (by omega)]
      exact decode_cut hc 512 (by omega)
    simp [this, hM, hk, hn]

/-! ### Entries that are stored -/
def Stored (V : Vis) (a P : Nat) : Nat → Nat → List Ent → Prop
  | _, _, [] => True
  | p, n, e :: r => check (entFr n e) = 0 ∧ e.2.1 = need (42 + e.1.length) ∧ (∃ m, piece V a P p e.2.1 = encode (entFr n e) ++ m) ∧ Stored V a P (p + e.2.1) (n + 1) r
def Chain : Nat → List Ent → Prop
  | _, [] => True
  | st, e :: r => st ≤ e.2.2 ∧ Chain e.2.2 r
def lastS : Nat → List Ent → Nat
  | st, [] => st
  | _, e :: r => lastS e.2.2 r
theorem Chain.last : ∀ {E : List Ent} {st : Nat}, Chain st E → st ≤ lastS st E
  | [], _, _ => Nat.le_refl _
  | e :: r, st, h => Nat.le_trans h.1 (Chain.last h.2)
theorem Chain.low : ∀ {E : List Ent} {st st' : Nat}, Chain st E → st' ≤ st → Chain st' E
  | [], _, _, _, _ => trivial
  | e :: r, st, st', h, hs => ⟨Nat.le_trans hs h.1, h.2⟩
theorem Chain.snoc : ∀ {E : List Ent} {st : Nat} {e : Ent}, Chain st E → lastS st E ≤ e.2.2 → Chain st (E ++ [e])
  | [], st, e, _, h => ⟨h, trivial⟩
  | x :: r, st, e, h, hl => ⟨h.1, Chain.snoc h.2 hl⟩
theorem Chain.lastle : ∀ {E : List Ent} {st gen : Nat}, st ≤ gen → (∀ e ∈ E, e.2.2 ≤ gen) → lastS st E ≤ gen
  | [], _, _, h, _ => h
  | e :: r, st, gen, _, h => Chain.lastle (st := e.2.2) (h e (by simp)) fun x hx => h x (by simp [hx])
theorem Chain.drop : ∀ {E : List Ent} {st : Nat} (i : Nat) (hi : i < E.length), Chain st E → Chain (E[i]).2.2 (E.drop (i + 1)) ∧ st ≤ (E[i]).2.2
  | e :: r, st, 0, _, h => ⟨h.2, h.1⟩
  | e :: r, st, i + 1, hi, h => by
    have := Chain.drop (st := e.2.2) i (by simpa using hi) h.2
    exact ⟨this.1, Nat.le_trans h.1 this.2⟩
theorem Stored.drop {V : Vis} {a P : Nat} : ∀ {E : List Ent} {p n : Nat} (i : Nat), i ≤ E.length → Stored V a P p n E → Stored V a P (p + used (E.take i)) (n + i) (E.drop i)
  | E, p, n, 0, _, h => by simpa [used] using h
  | [], p, n, i + 1, hi, h => by simp at hi
  | e :: r, p, n, i + 1, hi, h => by
    have := Stored.drop i (by simpa using hi) h.2.2.2
    simp only [List.take_succ_cons, List.drop_succ_cons, used]
    rw [← Nat.add_assoc, show n + (i + 1) = n + 1 + i by omega]
    exact this
theorem Stored.snoc {V : Vis} {a P : Nat} {e : Ent} : ∀ {E : List Ent} {p n : Nat}, Stored V a P p n E → check (entFr (n + E.length) e) = 0 → e.2.1 = need (42 + e.1.length) → (∃ m, piece V a P (p + used E) e.2.1 = encode (entFr (n + E.length) e) ++ m) → Stored V a P p n (E ++ [e])
  | [], p, n, _, h1, h2, h3 => ⟨by simpa using h1, h2, by simpa [used] using h3, trivial⟩
  | x :: r, p, n, h, h1, h2, h3 => ⟨h.1, h.2.1, h.2.2.1, Stored.snoc h.2.2.2 (by rw [show n + 1 + r.length = n + (x :: r).length by simp; omega]; exact h1) h2 (by rw [show n + 1 + r.length = n + (x :: r).length by simp; omega, Nat.add_assoc]; exact h3)⟩
theorem Stored.congr {V V' : Vis} {a P : Nat} : ∀ {E : List Ent} {p n : Nat}, (∀ j, j < used E → V (bk a P (p + j)) = V' (bk a P (p + j))) → Stored V a P p n E → Stored V' a P p n E
  | [], _, _, _, _ => trivial
  | e :: r, p, n, h, hs => by
    refine ⟨hs.1, hs.2.1, ?_, Stored.congr (fun j hj => ?_) hs.2.2.2⟩
    · obtain ⟨m, hm⟩ := hs.2.2.1
      exact ⟨m, by rw [← hm]; exact (piece_congr fun j hj => h j (by simp only [used]; omega)).symm⟩
    · have := h (e.2.1 + j) (by simp only [used]; omega)
      rw [← Nat.add_assoc] at this
      exact this
theorem scan_stored {V : Vis} (hV : Full V) {a P gen : Nat} : ∀ {E : List Ent} {p n st free : Nat}, Stored V a P p n E → used E ≤ free → Chain st E → (∀ e ∈ E, e.2.2 ≤ gen) →
    scan V a P gen (p % P) free n st = E ++ scan V a P gen ((p + used E) % P) (free - used E) (n + E.length) (lastS st E)
  | [], p, n, st, free, _, _, _, _ => by simp [used, lastS]
  | e :: r, p, n, st, free, hs, hu, hc, hg => by
    obtain ⟨m, hm⟩ := hs.2.2.1
    simp only [used] at hu
    have hf : find V a P (p % P) free = (entFr n e, e.2.1, true) := by
      rw [find_mod]
      exact find_stored hV hs.1 hs.2.1 hm (by omega)
    have hgo : ¬ stops V a P gen (p % P) free n st := by
      have h1 := hc.1
      have h2 := hg e (by simp)
      intro hh
      simp only [stops, hf, entFr] at hh
      rcases hh with hh | hh | hh | hh | hh
      · cases hh
      all_goals omega
    rw [scan_goes hgo]
    simp only [entAt, hf, List.cons_append]
    have ih := scan_stored hV (gen := gen) (free := free - e.2.1) hs.2.2.2 (by omega) hc.2 fun x hx => hg x (by simp [hx])
    rw [Nat.mod_add_mod]
    simp only [entFr, Int.toNat_natCast]
    rw [ih]
    simp only [used, lastS, List.length_cons]
    rw [Nat.add_assoc, Nat.sub_sub, show n + 1 + r.length = n + (r.length + 1) by omega]
/-- What stood there before: nothing that could be the next entry. -/
def Old (b : List UInt8) (gen base next : Nat) : Prop := b.getD 0 0 = 245 → (b.getD 1 0).toNat = 2 → stN b ≤ gen ∧ (stN b < base ∨ nbN b < next)
theorem scan_stop {V : Vis} (hV : Full V) {a P gen base p free next st : Nat} (ho : Old (V (bk a P p)) gen base next) (hb : base ≤ st) : scan V a P gen p free next st = [] := by
  refine scan_stops ?_
  cases hf : (find V a P p free).2.2 with
  | false => exact .inl hf
  | true =>
    obtain ⟨k1, k2, k3, k4, _⟩ := find_hdr hV hf
    have := ho k1 k2
    unfold stops
    rw [k3, k4]
    omega
end Go.Rg
/- Rings, in plain Lean, continued: what the operations do, and that they keep the invariant. Conditions: none of its own. -/
set_option linter.unusedVariables false
namespace Go.Rg
open Go Go.V Go.Frm

structure Rs where
  hd : Hd
  ents : List Ent
def Rs.next (S : Rs) : Nat := S.hd.first + S.ents.length
structure Inv (V : Vis) (a P : Nat) (S : Rs) : Prop where
  ok : HdOk P S.hd
  head : rdHead (V ((a + S.hd.gen % 2 : Nat) : Int)) P (S.hd.gen % 2) = some S.hd
  other : ∀ h, rdHead (V ((a + (S.hd.gen + 1) % 2 : Nat) : Int)) P ((S.hd.gen + 1) % 2) = some h → h.gen < S.hd.gen
  room : used S.ents ≤ P
  chain : Chain S.hd.base S.ents
  top : ∀ e ∈ S.ents, e.2.2 ≤ S.hd.gen
  stored : Stored V a P S.hd.place S.hd.first S.ents
  old : ∀ p, p < P → Old (V (bk a P p)) S.hd.gen S.hd.base S.next
/-- The head that counts. -/
def curHead (V : Vis) (a P : Nat) : Option Hd :=
  match rdHead (V (a : Int)) P 0, rdHead (V ((a + 1 : Nat) : Int)) P 1 with
  | none, y => y
  | some x, none => some x
  | some x, some y => if x.gen < y.gen then some y else some x
theorem curHead_inv {V : Vis} {a P : Nat} {S : Rs} (h : Inv V a P S) : curHead V a P = some S.hd := by
  have h1 := h.head
  have h2 := h.other
  unfold curHead
  rcases Nat.mod_two_eq_zero_or_one S.hd.gen with e | e
  · have e2 : (S.hd.gen + 1) % 2 = 1 := by omega
    rw [e] at h1
    rw [e2] at h2
    simp only [Nat.add_zero] at h1
    rw [h1]
    cases hy : rdHead (V ((a + 1 : Nat) : Int)) P 1 with
    | none => rfl
    | some y => simp only []; rw [if_neg (by have := h2 y hy; omega)]
  · have e2 : (S.hd.gen + 1) % 2 = 0 := by omega
    rw [e] at h1
    rw [e2] at h2
    simp only [Nat.add_zero] at h2
    rw [h1]
    cases hy : rdHead (V (a : Int)) P 0 with
    | none => rfl
    | some y => simp only []; rw [if_pos (by have := h2 y hy; omega)]
theorem scan_inv {V : Vis} (hV : Full V) {a P : Nat} {S : Rs} (h : Inv V a P S) : scan V a P S.hd.gen S.hd.place P S.hd.first S.hd.base = S.ents := by
  have h1 := scan_stored hV (gen := S.hd.gen) (st := S.hd.base) (free := P) h.stored h.room h.chain h.top
  rw [Nat.mod_eq_of_lt h.ok.place] at h1
  rw [h1]
  have hP : 0 < P := by have := h.ok.place; omega
  have h2 := h.old ((S.hd.place + used S.ents) % P) (Nat.mod_lt _ hP)
  rw [scan_stop hV (next := S.hd.first + S.ents.length) h2 h.chain.last, List.append_nil]
theorem upd_same (V : Vis) (k : Int) (b : List UInt8) : upd V k b k = b := by simp [upd]
theorem upd_other (V : Vis) {k j : Int} (b : List UInt8) (h : j ≠ k) : upd V k b j = V j := by simp [upd, h]
theorem bk_ne {a P p q : Nat} (hP : 0 < P) (h : p % P ≠ q % P) : bk a P p ≠ bk a P q := by unfold bk; omega
theorem bk_in {a P p : Nat} (hP : 0 < P) : (a : Int) + 2 ≤ bk a P p ∧ bk a P p < a + 2 + P := by
  have := Nat.mod_lt p hP
  unfold bk
  omega
theorem mod_ne {P i j : Nat} (p : Nat) (hi : i < P) (hj : j < P) (h : i ≠ j) : (p + i) % P ≠ (p + j) % P := by
  intro e
  apply h
  have h1 := Nat.mod_add_div (p + i) P
  have h2 := Nat.mod_add_div (p + j) P
  rw [e] at h1
  rcases Nat.lt_trichotomy ((p + i) / P) ((p + j) / P) with h3 | h3 | h3
  · have : P * ((p + i) / P) + P ≤ P * ((p + j) / P) := by
      rw [← Nat.mul_succ]; exact Nat.mul_le_mul_left _ h3
    omega
  · rw [h3] at h1; omega
  · have : P * ((p + j) / P) + P ≤ P * ((p + i) / P) := by
      rw [← Nat.mul_succ]; exact Nat.mul_le_mul_left _ h3
    omega
theorem zb_len : zb.length = 512 := List.length_replicate
theorem upd_full {V : Vis} (hV : Full V) {k : Int} {b : List UInt8} (hb : b.length = 512) : Full (upd V k b) := fun j => by
  simp only [upd]
  split
  · exact hb
  · exact hV j
theorem wrHead_full {V : Vis} (hV : Full V) {a P : Nat} {h : Hd} (hk : HdOk P h) (hP : P ≤ 8192) : Full (wrHead V a h) := upd_full hV (encHead_len hk hP).1
theorem wrHead_bk {V : Vis} {a P p : Nat} {h : Hd} (hP : 0 < P) : wrHead V a h (bk a P p) = V (bk a P p) := by
  have := bk_in (a := a) (p := p) hP
  exact upd_other _ _ (by omega)
/-- A new head upon the old one. -/
theorem head_next {V : Vis} {a P : Nat} {S : Rs} {h' : Hd} (h : Inv V a P S) (hk : HdOk P h') (hP : P ≤ 8192) (hg : h'.gen = S.hd.gen + 1) :
    rdHead (wrHead V a h' ((a + h'.gen % 2 : Nat) : Int)) P (h'.gen % 2) = some h' ∧ ∀ x, rdHead (wrHead V a h' ((a + (h'.gen + 1) % 2 : Nat) : Int)) P ((h'.gen + 1) % 2) = some x → x.gen < h'.gen := by
  refine ⟨by rw [wrHead, upd_same]; exact rdHead_enc hk hP, fun x hx => ?_⟩
  rw [wrHead, upd_other _ _ (by omega)] at hx
  have e : (h'.gen + 1) % 2 = S.hd.gen % 2 := by omega
  rw [e, h.head] at hx
  cases hx
  omega
theorem Old.mono {b : List UInt8} {g g' c c' n n' : Nat} (h : Old b g c n) (hg : g ≤ g') (hc : c ≤ c') (hn : n ≤ n') : Old b g' c' n' := fun h1 h2 => by
  have := h h1 h2
  omega
theorem old_zero (b : List UInt8) (g c n : Nat) (h : b.getD 0 0 = 0) : Old b g c n := fun h1 => by
  rw [h] at h1
  cases h1
theorem zb_old (g c n : Nat) : Old zb g c n := old_zero _ _ _ _ (by unfold zb; rw [List.getD_eq_getElem?_getD, List.getElem?_replicate]; rfl)
/-- What Open writes. -/
def openV (V : Vis) (a P : Nat) (S : Rs) : Vis := wrHead (if used S.ents < P then upd V (bk a P (S.hd.place + used S.ents)) zb else V) a { S.hd with gen := S.hd.gen + 1 }
def openS (S : Rs) : Rs := ⟨{ S.hd with gen := S.hd.gen + 1 }, S.ents⟩
theorem Inv.free {V : Vis} {a P : Nat} {S : Rs} (h : Inv V a P S) {b : List UInt8} (hb : ∀ g c n, Old b g c n) {j : Nat} (hj : used S.ents ≤ j) (hjP : j < P) : Inv (upd V (bk a P (S.hd.place + j)) b) a P S := by
  have hP : 0 < P := by omega
  have hin := bk_in (a := a) (p := S.hd.place + j) hP
  refine ⟨h.ok, ?_, ?_, h.room, h.chain, h.top, ?_, ?_⟩
  · rw [upd_other _ _ (by omega)]; exact h.head
  · rw [upd_other _ _ (by omega)]; exact h.other
  · refine h.stored.congr fun i hi => (upd_other _ _ ?_).symm
    exact bk_ne hP (mod_ne _ (by omega) hjP (by omega))
  · intro p hp
    by_cases e : bk a P p = bk a P (S.hd.place + j)
    · rw [e, upd_same]; exact hb _ _ _
    · rw [upd_other _ _ e]; exact h.old p hp
theorem Inv.open_ {V : Vis} {a P : Nat} {S : Rs} (h : Inv V a P S) (hP : P ≤ 8192) (hg : S.hd.gen < 2147483647) : Inv (openV V a P S) a P (openS S) := by
  have hP0 : 0 < P := by have := h.ok.place; omega
  have h1 : Inv (if used S.ents < P then upd V (bk a P (S.hd.place + used S.ents)) zb else V) a P S := by
    split
    · exact h.free zb_old (Nat.le_refl _) (by assumption)
    · exact h
  have hk : HdOk P { S.hd with gen := S.hd.gen + 1 } := ⟨by simp only []; omega, h.ok.first, h.ok.place, by have := h.ok.base; simp only []; omega⟩
  obtain ⟨g1, g2⟩ := head_next h1 hk hP rfl
  exact ⟨hk, g1, g2, h.room, h.chain, fun e he => Nat.le_succ_of_le (h.top e he), h1.stored.congr fun j _ => (wrHead_bk hP0).symm,
    fun p hp => by rw [openV, wrHead_bk hP0]; exact (h1.old p hp).mono (Nat.le_succ _) (Nat.le_refl _) (Nat.le_refl _)⟩
theorem openV_full {V : Vis} (hV : Full V) {a P : Nat} {S : Rs} (hk : HdOk P { S.hd with gen := S.hd.gen + 1 }) (hP : P ≤ 8192) : Full (openV V a P S) := by
  refine wrHead_full ?_ hk hP
  split
  · exact upd_full hV zb_len
  · exact hV
/-! ### Format -/
def hdGen (V : Vis) (a P i : Nat) : Nat := match rdHead (V ((a + i : Nat) : Int)) P i with
  | some h => h.gen + 1
  | none => 0
def fmtG (V : Vis) (a P : Nat) : Nat → Nat
  | 0 => max (hdGen V a P 0) (hdGen V a P 1)
  | p + 1 => if (find V a P p P).2.2 = true then max (fmtG V a P p) ((find V a P p P).1.stream.toNat + 1) else fmtG V a P p
def fmtGen (V : Vis) (a P : Nat) : Nat := fmtG V a P P
theorem fmtG_mono (V : Vis) (a P : Nat) : ∀ p, max (hdGen V a P 0) (hdGen V a P 1) ≤ fmtG V a P p
  | 0 => Nat.le_refl _
  | p + 1 => by
    have := fmtG_mono V a P p
    simp only [fmtG]
    split <;> omega
theorem fmtG_le {V : Vis} (hV : Full V) {a P G : Nat} (h0 : max (hdGen V a P 0) (hdGen V a P 1) ≤ G) (h : ∀ p, (V (bk a P p)).getD 0 0 = 245 → ((V (bk a P p)).getD 1 0).toNat = 2 → stN (V (bk a P p)) < G) : ∀ p, fmtG V a P p ≤ G
  | 0 => h0
  | p + 1 => by
    have ih := fmtG_le hV h0 h p
    simp only [fmtG]
    split
    · rename_i hf
      obtain ⟨k1, k2, k3, _⟩ := find_hdr hV hf
      have := h p k1 k2
      rw [k3]
      omega
    · exact ih
def fmtHd (V : Vis) (a P : Nat) : Hd := ⟨fmtGen V a P, 0, 0, fmtGen V a P⟩
theorem inv_format {V : Vis} {a P : Nat} (hP : 0 < P) (hP2 : P ≤ 8192) (hg : fmtGen V a P ≤ 2147483647) (h : ∀ p, p < P → (V (bk a P p)).getD 0 0 = 245 → ((V (bk a P p)).getD 1 0).toNat = 2 → stN (V (bk a P p)) < fmtGen V a P) :
    Inv (wrHead V a (fmtHd V a P)) a P ⟨fmtHd V a P, []⟩ := by
  have hk : HdOk P (fmtHd V a P) := ⟨hg, by simp [fmtHd], by simp [fmtHd]; omega, by simp [fmtHd]⟩
  refine ⟨hk, by rw [wrHead, upd_same]; exact rdHead_enc hk hP2, fun x hx => ?_, by simp [used], trivial, by simp, trivial, fun p hp => ?_⟩
  · simp only [] at hx
    rw [wrHead, upd_other _ _ (by omega)] at hx
    have hm := fmtG_mono V a P P
    change max (hdGen V a P 0) (hdGen V a P 1) ≤ fmtGen V a P at hm
    have h3 : x.gen + 1 ≤ max (hdGen V a P 0) (hdGen V a P 1) := by
      have : (fmtHd V a P).gen = fmtGen V a P := rfl
      rcases Nat.mod_two_eq_zero_or_one ((fmtHd V a P).gen + 1) with e | e
      · rw [e] at hx
        have : hdGen V a P 0 = x.gen + 1 := by unfold hdGen; rw [hx]
        omega
      · rw [e] at hx
        have : hdGen V a P 1 = x.gen + 1 := by unfold hdGen; rw [hx]
        omega
    have : (fmtHd V a P).gen = fmtGen V a P := rfl
    simp only []
    omega
  · rw [wrHead_bk hP]
    intro h1 h2
    have := h p hp h1 h2
    simp only [fmtHd]
    omega
/-- Format over a ring. -/
theorem fmt_over {V : Vis} (hV : Full V) {a P : Nat} {S : Rs} (h : Inv V a P S) : fmtGen V a P = S.hd.gen + 1 := by
  have hP0 : 0 < P := by have := h.ok.place; omega
  have h1 : hdGen V a P (S.hd.gen % 2) = S.hd.gen + 1 := by unfold hdGen; rw [h.head]
  have h2 : hdGen V a P ((S.hd.gen + 1) % 2) ≤ S.hd.gen := by
    unfold hdGen
    cases hy : rdHead (V ((a + (S.hd.gen + 1) % 2 : Nat) : Int)) P ((S.hd.gen + 1) % 2) with
    | none => simp
    | some y => have := h.other y hy; simp only []; omega
  have h3 : max (hdGen V a P 0) (hdGen V a P 1) = S.hd.gen + 1 := by
    rcases Nat.mod_two_eq_zero_or_one S.hd.gen with e | e
    · have e2 : (S.hd.gen + 1) % 2 = 1 := by omega
      rw [e] at h1; rw [e2] at h2; omega
    · have e2 : (S.hd.gen + 1) % 2 = 0 := by omega
      rw [e] at h1; rw [e2] at h2; omega
  have h4 := fmtG_mono V a P P
  have h5 := fmtG_le (a := a) (P := P) hV (G := S.hd.gen + 1) (by omega) (fun p k1 k2 => by
    have h6 := h.old (p % P) (Nat.mod_lt _ hP0)
    have e : bk a P (p % P) = bk a P p := by simp [bk]
    rw [e] at h6
    have := h6 k1 k2
    omega) P
  unfold fmtGen
  omega
/-- Format over blocks that contain no ring. -/
theorem fmt_blank {V : Vis} (hV : Full V) {a P : Nat} (h0 : rdHead (V (a : Int)) P 0 = none) (h1 : rdHead (V ((a + 1 : Nat) : Int)) P 1 = none) (h : ∀ p, (V (bk a P p)).getD 0 0 = 245 → ((V (bk a P p)).getD 1 0).toNat ≠ 2) : fmtGen V a P = 0 := by
  have e0 : hdGen V a P 0 = 0 := by unfold hdGen; rw [Nat.add_zero, h0]
  have e1 : hdGen V a P 1 = 0 := by unfold hdGen; rw [h1]
  have := fmtG_le hV (G := 0) (by omega) (fun p k1 k2 => absurd k2 (h p k1)) P
  unfold fmtGen
  omega
theorem inv_over {V : Vis} (hV : Full V) {a P : Nat} {S : Rs} (h : Inv V a P S) (hP2 : P ≤ 8192) (hg : S.hd.gen < 2147483647) : Inv (wrHead V a (fmtHd V a P)) a P ⟨fmtHd V a P, []⟩ := by
  have hP0 : 0 < P := by have := h.ok.place; omega
  have e := fmt_over hV h
  refine inv_format hP0 hP2 (by omega) fun p hp k1 k2 => ?_
  have := h.old p hp k1 k2
  omega

/-! ### Append -/
def padTo (n : Nat) (l : List UInt8) : List UInt8 := l ++ List.replicate (n - l.length) 0
/-- What is written into the block i of a text. -/
def chunk (s : List UInt8) (i : Nat) : List UInt8 := if i = 0 then padTo 512 (s.take 512) else 0 :: padTo 511 ((s.drop (512 + 511 * (i - 1))).take 511)
theorem chunk_len (s : List UInt8) (i : Nat) : (chunk s i).length = 512 := by
  unfold chunk
  split
  · simp only [padTo, List.length_append, List.length_replicate, List.length_take]; omega
  · simp only [padTo, List.length_cons, List.length_append, List.length_replicate, List.length_take]; omega
def wrEnt (V : Vis) (a P p : Nat) (s : List UInt8) : Nat → Vis
  | 0 => V
  | i + 1 => upd (wrEnt V a P p s i) (bk a P (p + i)) (chunk s i)
theorem wrEnt_full {V : Vis} (hV : Full V) (a P p : Nat) (s : List UInt8) : ∀ n, Full (wrEnt V a P p s n)
  | 0 => hV
  | n + 1 => upd_full (wrEnt_full hV a P p s n) (chunk_len s n)
theorem wrEnt_at {V : Vis} {a P p : Nat} {s : List UInt8} : ∀ {n i : Nat}, i < n → n ≤ P → wrEnt V a P p s n (bk a P (p + i)) = chunk s i
  | n + 1, i, h, hn => by
    by_cases e : i = n
    · subst e; simp [wrEnt, upd_same]
    · rw [wrEnt, upd_other _ _ (bk_ne (by omega) (mod_ne p (by omega) (by omega) e))]
      exact wrEnt_at (by omega) (by omega)
theorem wrEnt_off {V : Vis} {a P p : Nat} {s : List UInt8} {k : Int} : ∀ {n : Nat}, (∀ i, i < n → k ≠ bk a P (p + i)) → wrEnt V a P p s n k = V k
  | 0, _ => rfl
  | n + 1, h => by
    rw [wrEnt, upd_other _ _ (h n (by omega))]
    exact wrEnt_off fun i hi => h i (by omega)
theorem padTo_join (s : List UInt8) (L M : Nat) : padTo L (s.take L) ++ padTo M ((s.drop L).take M) = padTo (L + M) (s.take (L + M)) := by
  unfold padTo
  by_cases h : s.length ≤ L
  · rw [List.drop_of_length_le h, List.take_of_length_le h, List.take_of_length_le (l := s) (by omega)]
    simp only [List.take_nil, List.length_nil, Nat.sub_zero, List.nil_append, List.append_assoc, List.replicate_append_replicate]
    congr 2
    omega
  · have h1 : (s.take L).length = L := by simp; omega
    rw [h1, Nat.sub_self, List.replicate_zero, List.append_nil, ← List.append_assoc, List.take_add]
    congr 2
    simp only [List.length_append, List.length_take, List.length_drop]
    omega
theorem piece_chunks {V : Vis} {a P p : Nat} {s : List UInt8} : ∀ {n : Nat}, (∀ i, i < n + 1 → V (bk a P (p + i)) = chunk s i) → piece V a P p (n + 1) = padTo (512 + 511 * n) (s.take (512 + 511 * n))
  | 0, h => by
    rw [piece_one, show bk a P p = bk a P (p + 0) by rfl, h 0 (by omega)]
    simp [chunk]
  | n + 1, h => by
    rw [piece, piece_chunks fun i hi => h i (by omega), h (n + 1) (by omega), if_neg (by omega)]
    simp only [chunk, Nat.add_one_ne_zero, if_false, List.drop_succ_cons, List.drop_zero, Nat.add_sub_cancel]
    rw [padTo_join, show 512 + 511 * n + 511 = 512 + 511 * (n + 1) by omega]
theorem piece_wrEnt {V : Vis} {a P p : Nat} {s : List UInt8} (hn : need s.length ≤ P) : ∃ m, piece (wrEnt V a P p s (need s.length)) a P p (need s.length) = s ++ m := by
  obtain ⟨n, hn1⟩ : ∃ n, need s.length = n + 1 := ⟨need s.length - 1, by have := need_pos s.length; omega⟩
  have hl : s.length ≤ 512 + 511 * n := by unfold need at hn1; omega
  have := piece_chunks (V := wrEnt V a P p s (need s.length)) (a := a) (P := P) (p := p) (s := s) (n := n) fun i hi => wrEnt_at (by omega) hn
  rw [hn1] at this ⊢
  rw [this]
  exact ⟨List.replicate (512 + 511 * n - s.length) 0, by unfold padTo; rw [List.take_of_length_le hl]⟩
def newEnt (S : Rs) (t : List UInt8) : Ent := (t, need (42 + t.length), S.hd.gen)
def entText (S : Rs) (t : List UInt8) : List UInt8 := encode (entFr S.next (newEnt S t))
def appV (V : Vis) (a P : Nat) (S : Rs) (t : List UInt8) : Vis := wrEnt V a P (S.hd.place + used S.ents) (entText S t) (need (42 + t.length))
def appS (S : Rs) (t : List UInt8) : Rs := ⟨S.hd, S.ents ++ [newEnt S t]⟩
theorem entFr_ok {n : Nat} {e : Ent} (h1 : e.2.2 ≤ 2147483647) (h2 : n ≤ 1099511627775) (h3 : e.1.length ≤ 262144) : check (entFr n e) = 0 := by
  unfold check
  rw [if_neg (by simp [entFr]), if_neg (by simp only [inside, entFr]; omega), if_neg (by simp only [entFr]; omega)]
theorem entText_len (S : Rs) (t : List UInt8) : (entText S t).length = 42 + t.length := encode_len _
theorem enc_hdr {f : Fr} (h : check f = 0) (r : List UInt8) : stN (encode f ++ r) = f.stream.toNat ∧ nbN (encode f ++ r) = f.number.toNat ∧ (((encode f ++ r).getD 1 0).toNat : Int) = f.kind := by
  have h1 := nums_of (f := f) (r := (first (header f) ++ (f.payload ++ second (header f) f.payload)) ++ r) h
  rw [← List.append_assoc] at h1
  exact ⟨h1.1, h1.2.1, h1.2.2.2.2⟩
theorem Inv.append {V : Vis} (hV : Full V) {a P : Nat} {S : Rs} {t : List UInt8} (h : Inv V a P S) (hP : P ≤ 8192) (ht : t.length ≤ 262144) (hn : S.next ≤ 1099511627775) (hu : used S.ents + need (42 + t.length) ≤ P) : Inv (appV V a P S t) a P (appS S t) := by
  have hP0 : 0 < P := by have := h.ok.place; omega
  have hel := entText_len S t
  have hchk : check (entFr S.next (newEnt S t)) = 0 := entFr_ok h.ok.gen hn ht
  have hoff : ∀ k : Int, k < a + 2 → appV V a P S t k = V k := fun k hk => wrEnt_off fun i hi => by
    have := bk_in (a := a) (p := S.hd.place + used S.ents + i) hP0
    omega
  have hlow : ∀ j, j < used S.ents → appV V a P S t (bk a P (S.hd.place + j)) = V (bk a P (S.hd.place + j)) := fun j hj => wrEnt_off fun i hi => by
    rw [Nat.add_assoc]
    exact bk_ne hP0 (mod_ne _ (by omega) (by omega) (by omega))
  refine ⟨h.ok, ?_, ?_, ?_, ?_, ?_, ?_, ?_⟩
  · show rdHead (appV V a P S t ((a + S.hd.gen % 2 : Nat) : Int)) P (S.hd.gen % 2) = _
    rw [hoff _ (by omega)]; exact h.head
  · show ∀ x, rdHead (appV V a P S t ((a + (S.hd.gen + 1) % 2 : Nat) : Int)) P ((S.hd.gen + 1) % 2) = some x → _
    rw [hoff _ (by omega)]; exact h.other
  · show used (S.ents ++ [newEnt S t]) ≤ P
    rw [used_append]
    simp only [used, newEnt]
    omega
  · exact h.chain.snoc (Chain.lastle h.ok.base h.top)
  · intro e he
    rcases List.mem_append.1 he with he | he
    · exact h.top e he
    · simp at he; subst he; exact Nat.le_refl _
  · refine (h.stored.congr fun j hj => (hlow j hj).symm).snoc hchk rfl ?_
    have := piece_wrEnt (V := V) (a := a) (P := P) (p := S.hd.place + used S.ents) (s := entText S t) (by rw [hel]; omega)
    rw [hel] at this
    exact this
  · intro p hp
    have hnext : (appS S t).next = S.next + 1 := by simp [Rs.next, appS]; omega
    by_cases hex : ∃ i, i < need (42 + t.length) ∧ bk a P p = bk a P (S.hd.place + used S.ents + i)
    · obtain ⟨i, hi, he⟩ := hex
      rw [he]
      show Old (wrEnt V a P (S.hd.place + used S.ents) (entText S t) (need (42 + t.length)) _) _ _ _
      rw [wrEnt_at hi (by omega)]
      by_cases hi0 : i = 0
      · subst hi0
        intro k1 k2
        obtain ⟨e1, e2, e3⟩ := enc_hdr hchk ([] : List UInt8)
        have hb : ∃ r, chunk (entText S t) 0 ++ r = entText S t ++ List.replicate (512 - (entText S t).length) 0 := by
          refine ⟨(entText S t).drop 512, ?_⟩
          simp only [chunk, if_true, padTo]
          by_cases hl : (entText S t).length ≤ 512
          · rw [List.take_of_length_le hl, List.drop_of_length_le hl, List.append_nil]
          · have h1 : ((entText S t).take 512).length = 512 := by simp; omega
            rw [h1, Nat.sub_self, List.replicate_zero, List.append_nil, List.take_append_drop, show 512 - (entText S t).length = 0 by omega, List.replicate_zero, List.append_nil]
        obtain ⟨r, hr⟩ := hb
        have hl := chunk_len (entText S t) 0
        rw [← stN_app (r := r) (by omega), ← nbN_app (r := r) (by omega), hr]
        obtain ⟨e1, e2, e3⟩ := enc_hdr hchk (List.replicate (512 - (entText S t).length) 0)
        show stN (encode (entFr S.next (newEnt S t)) ++ _) ≤ _ ∧ (stN (encode (entFr S.next (newEnt S t)) ++ _) < _ ∨ nbN (encode (entFr S.next (newEnt S t)) ++ _) < _)
        rw [e1, e2, hnext]
        simp only [entFr, newEnt, appS]
        omega
      · exact old_zero _ _ _ _ (by simp [chunk, hi0])
    · have : appV V a P S t (bk a P p) = V (bk a P p) := wrEnt_off fun i hi he => hex ⟨i, hi, he⟩
      rw [this, hnext]
      exact (h.old p hp).mono (Nat.le_refl _) (Nat.le_refl _) (Nat.le_succ _)

/-! ### Trim -/
def trimHd (P : Nat) (S : Rs) (k : Nat) : Hd := ⟨S.hd.gen + 1, S.hd.first + k, (S.hd.place + used (S.ents.take k)) % P, (S.ents.getD (k - 1) ([], 0, 0)).2.2⟩
def trimS (P : Nat) (S : Rs) (k : Nat) : Rs := ⟨trimHd P S k, S.ents.drop k⟩
def trimV (V : Vis) (a P : Nat) (S : Rs) (k : Nat) : Vis := wrHead V a (trimHd P S k)
theorem trim_ok {V : Vis} {a P : Nat} {S : Rs} {k : Nat} (h : Inv V a P S) (hg : S.hd.gen < 2147483647) (hk0 : 0 < k) (hk : k ≤ S.ents.length) (hn : S.next ≤ 1099511627775) : HdOk P (trimHd P S k) := by
  have hP0 : 0 < P := by have := h.ok.place; omega
  have hm : (S.ents.getD (k - 1) ([], 0, 0)) ∈ S.ents := by
    rw [List.getD_eq_getElem?_getD, List.getElem?_eq_getElem (by omega)]
    exact List.getElem_mem _
  have := h.top _ hm
  refine ⟨by simp only [trimHd]; omega, by simp only [trimHd]; unfold Rs.next at hn; omega, Nat.mod_lt _ hP0, by simp only [trimHd]; omega⟩
theorem Stored.mod {V : Vis} {a P : Nat} : ∀ {E : List Ent} {p n : Nat}, Stored V a P p n E → Stored V a P (p % P) n E
  | [], _, _, _ => trivial
  | e :: r, p, n, h => by
    refine ⟨h.1, h.2.1, by rw [piece_mod]; exact h.2.2.1, ?_⟩
    have h1 := Stored.mod h.2.2.2
    have key : ∀ (E : List Ent) (x y m : Nat), x % P = y % P → Stored V a P x m E → Stored V a P y m E := by
      intro E
      induction E with
      | nil => intros; trivial
      | cons f s ih =>
        intro x y m hxy hs
        refine ⟨hs.1, hs.2.1, by rw [← piece_mod, ← hxy, piece_mod]; exact hs.2.2.1, ih _ _ _ ?_ hs.2.2.2⟩
        rw [Nat.add_mod, hxy, ← Nat.add_mod]
    exact key r _ _ _ (by rw [Nat.mod_add_mod]) h.2.2.2
theorem Inv.trim {V : Vis} {a P : Nat} {S : Rs} {k : Nat} (h : Inv V a P S) (hP : P ≤ 8192) (hg : S.hd.gen < 2147483647) (hk0 : 0 < k) (hk : k ≤ S.ents.length) (hn : S.next ≤ 1099511627775) : Inv (trimV V a P S k) a P (trimS P S k) := by
  have hP0 : 0 < P := by have := h.ok.place; omega
  have hok := trim_ok h hg hk0 hk hn
  obtain ⟨g1, g2⟩ := head_next h hok hP rfl
  have hgd : (S.ents.getD (k - 1) ([], 0, 0)) = S.ents[k - 1]'(by omega) := by
    rw [List.getD_eq_getElem?_getD, List.getElem?_eq_getElem (by omega)]; rfl
  have hch := h.chain.drop (k - 1) (by omega)
  rw [show k - 1 + 1 = k by omega] at hch
  have hnx : (trimS P S k).next = S.next := by simp only [Rs.next, trimS, trimHd, List.length_drop]; omega
  refine ⟨hok, g1, g2, ?_, ?_, ?_, ?_, fun p hp => ?_⟩
  · show used (S.ents.drop k) ≤ P
    have := used_take_drop S.ents k
    have := h.room
    omega
  · show Chain (S.ents.getD (k - 1) ([], 0, 0)).2.2 (S.ents.drop k)
    rw [hgd]; exact hch.1
  · intro e he
    exact Nat.le_succ_of_le (h.top e (List.mem_of_mem_drop he))
  · exact ((h.stored.drop k hk).congr fun j _ => (wrHead_bk hP0).symm).mod
  · rw [trimV, wrHead_bk hP0, hnx]
    refine (h.old p hp).mono (Nat.le_succ _) ?_ (Nat.le_refl _)
    show S.hd.base ≤ (S.ents.getD (k - 1) ([], 0, 0)).2.2
    rw [hgd]; exact hch.2

/-! ### Only the ring's own blocks matter, and only they change -/
theorem Inv.congr {V V' : Vis} {a P : Nat} {S : Rs} (h : Inv V a P S) (hc : ∀ k : Int, a ≤ k → k < a + 2 + P → V k = V' k) : Inv V' a P S := by
  have hP0 : 0 < P := by have := h.ok.place; omega
  refine ⟨h.ok, by rw [← hc _ (by omega) (by omega)]; exact h.head, by rw [← hc _ (by omega) (by omega)]; exact h.other, h.room, h.chain, h.top, h.stored.congr fun j _ => ?_, fun p hp => ?_⟩
  · have := bk_in (a := a) (p := S.hd.place + j) hP0
    exact hc _ (by omega) (by omega)
  · have := bk_in (a := a) (p := p) hP0
    rw [← hc _ (by omega) (by omega)]; exact h.old p hp
theorem wrHead_out {V : Vis} {a : Nat} {h : Hd} {k : Int} (hk : k < a ∨ a + 2 ≤ k) : wrHead V a h k = V k := upd_other _ _ (by omega)
theorem openV_out {V : Vis} {a P : Nat} {S : Rs} {k : Int} (hP : 0 < P) (hk : k < a ∨ a + 2 + P ≤ k) : openV V a P S k = V k := by
  unfold openV
  rw [wrHead_out (by omega)]
  split
  · have := bk_in (a := a) (p := S.hd.place + used S.ents) hP
    exact upd_other _ _ (by omega)
  · rfl
theorem appV_out {V : Vis} {a P : Nat} {S : Rs} {t : List UInt8} {k : Int} (hP : 0 < P) (hk : k < a ∨ a + 2 + P ≤ k) : appV V a P S t k = V k := wrEnt_off fun i hi => by
  have := bk_in (a := a) (p := S.hd.place + used S.ents + i) hP
  omega
end Go.Rg
/- Rings in the heap: their cells. Conditions: none of its own. -/
set_option linter.unusedVariables false
namespace Go.Rg
open Go Go.V Go.Frm
/-- The cells of an area. -/
def arv (d a P : Nat) : List Value := [.pointer (some ⟨d, 0, none⟩), .int .i64 (a : Int), .int .i64 (P : Int)]
/-- The cells of a ring. -/
def rcv (d a P : Nat) (h : Hd) (pv : Value) (next at_ sy : Nat) : List Value :=
  [.pointer (some ⟨d, 0, none⟩), .int .i64 (a : Int), .int .i64 (P : Int), .int .i64 (h.gen : Int), .int .i64 (h.first : Int), .int .i64 (h.place : Int), .int .i64 (h.base : Int), pv, .int .i64 (next : Int), .int .i64 (at_ : Int), .int .i64 (sy : Int), .int .i64 0]
def skp (i : Nat) : Nat := if i = 0 then 0 else 1
theorem skp_le (i : Nat) : skp i ≤ 1 := by unfold skp; split <;> omega
theorem piece_succ (V : Vis) (a P p i : Nat) : piece V a P p (i + 1) = piece V a P p i ++ (V (bk a P (p + i))).drop (skp i) := by simp only [piece, skp]
theorem piece_bv {V : Vis} {a P p i : Nat} : bv (piece V a P p i) ++ bv ((V (bk a P (p + i))).drop (skp i)) = bv (piece V a P p (i + 1)) := by
  rw [piece_succ]; simp [bv]
theorem bv_drop (l : List UInt8) (i : Nat) : bv (l.drop i) = (bv l).drop i := by simp [bv]
theorem _root_.Go.V.Grew.out {ks ks' : List Nat} {w : World} {g : Nat} (h : Grew ks ks' w) (hk : g ∉ ks) (hl : g < w.heap.size) : g ∉ ks' := fun hm => by
  rcases h g hm with h1 | h1
  · exact hk h1
  · omega
theorem lay_pad {s : List UInt8} (h : s.length ≤ 512) : lay (List.replicate 512 (Value.int .u8 0)) 0 (bv (s.take (min s.length 512))) = bv (pad s) := by
  rw [Nat.min_eq_left h, List.take_length]
  simp only [lay, List.take_zero, List.nil_append, Nat.zero_add, List.drop_replicate, bv_len, pad, bv, List.map_append, List.map_replicate]
  simp only [List.length_map]
  rfl
def Hd.zero : Hd := ⟨0, 0, 0, 0⟩
theorem rdHead_no {b : List UInt8} {P i : Nat} {f : Fr} {m : Nat} {e : Int} (hd : Frm.decode b = (f, m, e)) (h : e ≠ 0 ∨ f.kind ≠ 1 ∨ f.number ≠ 0 ∨ f.stream % 2 ≠ (i : Int)) : rdHead b P i = none := by
  unfold rdHead
  simp only [hd]
  rw [if_pos h]
theorem rdHead_yes {b : List UInt8} {P i : Nat} {f : Fr} {m : Nat} {e : Int} {v1 q1 z1 v2 q2 z2 v3 q3 z3 : Nat} (hd : Frm.decode b = (f, m, e)) (h : ¬ (e ≠ 0 ∨ f.kind ≠ 1 ∨ f.number ≠ 0 ∨ f.stream % 2 ≠ (i : Int)))
    (h1 : rdN f.payload 1099511627775 (0, 0) = (v1, q1, z1)) (h2 : rdN f.payload (P - 1) (q1, z1) = (v2, q2, z2)) (h3 : rdN f.payload f.stream.toNat (q2, z2) = (v3, q3, z3)) :
    rdHead b P i = if z3 = 0 ∧ ¬ q3 < f.payload.length then some ⟨f.stream.toNat, v1, v2, v3⟩ else none := by
  unfold rdHead
  simp only [hd]
  rw [if_neg h]
  unfold rd3
  simp only [h1, h2, h3]
end Go.Rg
/- Rings, continued: spots as cells; bounds for Format. Conditions: none of its own. -/
set_option linter.unusedVariables false
namespace Go.Rg
open Go Go.V Go.Frm
def Ent.zero : Ent := ([], 0, 0)
def spv (P p : Nat) (E : List Ent) (i : Nat) : List Value := [.int .i64 (((p + used (E.take i)) % P : Nat) : Int), .int .i64 ((E.getD i Ent.zero).2.1 : Int), .int .i64 ((E.getD i Ent.zero).2.2 : Int)]
theorem getD_at {E : List Ent} {i : Nat} (h : i < E.length) : E.getD i Ent.zero = E[i] := by
  rw [List.getD_eq_getElem?_getD, List.getElem?_eq_getElem h]; rfl
theorem row_at {cs xs : List Value} {o k m : Nat} (h : (cs.drop o).take m = xs) (hk : k + 3 ≤ m) : (cs.drop (o + k)).take 3 = (xs.drop k).take 3 := by
  rw [← h, List.drop_take, List.take_take, List.drop_drop, Nat.min_eq_left (by omega)]
theorem spv_at {cs : List Value} {o P p i j : Nat} {E : List Ent} (h : (cs.drop o).take (E.length * 3) = spotCells P p E) (hp : p < P) (hi : i < E.length) (hj : j = o + i * 3) : (cs.drop j).take (spv P p E i).length = spv P p E i := by
  subst hj
  show (cs.drop (o + i * 3)).take 3 = _
  rw [row_at h (by omega), spot_at P E p i hp hi, spv, getD_at hi]
theorem used_succ {E : List Ent} {i : Nat} (h : i < E.length) : used (E.take (i + 1)) = used (E.take i) + (E.getD i Ent.zero).2.1 := by
  rw [List.take_succ_eq_append_getElem h, used_append, getD_at h]
  simp [used]
theorem used_take_le (E : List Ent) (i : Nat) : used (E.take i) ≤ used E := by
  have := used_take_drop E i
  omega
theorem rdHead_gen {b : List UInt8} {P i : Nat} {h : Hd} (hr : rdHead b P i = some h) : h.gen ≤ 2147483647 := by
  unfold rdHead at hr
  simp only at hr
  split at hr
  · cases hr
  · rename_i h1
    split at hr
    · cases hr
      have h2 : (Frm.decode b).2.2 = 0 := by
        by_cases e : (Frm.decode b).2.2 = 0
        · exact e
        · exact absurd (.inl e) h1
      have h3 := dec_ok h2
      have h4 := h3.2.2.2.1
      have h5 : (Frm.decode b).1.stream = (stN b : Int) := congrArg (fun x => x.1.stream) h3.2.2.2.2.2.2.2
      simp only [h5]
      omega
    · cases hr
theorem hdGen_le (V : Vis) (a P i : Nat) : hdGen V a P i ≤ 2147483648 := by
  unfold hdGen
  split
  · rename_i h hh
    have := rdHead_gen hh
    omega
  · omega
def hdMax (V : Vis) (a P : Nat) : Nat → Nat
  | 0 => 0
  | i + 1 => max (hdMax V a P i) (hdGen V a P i)
theorem hdMax_two (V : Vis) (a P : Nat) : hdMax V a P 2 = fmtG V a P 0 := by simp [hdMax, fmtG]
theorem hdMax_le (V : Vis) (a P : Nat) : ∀ i, hdMax V a P i ≤ 2147483648
  | 0 => by simp [hdMax]
  | i + 1 => by have := hdMax_le V a P i; have := hdGen_le V a P i; simp only [hdMax]; omega
theorem fmtG_bound {V : Vis} (hV : Full V) (a P : Nat) : ∀ p, fmtG V a P p ≤ 2147483648
  | 0 => by have := hdGen_le V a P 0; have := hdGen_le V a P 1; simp only [fmtG]; omega
  | p + 1 => by
    have := fmtG_bound hV a P p
    simp only [fmtG]
    split
    · rename_i hf
      obtain ⟨_, _, k3, _, k5, _⟩ := find_hdr hV hf
      rw [k3]; omega
    · exact this
theorem hdGen_some {V : Vis} {a P i : Nat} {h : Hd} (hr : rdHead (V ((a + i : Nat) : Int)) P i = some h) : hdGen V a P i = h.gen + 1 := by unfold hdGen; rw [hr]
theorem hdGen_none {V : Vis} {a P i : Nat} (hr : rdHead (V ((a + i : Nat) : Int)) P i = none) : hdGen V a P i = 0 := by unfold hdGen; rw [hr]
end Go.Rg
namespace Go.V
open Go
theorem Dk.apartRO {tD tP : TypeId} {w : World} {d n : Nat} {dn : Bool} {V : Int → List UInt8} {c : Nat} {ks : List Nat} {e : TypeId} {size m : Nat} {v : Value} {xs : List Value} (h : Dk tD tP w d n V c dn ks) (hr : RowO w e size v m xs) (h1 : e ≠ tD) (h2 : e ≠ tP) : ∀ k, k ∈ own v → k ∉ ks := by
  rcases hr.2 with ⟨rfl, _⟩ | ⟨g, o, cap, cs, rfl, h3, _⟩
  · simp [own]
  · intro k hk
    have : k = g := by simpa [own] using hk
    subst this
    exact h.notin h3 h1 h2
theorem Dk.apartRO' {tD tP : TypeId} {w : World} {d n : Nat} {dn : Bool} {V : Int → List UInt8} {c : Nat} {ks : List Nat} {e : TypeId} {size m : Nat} {v : Value} {xs : List Value} (h : Dk tD tP w d n V c dn ks) (hr : RowO w e size v m xs) (h1 : e ≠ tD) (h2 : e ≠ tP) : ∀ k ∈ ks, k ∉ own v := fun k hk hm => h.apartRO hr h1 h2 k hm hk
end Go.V
/- An open ring in the heap. Conditions: none of its own. -/
set_option linter.unusedVariables false
namespace Go.Rg
open Go Go.V Go.Frm
/-- An open ring at r, and the heap's blocks of which it consists. -/
def RgK (tR tS : TypeId) (w : World) (r d a P : Nat) (S : Rs) (rs : List Nat) : Prop :=
  ∃ pv sy, Blk w r tR (rcv d a P S.hd pv S.next ((S.hd.place + used S.ents) % P) sy) ∧ RowO w tS 3 pv S.ents.length (spotCells P S.hd.place S.ents) ∧ rs = r :: own pv
section
variable {tR tS tD tP : TypeId} {w w' : World} {r d a P n : Nat} {S : Rs} {rs ks : List Nat} {V : Int → List UInt8} {c : Nat} {dn : Bool}
theorem RgK.chg {bad : List Nat} (h : RgK tR tS w r d a P S rs) (hc : Chg bad w w') (hb : ∀ k ∈ rs, k ∉ bad) : RgK tR tS w' r d a P S rs := by
  obtain ⟨pv, sy, h1, h2, rfl⟩ := h
  exact ⟨pv, sy, h1.chg hc (hb _ (by simp)), h2.chg hc (fun k hk => hb k (by simp [hk])), rfl⟩
theorem RgK.chg0 (h : RgK tR tS w r d a P S rs) (hc : Chg [] w w') : RgK tR tS w' r d a P S rs := h.chg hc (by simp)
theorem RgK.lt (h : RgK tR tS w r d a P S rs) : ∀ k ∈ rs, k < w.heap.size := by
  obtain ⟨pv, sy, h1, h2, rfl⟩ := h
  intro k hk
  rcases List.mem_cons.1 hk with rfl | hk
  · exact h1.lt
  · exact h2.lt k hk
theorem RgK.apartD (h : RgK tR tS w r d a P S rs) (hD : Dk tD tP w d n V c dn ks) (h1 : tR ≠ tD) (h2 : tR ≠ tP) (h3 : tS ≠ tD) (h4 : tS ≠ tP) : ∀ k ∈ rs, k ∉ ks := by
  obtain ⟨pv, sy, k1, k2, rfl⟩ := h
  intro k hk
  rcases List.mem_cons.1 hk with rfl | hk
  · exact hD.notin k1 h1 h2
  · exact hD.apartRO k2 h3 h4 k hk
theorem RgK.notin {g : Nat} {t : TypeId} {cs : List Value} (h : RgK tR tS w r d a P S rs) (hb : Blk w g t cs) (h1 : t ≠ tR) (h2 : t ≠ tS) : g ∉ rs := by
  obtain ⟨pv, sy, k1, k2, rfl⟩ := h
  exact notin_cons (hb.ne k1 h1) (k2.notin hb (Ne.symm h2))
theorem RgK.fresh {g : Nat} (h : RgK tR tS w r d a P S rs) (hg : w.heap.size ≤ g) : ∀ k ∈ rs, k ∉ [g] := fun k hk hm => by
  have := h.lt k hk
  simp at hm
  omega
end
theorem spv_cell {cs : List Value} {o P p i j m : Nat} {E : List Ent} {v : Value} (h : (cs.drop o).take (E.length * 3) = spotCells P p E) (hp : p < P) (hi : i < E.length) (hm : m < 3) (hj : j = o + i * 3 + m) (hv : (spv P p E i)[m]? = some v) : cs[j]? = some v := by
  subst hj
  have h1 := spv_at h hp hi (j := o + i * 3) rfl
  rw [← h1, List.getElem?_take, List.getElem?_drop, if_pos (by show m < 3; exact hm)] at hv
  exact hv
theorem trim_place {P : Nat} {S : Rs} {k : Nat} (h : k = S.ents.length) : (S.hd.place + used S.ents) % P = (S.hd.place + used (S.ents.take k)) % P := by rw [h, List.take_length]
theorem trim_next {P : Nat} {S : Rs} {k : Nat} (hk : k ≤ S.ents.length) : (trimS P S k).next = S.next := by simp only [Rs.next, trimS, trimHd, List.length_drop]; omega
theorem trim_at {P : Nat} {S : Rs} {k : Nat} : ((trimS P S k).hd.place + used (trimS P S k).ents) % P = (S.hd.place + used S.ents) % P := by
  simp only [trimS, trimHd, Nat.mod_add_mod, Nat.add_assoc]
  rw [used_take_drop]
/-- The cells after a Trim. -/
theorem rcv_head (d a P : Nat) (h h' : Hd) (pv : Value) (next at_ sy : Nat) : lay (rcv d a P h pv next at_ sy) 3 h'.cells = rcv d a P h' pv next at_ sy := rfl
end Go.Rg
/- What Append writes, as the loop writes it. Conditions: none of its own. -/
set_option linter.unusedVariables false
namespace Go.Rg
open Go Go.V Go.Frm
def restT (s : List UInt8) (i : Nat) : List UInt8 := s.drop (if i = 0 then 0 else 512 + 511 * (i - 1))
theorem restT_zero (s : List UInt8) : restT s 0 = s := by simp [restT]
theorem drop_min (s : List UInt8) (m : Nat) : s.drop (min s.length m) = s.drop m := by
  by_cases h : m ≤ s.length
  · rw [Nat.min_eq_right h]
  · rw [Nat.min_eq_left (by omega), List.drop_length, List.drop_of_length_le (by omega)]
theorem take_min (s : List UInt8) (m : Nat) : s.take (min s.length m) = s.take m := by
  by_cases h : m ≤ s.length
  · rw [Nat.min_eq_right h]
  · rw [Nat.min_eq_left (by omega), List.take_length, List.take_of_length_le (by omega)]
theorem restT_succ (s : List UInt8) (i : Nat) : (restT s i).drop (min (restT s i).length (512 - skp i)) = restT s (i + 1) := by
  rw [drop_min]
  unfold restT skp
  rw [List.drop_drop, if_neg (Nat.succ_ne_zero i), Nat.add_sub_cancel]
  congr 1
  split <;> omega
theorem bv_append' (a b : List UInt8) : bv (a ++ b) = bv a ++ bv b := by simp [bv]
theorem bv_zeros (n : Nat) : bv (List.replicate n 0) = List.replicate n (Value.int .u8 0) := by
  simp only [bv, List.map_replicate]
  rfl
theorem lay_chunk (s : List UInt8) (i : Nat) : lay (List.replicate 512 (Value.int .u8 0)) (0 + skp i * 1) (bv ((restT s i).take (min (restT s i).length (512 - skp i)))) = bv (chunk s i) := by
  rw [take_min]
  have hl : ((restT s i).take (512 - skp i)).length ≤ 512 - skp i := by rw [List.length_take]; omega
  by_cases h : i = 0
  · subst h
    simp only [skp, if_true, restT_zero, chunk, padTo, bv_append', bv_zeros, lay, List.take_zero, List.nil_append, Nat.zero_mul, Nat.add_zero, Nat.zero_add, Nat.sub_zero, List.drop_replicate, bv_len]
  · have e1 : skp i = 1 := by simp [skp, h]
    have e2 : restT s i = s.drop (512 + 511 * (i - 1)) := by simp [restT, h]
    rw [e1] at hl ⊢
    simp only [chunk, if_neg h, padTo, lay, ← e2, Nat.zero_add, Nat.one_mul, List.take_replicate, List.drop_replicate, bv_len]
    show _ = .int .u8 0 :: bv (_ ++ _)
    rw [bv_append', bv_zeros]
    simp only [show min 1 512 = 1 from rfl, List.replicate_one, List.singleton_append, List.cons_append, show 512 - 1 = 511 from rfl]
    rw [show 512 - (1 + ((restT s i).take 511).length) = 511 - ((restT s i).take 511).length by omega, List.nil_append]
theorem bk_mod (a P p i : Nat) : bk a P (p % P + i) = bk a P (p + i) := by simp [bk]
theorem wrEnt_mod (V : Vis) (a P p : Nat) (s : List UInt8) : ∀ n, wrEnt V a P (p % P) s n = wrEnt V a P p s n
  | 0 => rfl
  | n + 1 => by rw [wrEnt, wrEnt, wrEnt_mod V a P p s n, bk_mod]
theorem app_next (S : Rs) (t : List UInt8) : (appS S t).next = S.hd.first + S.ents.length + 1 := by simp [Rs.next, appS]; omega
theorem app_used (S : Rs) (t : List UInt8) : used (appS S t).ents = used S.ents + need (42 + t.length) := by simp [appS, used_append, used, newEnt]
end Go.Rg
namespace Go.V
open Go
theorem Df.notinO {w : World} {l size n : Nat} {e : TypeId} {v : Value} {xs : List Value} (h : Df w l) (hr : RowO w e size v n xs) : l ∉ own v := by
  rcases hr.2 with ⟨rfl, _⟩ | ⟨g, o, cap, cs, rfl, h3, _⟩
  · simp [own]
  · intro hk
    have : l = g := by simpa [own] using hk
    exact h.ne h3 this
theorem Df.apartO {w : World} {l size n : Nat} {e : TypeId} {v : Value} {xs : List Value} (h : Df w l) (hr : RowO w e size v n xs) : ∀ k, k ∈ own v → k ∉ [l] := fun k hk hm => by
  have : k = l := by simpa using hm
  subst this
  exact h.notinO hr hk
theorem Lp.apartO {w : World} {l size n : Nat} {r : Loop} {e : TypeId} {v : Value} {xs : List Value} (h : Lp w l r) (hr : RowO w e size v n xs) : ∀ k, k ∈ own v → k ∉ [l] := fun k hk hm => by
  have : k = l := by simpa using hm
  subst this
  rcases hr.2 with ⟨rfl, _⟩ | ⟨g, o, cap, cs, rfl, h3, _⟩
  · simp [own] at hk
  · have : k = g := by simpa [own] using hk
    exact h.ne h3 this
end Go.V
/- What Open finds, as its loops find it. Conditions: none of its own. -/
set_option linter.unusedVariables false
namespace Go.Rg
open Go Go.V Go.Frm
def newer : Option Hd → Option Hd → Option Hd
  | none, y => y
  | some x, none => some x
  | some x, some y => if x.gen < y.gen then some y else some x
def curTo (V : Vis) (a P : Nat) : Nat → Option Hd
  | 0 => none
  | i + 1 => newer (curTo V a P i) (rdHead (V ((a + i : Nat) : Int)) P i)
theorem curTo_two (V : Vis) (a P : Nat) : curTo V a P 2 = curHead V a P := by
  have h1 : curTo V a P 2 = newer (newer none (rdHead (V ((a + 0 : Nat) : Int)) P 0)) (rdHead (V ((a + 1 : Nat) : Int)) P 1) := rfl
  rw [h1]
  unfold curHead
  rw [Nat.add_zero]
  generalize rdHead (V (a : Int)) P 0 = x
  generalize rdHead (V ((a + 1 : Nat) : Int)) P 1 = y
  cases x <;> cases y <;> rfl
theorem rdN_le (b : List UInt8) (most : Nat) (s : Nat × Nat) : (rdN b most s).1 ≤ most := by
  unfold rdN
  split
  · simp
  · simp only
    split
    · simp
    · split
      · simp
      · simp only; omega
theorem rdHead_ok {b : List UInt8} {P i : Nat} {h : Hd} (hP : 0 < P) (hr : rdHead b P i = some h) : HdOk P h := by
  have hg := rdHead_gen hr
  unfold rdHead at hr
  simp only at hr
  split at hr
  · cases hr
  · split at hr
    · cases hr
      have h1 := rdN_le (Frm.decode b).1.payload 1099511627775 (0, 0)
      have h2 := rdN_le (Frm.decode b).1.payload (P - 1) (rdN (Frm.decode b).1.payload 1099511627775 (0, 0)).2
      have h3 := rdN_le (Frm.decode b).1.payload (Frm.decode b).1.stream.toNat (rdN (Frm.decode b).1.payload (P - 1) (rdN (Frm.decode b).1.payload 1099511627775 (0, 0)).2).2
      refine ⟨hg, h1, ?_, h3⟩
      simp only [rd3]
      omega
    · cases hr
theorem newer_ok {Q : Hd → Prop} {x y : Option Hd} (hx : ∀ h, x = some h → Q h) (hy : ∀ h, y = some h → Q h) : ∀ h, newer x y = some h → Q h := by
  intro h
  cases x with
  | none => exact hy h
  | some x =>
    cases y with
    | none => exact hx h
    | some y =>
      simp only [newer]
      split
      · exact hy h
      · exact hx h
theorem curTo_ok {V : Vis} {a P : Nat} (hP : 0 < P) : ∀ i, ∀ h, curTo V a P i = some h → HdOk P h
  | 0 => fun h hh => by cases hh
  | i + 1 => newer_ok (curTo_ok hP i) fun h hh => rdHead_ok hP hh
theorem curHead_ok {V : Vis} {a P : Nat} (hP : 0 < P) {h : Hd} (hh : curHead V a P = some h) : HdOk P h := curTo_ok hP 2 h (by rw [curTo_two]; exact hh)
/-- The cells of entries. -/
def entC : Nat → List Ent → List Value
  | _, [] => []
  | n, e :: r => .int .i64 (n : Int) :: .string (str e.1) :: entC (n + 1) r
theorem entC_len : ∀ (E : List Ent) (n : Nat), (entC n E).length = E.length * 2
  | [], _ => rfl
  | e :: r, n => by simp only [entC, List.length_cons, entC_len r]; omega
theorem entC_snoc (e : Ent) : ∀ (E : List Ent) (n : Nat), entC n (E ++ [e]) = entC n E ++ [.int .i64 ((n + E.length : Nat) : Int), .string (str e.1)]
  | [], n => by simp [entC]
  | x :: r, n => by
    simp only [List.cons_append, entC, entC_snoc e r, List.length_cons]
    rw [show n + 1 + r.length = n + (r.length + 1) by omega]
theorem entC_at : ∀ (E : List Ent) (n i : Nat) (hi : i < E.length), ((entC n E).drop (i * 2)).take 2 = [.int .i64 ((n + i : Nat) : Int), .string (str (E[i]).1)]
  | e :: r, n, 0, _ => by simp [entC]
  | e :: r, n, i + 1, hi => by
    have := entC_at r (n + 1) i (by simpa using hi)
    simp only [entC]
    rw [show (i + 1) * 2 = i * 2 + 1 + 1 by omega, List.drop_succ_cons, List.drop_succ_cons, this]
    simp [Nat.add_assoc, Nat.add_comm 1]
theorem lastS_snoc (e : Ent) : ∀ (E : List Ent) (st : Nat), lastS st (E ++ [e]) = e.2.2
  | [], _ => rfl
  | x :: r, st => lastS_snoc e r x.2.2
/-- The scan so far. -/
structure Scan (V : Vis) (a P : Nat) (h : Hd) (acc : List Ent) : Prop where
  eq : scan V a P h.gen h.place P h.first h.base = acc ++ scan V a P h.gen ((h.place + used acc) % P) (P - used acc) (h.first + acc.length) (lastS h.base acc)
  room : used acc ≤ P
  len : acc.length ≤ used acc
  last : lastS h.base acc ≤ 2147483647
theorem Scan.start {V : Vis} {a P : Nat} {h : Hd} (hk : HdOk P h) : Scan V a P h [] := ⟨by simp [used, lastS, Nat.mod_eq_of_lt hk.place], by simp [used], by simp, by have := hk.base; have := hk.gen; simp only [lastS]; omega⟩
theorem Scan.stop {V : Vis} {a P : Nat} {h : Hd} {acc : List Ent} (hs : Scan V a P h acc) (hst : stops V a P h.gen ((h.place + used acc) % P) (P - used acc) (h.first + acc.length) (lastS h.base acc)) : acc = scan V a P h.gen h.place P h.first h.base := by
  rw [hs.eq, scan_stops hst, List.append_nil]
theorem Scan.go {V : Vis} (hV : Full V) {a P : Nat} {h : Hd} {acc : List Ent} (hs : Scan V a P h acc) (hst : ¬ stops V a P h.gen ((h.place + used acc) % P) (P - used acc) (h.first + acc.length) (lastS h.base acc)) :
    Scan V a P h (acc ++ [entAt V a P ((h.place + used acc) % P) (P - used acc)]) ∧ 1 ≤ (find V a P ((h.place + used acc) % P) (P - used acc)).2.1 ∧ (find V a P ((h.place + used acc) % P) (P - used acc)).2.1 ≤ P - used acc ∧ 0 ≤ (find V a P ((h.place + used acc) % P) (P - used acc)).1.stream ∧ (find V a P ((h.place + used acc) % P) (P - used acc)).1.stream ≤ 2147483647 := by
  have h0 := hst
  simp only [stops, not_or] at h0
  have hf : (find V a P ((h.place + used acc) % P) (P - used acc)).2.2 = true := by simpa using h0.1
  have hp := find_pos hf
  obtain ⟨_, _, k3, _, k5, _⟩ := find_hdr hV hf
  have hr := hs.room
  refine ⟨⟨?_, ?_, ?_, ?_⟩, hp.1, by omega, by rw [k3]; omega, by rw [k3]; omega⟩
  · rw [hs.eq, scan_goes hst, List.append_assoc, List.singleton_append, used_append, lastS_snoc]
    simp only [used, entAt, Nat.mod_add_mod, List.length_append, List.length_cons, List.length_nil]
    simp only [Nat.add_zero, Nat.zero_add, Nat.add_assoc, Nat.sub_sub]
  · rw [used_append]; simp only [used, entAt]; omega
  · rw [used_append, List.length_append]; have := hs.len; simp only [used, entAt, List.length_cons, List.length_nil]; omega
  · rw [lastS_snoc]; simp only [entAt]; rw [k3]; omega
def zeroV (V : Vis) (a P : Nat) (h : Hd) (E : List Ent) : Vis := if used E < P then upd V (bk a P (h.place + used E)) zb else V
end Go.Rg
namespace Go.V
open Go
theorem RowO.disjR {w : World} {e e' : TypeId} {size n size' n' : Nat} {v v' : Value} {xs xs' : List Value} (h : RowO w e size v n xs) (h' : Row w e' size' v' n' xs') (ht : e' ≠ e) : ∀ k, k ∈ own v → k ∉ own v' := by
  intro k hk hm
  rcases h.2 with ⟨rfl, _⟩ | ⟨g, o, cap, cs, rfl, h3, _⟩
  · simp [own] at hk
  · have : k = g := by simpa [own] using hk
    subst this
    exact h'.notin h3 ht hm
end Go.V
/- What the laws of rings do, in plain Lean. Conditions: none of its own. -/
set_option linter.unusedVariables false
namespace Go.Rg
open Go Go.V Go.Frm
/-- The text that the laws make of two numbers. -/
def txt (N B : Nat) : List UInt8 := (List.range (N % 1600)).map fun i => UInt8.ofNat (B + i * 5)
theorem txt_len (N B : Nat) : (txt N B).length = N % 1600 := by simp [txt]
theorem txt_at {N B i : Nat} (h : i < N % 1600) : (txt N B)[i]? = some (UInt8.ofNat (B + i * 5)) := by simp [txt, h]
def txtTo (N B i : Nat) : List UInt8 := (txt N B).take i ++ List.replicate (N % 1600 - i) 0
theorem txtTo_zero (N B : Nat) : txtTo N B 0 = List.replicate (N % 1600) 0 := by simp [txtTo]
theorem txtTo_len {N B i : Nat} (h : i ≤ N % 1600) : (txtTo N B i).length = N % 1600 := by simp [txtTo, txt_len]; omega
theorem txtTo_all (N B : Nat) : txtTo N B (N % 1600) = txt N B := by
  rw [txtTo, Nat.sub_self, List.replicate_zero, List.append_nil, List.take_of_length_le (by rw [txt_len]; exact Nat.le_refl _)]
theorem txtTo_succ {N B i : Nat} (h : i < N % 1600) : (txtTo N B i).set i (UInt8.ofNat (B + i * 5)) = txtTo N B (i + 1) := by
  have hl : ((txt N B).take i).length = i := by rw [List.length_take, txt_len]; omega
  obtain ⟨m, hm⟩ : ∃ m, N % 1600 - i = m + 1 := ⟨N % 1600 - i - 1, by omega⟩
  rw [txtTo, txtTo, hm, List.set_append_right _ _ (by omega), hl, Nat.sub_self, List.replicate_succ, List.set_cons_zero, show N % 1600 - (i + 1) = m by omega,
    List.take_succ_eq_append_getElem (by rw [txt_len]; exact h), List.append_assoc, List.singleton_append]
  congr 2
  have := txt_at (B := B) h
  rw [List.getElem?_eq_getElem (by rw [txt_len]; exact h)] at this
  exact (Option.some.inj this).symm
theorem txtTo_set {N B i : Nat} (h : i < N % 1600) : (bv (txtTo N B i)).set i (.int .u8 (((UInt8.ofNat (B + i * 5)).toNat : Nat) : Int)) = bv (txtTo N B (i + 1)) := by
  rw [← txtTo_succ h]
  simp [bv]
theorem byte_five (B i : Nat) : ((B : Int) + (((i : Int) % 256) * 5) % 256) % 256 = (((UInt8.ofNat (B + i * 5)).toNat : Nat) : Int) := by
  rw [UInt8.toNat_ofNat']
  omega
/-- What an operation of the laws does to a ring, and its error. -/
def StepR (P k N B : Nat) (S S' : Rs) (e : Int) : Prop :=
  (k % 3 = 0 ∧ ((e = 0 ∧ S' = appS S (txt N B)) ∨ (e = 26 ∧ S' = S))) ∨ (k % 3 = 1 ∧ e = 0 ∧ S' = S) ∨ (k % 3 = 2 ∧ ((e = 0 ∧ ∃ j, 0 < j ∧ j ≤ S.ents.length ∧ S' = trimS P S j) ∨ S' = S))
theorem StepR.gen {P k N B : Nat} {S S' : Rs} {e : Int} (h : StepR P k N B S S' e) : S'.hd.gen ≤ S.hd.gen + 1 := by
  rcases h with ⟨_, ⟨_, rfl⟩ | ⟨_, rfl⟩⟩ | ⟨_, _, rfl⟩ | ⟨_, ⟨_, j, _, _, rfl⟩ | rfl⟩ <;> simp [appS, trimS, trimHd]
theorem StepR.next {P k N B : Nat} {S S' : Rs} {e : Int} (h : StepR P k N B S S' e) : S'.next ≤ S.next + 1 ∧ S.next ≤ S'.next := by
  rcases h with ⟨_, ⟨_, rfl⟩ | ⟨_, rfl⟩⟩ | ⟨_, _, rfl⟩ | ⟨_, ⟨_, j, _, hj, rfl⟩ | rfl⟩
  · rw [app_next]; simp only [Rs.next]; omega
  · omega
  · omega
  · rw [trim_next hj]; omega
  · omega

/-! ### Blocks that contain no ring -/
theorem fl_getD {b : UInt8} {i : Nat} (h : i < 512) : (List.replicate 512 b).getD i 0 = b := by
  rw [List.getD_eq_getElem?_getD, List.getElem?_replicate, if_pos h]; rfl
theorem fl_no {b : UInt8} : (List.replicate 512 b).getD 0 0 = 245 → ((List.replicate 512 b).getD 1 0).toNat ≠ 2 := by
  rw [fl_getD (by omega), fl_getD (by omega)]
  intro h
  rw [h]; decide
theorem rdHead_fl (b : UInt8) (P i : Nat) : rdHead (List.replicate 512 b) P i = none := by
  obtain ⟨f, m, e, hd⟩ : ∃ f m e, Frm.decode (List.replicate 512 b) = (f, m, e) := ⟨_, _, _, rfl⟩
  refine rdHead_no hd ?_
  by_cases he : e = 0
  · have h1 := dec_ok (s := List.replicate 512 b) (by rw [hd]; exact he)
    have h2 := h1.1
    have h3 : f.kind = (((List.replicate 512 b).getD 1 0).toNat : Int) := by
      have := h1.2.2.2.2.2.2.2
      rw [hd] at this
      exact congrArg (fun x => x.1.kind) this
    rw [fl_getD (by omega)] at h2 h3
    subst h2
    exact .inr (.inl (by rw [h3]; decide))
  · exact .inl he
theorem fmt_fl {V : Vis} (hV : Full V) {a P : Nat} {b : UInt8} (h : ∀ k : Int, a ≤ k → k < a + 2 + P → V k = List.replicate 512 b) (hP : 0 < P) : fmtGen V a P = 0 := by
  refine fmt_blank hV ?_ ?_ fun p => ?_
  · rw [h _ (by omega) (by omega)]; exact rdHead_fl _ _ _
  · rw [h _ (by omega) (by omega)]; exact rdHead_fl _ _ _
  · have := bk_in (a := a) (p := p) hP
    rw [h _ (by omega) (by omega)]; exact fl_no
theorem inv_fl {V : Vis} (hV : Full V) {a P : Nat} {b : UInt8} (h : ∀ k : Int, a ≤ k → k < a + 2 + P → V k = List.replicate 512 b) (hP : 0 < P) (hP2 : P ≤ 8192) : Inv (wrHead V a (fmtHd V a P)) a P ⟨⟨0, 0, 0, 0⟩, []⟩ := by
  have e := fmt_fl hV h hP
  have h1 := inv_format (V := V) (a := a) hP hP2 (by omega) fun p hp k1 k2 => by
    have := bk_in (a := a) (p := p) hP
    rw [h _ (by omega) (by omega)] at k1 k2
    exact absurd k2 (fl_no k1)
  simp only [fmtHd, e] at h1 ⊢
  exact h1
def S1 : Rs := ⟨⟨1, 0, 0, 0⟩, []⟩
theorem zb_full : Full (fun _ => zb) := fun _ => zb_len
/-- The ring after an Open over a ring. -/
theorem cur_of {V : Vis} {a P : Nat} {S : Rs} (h : Inv V a P S) : curHead V a P = some S.hd := curHead_inv h
/-- Texts of entries. -/
def txts (S : Rs) : List (List UInt8) := S.ents.map (·.1)
theorem txts_app (S : Rs) (t : List UInt8) : txts (appS S t) = txts S ++ [t] := by simp [txts, appS, newEnt]
theorem ent_text {S : Rs} {i : Nat} (hi : i < S.ents.length) : (S.ents[i]).1 = (txts S).getD i [] := by
  simp [txts, List.getD_eq_getElem?_getD, hi]
theorem entC_cell {E : List Ent} {n i : Nat} {cs : List Value} (h : cs.take (E.length * 2) = entC n E) (hi : i < E.length) : cs[i * 2]? = some (.int .i64 ((n + i : Nat) : Int)) ∧ cs[i * 2 + 1]? = some (.string (str ((E.map (·.1)).getD i []))) := by
  have h1 := entC_at E n i hi
  rw [← h, List.drop_take, List.take_take, Nat.min_eq_left (by omega)] at h1
  have e0 : ((cs.drop (i * 2)).take 2)[0]? = some (.int .i64 ((n + i : Nat) : Int)) := by rw [h1]; rfl
  have e1 : ((cs.drop (i * 2)).take 2)[1]? = some (.string (str (E[i]).1)) := by rw [h1]; rfl
  simp only [List.getElem?_take, List.getElem?_drop] at e0 e1
  refine ⟨by simpa using e0, ?_⟩
  have e2 : (E.map (·.1)).getD i [] = (E[i]).1 := by simp [List.getD_eq_getElem?_getD, hi]
  rw [e2]
  simpa using e1
theorem RgK.apartRow {tR tS : TypeId} {w : World} {r d a P : Nat} {S : Rs} {rs : List Nat} {e : TypeId} {size n : Nat} {v : Value} {xs : List Value} (h : RgK tR tS w r d a P S rs) (hr : Row w e size v n xs) (h1 : e ≠ tR) (h2 : e ≠ tS) : ∀ k, k ∈ own v → k ∉ rs := by
  obtain ⟨pv, sy, k1, k2, rfl⟩ := h
  intro k hk hm
  rcases List.mem_cons.1 hm with rfl | hm
  · exact hr.notin k1 h1 hk
  · exact k2.disjR hr h2 k hm hk
end Go.Rg
namespace Go.Rg
open Go Go.V Go.Frm
theorem trim_ok_hd {V : Vis} {a P : Nat} {S : Rs} {k : Nat} (h : Inv V a P S) (hg : S.hd.gen < 2147483647) (hk0 : 0 < k) (hk : k ≤ S.ents.length) (hn : S.next ≤ 1099511627775) : HdOk P (trimHd P S k) := Rg.trim_ok h hg hk0 hk hn
end Go.Rg
namespace Go.Rg
open Go Go.V Go.Frm
/-! ### The example that 'known' tries -/
def K1 : Rs := appS S1 (txt 100 1)
def K2 : Rs := appS K1 (txt 500 2)
def K3 : Rs := trimS 4 K2 1
def K4 : Rs := appS K3 (txt 500 3)
theorem n100 : need (42 + (txt 100 1).length) = 1 := by rw [txt_len]; decide
theorem n500 (b : Nat) : need (42 + (txt 500 b).length) = 2 := by rw [txt_len]; decide
theorem k1_used : used K1.ents = 1 := by rw [K1, app_used, n100]; rfl
theorem k2_used : used K2.ents = 3 := by rw [K2, app_used, n500, k1_used]
theorem k3_used : used K3.ents = 2 := by
  have h1 := used_take_drop K2.ents 1
  have h2 : used (K2.ents.take 1) = 1 := by
    have := n100
    simp only [K2, K1, appS, S1, List.nil_append, List.singleton_append, List.take_succ_cons, List.take_zero, used, newEnt]
    omega
  rw [h2, k2_used] at h1
  show used (K2.ents.drop 1) = 2
  omega
theorem k4_used : used K4.ents = 4 := by rw [K4, app_used, n500, k3_used]
theorem k_next : K1.next = 1 ∧ K2.next = 2 ∧ K3.next = 2 ∧ K4.next = 3 := by decide
theorem k_len : K1.ents.length = 1 ∧ K2.ents.length = 2 ∧ K3.ents.length = 1 := ⟨rfl, rfl, rfl⟩
theorem k_gen : K1.hd.gen = 1 ∧ K2.hd.gen = 1 ∧ K3.hd.gen = 2 ∧ K4.hd.gen = 2 := ⟨rfl, rfl, rfl, rfl⟩
theorem k_first : K1.hd.first = 0 ∧ K2.hd.first = 0 := ⟨rfl, rfl⟩
end Go.Rg
namespace Go.Rg
open Go Go.V Go.Frm
theorem entC_num {E : List Ent} {n i m : Nat} {cs : List Value} (h : cs.take (m * 2) = entC n E) (hm : m = E.length) (hi : i < E.length) : cs[2 * i]? = some (.int .i64 ((n + i : Nat) : Int)) := by
  subst hm
  have := (entC_cell h hi).1
  rwa [Nat.mul_comm] at this
theorem entC_txt {E : List Ent} {n i m : Nat} {cs : List Value} (h : cs.take (m * 2) = entC n E) (hm : m = E.length) (hi : i < E.length) : cs[2 * i + 1]? = some (.string (str ((E.map (·.1)).getD i []))) := by
  subst hm
  have := (entC_cell h hi).2
  rwa [Nat.mul_comm] at this
theorem tv_cell {L : List (List UInt8)} {i m : Nat} {cs : List Value} (h : cs.take (m * 1) = tv L) (hm : m = L.length) (hi : i < L.length) : cs[i]? = some (.string (str (L.getD i []))) := by
  subst hm
  have h1 : (cs.take (L.length * 1))[i]? = (tv L)[i]? := by rw [h]
  rw [List.getElem?_take, if_pos (by omega)] at h1
  rw [h1]
  simp [tv, List.getD_eq_getElem?_getD, hi]
theorem getD_op_mem {L : List Opr} {i : Nat} (h : i < L.length) : L.getD i Opr.zero ∈ L := by
  rw [List.getD_eq_getElem?_getD, List.getElem?_eq_getElem h]
  exact List.getElem_mem _
theorem getD_int_mem {L : List Int} {i : Nat} (h : i < L.length) : L.getD i 0 ∈ L := by
  rw [List.getD_eq_getElem?_getD, List.getElem?_eq_getElem h]
  exact List.getElem_mem _
theorem txts_len (S : Rs) : (txts S).length = S.ents.length := by simp [txts]
end Go.Rg
namespace Go.Rg
open Go Go.V Go.Frm
theorem need_le {u n P : Nat} (h : u + n ≤ P) : n ≤ P := by omega
end Go.Rg
