/- From a law's row to a walk: the table that a row lays, and arguments that read behind the call as before. Conditions: none. -/
import Derived.Test.YtcologcjhenmkaaDoorEngA
import GoSem.Claim
import GoSem.ClaimJoined
import Derived.JoinedTies
import Derived.KernelRfl
import Derived.OpenShut
import Derived.ShutString
import Derived.ChangeSame
import Derived.ChangeVars
import Derived.ChangeOld
import Derived.JoinedOf
import Derived.RowKit
import Derived.LaidLaws
import Derived.Below
import Derived.SliceStrings
import Derived.ChangeSlices
import Derived.Test.YtcologcjhenmkaaDoorEngB
import Derived.Test.YtcologcjhenmkaaDoorRows
import Derived.Test.YtcologcjhenmkaaDoorSpecA
set_option linter.unusedVariables false
namespace Go.V
open Go.ChangeShapes Go.WideShapes Go.RowKit

section
variable {H : Type} {enc : TypeId × Value → H} {P : Program} {w : World} {base : Nat} {spare : Nat → Bool} {held : Bool}
theorem trod_int1 {t : TypeId} {k : IntKind} {c : Value} {fuel : Nat} {y : DataW H × List MemPlace} (ht : P.underlying t = some (.int k)) (h : DataW.trod enc P w base spare held fuel t [c] = some y) :
    ∃ n, c = .int k n ∧ y = (.lit (.int k n), []) ∧ (Lit.int k n).wf = true := by
  cases fuel with
  | zero => simp [DataW.trod] at h
  | succ fuel =>
    cases c <;> simp [DataW.trod, ht] at h
    rename_i k' n
    obtain ⟨⟨rfl, hw⟩, rfl⟩ := h
    exact ⟨n, rfl, rfl, hw⟩
/-- An array of numbers: its cells. -/
theorem trod_ints {t e : TypeId} {k : IntKind} {n : Nat} {cs : List Value} {fuel : Nat} {x : DataW H × List MemPlace} (ht : P.underlying t = some (.array n e)) (he : P.underlying e = some (.int k)) (hc : P.cellsOf e = 1) (hct : P.cellsOf t = n)
    (h : DataW.trod enc P w base spare held fuel t cs = some x) : ∃ zs : List Int, cs = iv k zs ∧ x = (.agg (zs.map fun z => .lit (.int k z)), []) ∧ zs.length = n ∧ ∀ z, z ∈ zs → (Lit.int k z).wf = true := by
  obtain ⟨xs, m, rfl, rfl, hl, hx, hi⟩ := DataW.trod_array ht h
  rw [hct] at hl
  have key : ∀ i, i < n → ∃ z, cs[i]? = some (.int k z) ∧ xs[i]? = some (.lit (.int k z), []) ∧ (Lit.int k z).wf = true := by
    intro i hin
    have h1 := hi i hin
    have hcs : (cs.drop (i * P.cellsOf e)).take (P.cellsOf e) = [cs[i]] := by
      rw [hc, Nat.mul_one, List.drop_eq_getElem_cons (by omega)]
      rfl
    rw [hcs] at h1
    have hxi : xs[i]? = some xs[i] := List.getElem?_eq_getElem (by omega)
    rw [hxi] at h1
    obtain ⟨z, hz, hy, hw⟩ := trod_int1 he h1
    exact ⟨z, by rw [List.getElem?_eq_getElem (by omega), hz], by rw [hxi, hy], hw⟩
  let f : Value → Int := fun v => match v with | .int _ z => z | _ => 0
  refine ⟨cs.map f, ?_, ?_, by simp [hl], ?_⟩
  · apply List.ext_getElem?
    intro i
    by_cases hin : i < n
    · obtain ⟨z, hz, _, _⟩ := key i hin
      simp [iv, hz, f]
    · rw [List.getElem?_eq_none (by omega), List.getElem?_eq_none (by simp [iv]; omega)]
  · have e1 : xs.map (·.1) = (cs.map f).map fun z => .lit (.int k z) := by
      apply List.ext_getElem?
      intro i
      by_cases hin : i < n
      · obtain ⟨z, hz, hxz, _⟩ := key i hin
        simp [hz, hxz, f]
      · rw [List.getElem?_eq_none (by simp; omega), List.getElem?_eq_none (by simp; omega)]
    have e2 : xs.flatMap (·.2) = [] := by
      apply List.flatMap_eq_nil_iff.2
      intro y hy
      obtain ⟨i, hin, rfl⟩ := List.getElem_of_mem hy
      obtain ⟨z, _, hxz, _⟩ := key i (by omega)
      rw [List.getElem?_eq_getElem hin] at hxz
      rw [Option.some.inj hxz]
    rw [e1, e2]
  · intro z hz
    obtain ⟨v, hv, rfl⟩ := List.mem_map.1 hz
    obtain ⟨i, hin, rfl⟩ := List.getElem_of_mem hv
    obtain ⟨z, hz, _, hw⟩ := key i (by omega)
    rw [List.getElem?_eq_getElem hin] at hz
    rw [Option.some.inj hz]
    exact hw
end

/-- An array among the arguments. -/
theorem open_arr {H : Type} {enc : TypeId × Value → H} {P : Program} {w : World} {base b0 : Nat} {spare : Nat → Bool} {held : Bool} {r : Reach} {t e : TypeId} {k : IntKind} {n : Nat} {v : Value} {d : DataW H} {ps : List MemPlace}
    (ht : P.underlying t = some (.array n e)) (he : P.underlying e = some (.int k)) (hc : P.cellsOf e = 1) (hct : P.cellsOf t = n) (hval : Value.okWide P w r b0 t v) (hd : DataW.Trod enc P w base spare held t v d ps) :
    ∃ zs : List Int, v = .agg (iv k zs).toArray ∧ zs.length = n ∧ ∀ z, z ∈ zs → (Lit.int k z).wf = true := by
  unfold Value.okWide at hval
  rw [ht] at hval
  obtain ⟨cs, rfl, -, -⟩ := hval
  obtain ⟨fuel, hf⟩ := hd
  obtain ⟨zs, hz, -, hl, hw⟩ := trod_ints ht he hc hct hf
  refine ⟨zs, ?_, hl, hw⟩
  have : cs.toList = iv k zs := hz
  rw [← this]
theorem two_of {zs : List Int} (h : zs.length = 2) : ∃ n y, zs = [n, y] := by
  match zs, h with
  | [n, y], _ => exact ⟨n, y, rfl⟩
theorem byte_nat {z : Int} (h : (Lit.int .u8 z).wf = true) : ∃ n : Nat, z = (n : Int) ∧ n ≤ 255 := by
  have := bounds_u8 h
  exact ⟨z.toNat, by omega, by omega⟩
theorem byte_u8 {z : Int} (h : (Lit.int .u8 z).wf = true) : ∃ c : UInt8, z = ((c.toNat : Nat) : Int) := by
  have := bounds_u8 h
  refine ⟨UInt8.ofNat z.toNat, ?_⟩
  rw [UInt8.toNat_ofNat', Nat.mod_eq_of_lt (by omega)]
  omega
/-- The table that a row lays: the variable's block. -/
theorem tab_of_laid {P : Program} {W : World} {n : String} {g : Nat} {t e : TypeId} {k : IntKind} {N : Nat} {ks : List Int} {lay : List (String × DataW Unit)} (hn : (n, DataW.agg (ks.map fun z => .lit (.int k z))) ∈ lay)
    (hg : P.globalNamed n = some g) (hty : (P.globals[g]?).map (·.type) = some t) (ht : P.underlying t = some (.array N e)) (he : P.underlying e = some (.int k)) (hc : P.cellsOf e = 1) (hct : P.cellsOf t = N) (hN : 0 < N)
    (h : laidMet P lay W) : ∃ tK, Blk W g tK (iv k ks) := by
  obtain ⟨ps, hps, _, hfz⟩ := h
  have key : ∀ (lay : List (String × DataW Unit)) (ps : List MemPlace), (n, DataW.agg (ks.map fun z => .lit (.int k z))) ∈ lay → DataW.LaidVars P W lay ps → W.var? P n = some (iv k ks).toArray ∧ ∀ x, x ∈ MemPlace.row ⟨g, 0, none⟩ (iv k ks).length → x ∈ ps := by
    intro lay
    induction lay with
    | nil => intro ps hm; cases hm
    | cons y r ih =>
      intro ps hm hl
      obtain ⟨g', t', cs, fuel, p, q, h1, h2, h3, h4, h5, h6⟩ := hl
      rcases List.mem_cons.1 hm with hm | hm
      · subst hm
        obtain rfl := Option.some.inj (hg.symm.trans h1)
        obtain rfl := Option.some.inj (hty.symm.trans h2)
        obtain ⟨zs, hz, hx, _, _⟩ := trod_ints ht he hc hct h4
        have hinj : zs = ks := by
          have hx1 := congrArg Prod.fst hx
          simp only [DataW.agg.injEq] at hx1
          have hf : Function.Injective (fun z : Int => (DataW.lit (.int k z) : DataW Unit)) := fun a b hab => by simpa using hab
          exact (List.map_inj_right (fun a b hab => hf hab)).1 hx1.symm
        subst hinj
        have hcs : cs = (iv k zs).toArray := by rw [← hz]
        subst hcs
        exact ⟨h3, fun x hx => by rw [h6]; exact List.mem_append_left _ (List.mem_append_left _ hx)⟩
      · obtain ⟨i1, i2⟩ := ih q hm h5
        exact ⟨i1, fun x hx => by rw [h6]; exact List.mem_append_right _ (i2 x hx)⟩
  obtain ⟨hv, hin⟩ := key lay ps hn hps
  simp only [World.var?, hg, Option.bind_some] at hv
  have hlen : (iv k ks).length = ks.length := iv_len k ks
  by_cases h0 : ks = []
  · split at hv
    · rename_i cs tK fr hh
      obtain rfl := Option.some.inj hv
      exact ⟨tK, fr, hh, fun j hj => by rw [h0] at hj; simp [iv] at hj⟩
    · cases hv
  · split at hv
    · rename_i cs tK fr hh
      obtain rfl := Option.some.inj hv
      have hpos : 0 < ks.length := by cases ks with | nil => exact absurd rfl h0 | cons a b => simp
      obtain ⟨⟨c, t2, hcell⟩, _⟩ := hfz g 0 (hin _ (by simp [MemPlace.row, hlen]; exact hpos))
      rw [hh] at hcell
      obtain ⟨_, _, rfl⟩ : _ ∧ _ ∧ fr = (0, 0) := by simpa using hcell
      exact ⟨tK, (0, 0), hh, fun j hj => by simp⟩
    · cases hv

/-- Arguments read behind the call as before. -/
theorem args_stay {H : Type} {enc : TypeId × Value → H} {P : Program} {W W' : World} (hl : laidOutB P = true) (hb : Below W.heap.size W W') : ∀ (ts : List TypeId) (vs : List Value) (ds : List (DataW H)) (ps : List MemPlace),
    ts.all (fun t => P.readableRec t && decide (t < P.types.size)) = true → DataW.TrodAll enc P W 0 (fun _ => true) true ts vs ds ps →
    DataW.TrodAll enc P W' 0 (fun b => decide (b < W.heap.size)) true ts vs ds ps := by
  intro ts
  induction ts with
  | nil => intro vs ds ps _ h; cases vs <;> cases ds <;> exact h
  | cons t ts ih =>
    intro vs ds ps hall h
    simp only [List.all_cons, Bool.and_eq_true, decide_eq_true_eq] at hall
    obtain ⟨v, vs', d, ds', p, q, rfl, rfl, rfl, h1, h2⟩ := trodAll_cons h
    have hlt : ∀ x ∈ p, x.block < W.heap.size := by obtain ⟨m, hm⟩ := h1; exact DataW.trod_lt m _ _ _ hm
    exact trodAll_cons_mk (Below.trod hl hall.1.1 hall.1.2 h1 hb hlt) (ih vs' ds' q hall.2 h2)
end Go.V
/- A slice of texts among the arguments. Conditions: none. -/
set_option linter.unusedVariables false
namespace Go.V
open Go.ChangeShapes Go.WideShapes Go.RowKit
theorem add_spot {w : World} {a : Addr} {i : Nat} {v v0 : Value} (h0 : w.cell? (a.add 0) = some v0) (h : w.cell? (a.add i) = some v) : a = ⟨a.block, a.off, none⟩ ∧ w.cell? ⟨a.block, a.off + i, none⟩ = some v := by
  obtain ⟨b, o, s⟩ := a
  have hs : s = none := by
    cases s with
    | none => rfl
    | some x =>
      exfalso
      simp only [Addr.add, if_true] at h0
      unfold World.cell? at h0
      split at h0
      · simp at h0
      · simp at h0
  subst hs
  refine ⟨rfl, ?_⟩
  by_cases hi : i = 0
  · subst hi
    simpa [Addr.add] using h
  · simpa [Addr.add, hi] using h
/-- A slice of texts among the arguments. -/
theorem open_texts {H : Type} {enc : TypeId × Value → H} {P : Program} {w : World} {base b0 : Nat} {spare : Nat → Bool} {held : Bool} {r : Reach} {t e : TypeId} {v : Value} {d : DataW H} {ps : List MemPlace}
    (ht : P.underlying t = some (.slice e)) (he : P.underlying e = some .string) (hc : P.cellsOf e = 1) (hval : Value.okWide P w r b0 t v) (hd : DataW.Trod enc P w base spare held t v d ps) :
    ∃ A cap L, v = .slice A (List.length L) cap ∧ Cells w A L := by
  obtain ⟨a, len, cap, rfl⟩ := okWide_slice ht hval
  obtain ⟨fuel, hf⟩ := hd
  rcases open_strings ht he hc hf with ⟨hcs, hx⟩ | ⟨a', len', cap', ss, hcs, _, hl, hm, hz, hx, hcell, hsz⟩
  · simp [Value.cells] at hcs
    obtain ⟨rfl, rfl, rfl⟩ := hcs
    exact ⟨none, 0, [], rfl, fun i hi => by simp at hi⟩
  · simp [Value.cells] at hcs
    obtain ⟨rfl, rfl, rfl⟩ := hcs
    have hle : len ≤ ss.length := by
      rw [hz]
      split <;> omega
    refine ⟨some a', cap, (ss.take len).map (·.data.toList), by simp [hle], fun i hi => ?_⟩
    have hi' : i < len := by simpa [hle] using hi
    obtain ⟨e1, e2⟩ := add_spot (hcell 0 (by omega)) (hcell i (by omega))
    refine ⟨_, _, by rw [e1], ?_⟩
    rw [e2]
    congr 2
    have : (ss.getD i ByteArray.empty) = str (ss.getD i ByteArray.empty).data.toList := (str_eta _).symm
    rw [this]
    congr 1
    simp [List.getD, hi', show i < ss.length by omega]
end Go.V
/- A slice of bytes among the arguments. Conditions: none. -/
set_option linter.unusedVariables false
namespace Go.V
open Go.ChangeShapes Go.WideShapes Go.RowKit
/-- A slice of bytes among the arguments. -/
theorem open_bytes {H : Type} {enc : TypeId × Value → H} {P : Program} {w : World} {base b0 : Nat} {spare : Nat → Bool} {held : Bool} {r : Reach} {t e : TypeId} {v : Value} {d : DataW H} {ps : List MemPlace}
    (ht : P.underlying t = some (.slice e)) (he : P.underlying e = some (.int .u8)) (hc : P.cellsOf e = 1) (hval : Value.okWide P w r b0 t v) (hd : DataW.Trod enc P w base spare held t v d ps) :
    ∃ A cap l, v = .slice A (List.length l) cap ∧ CellsB w A l := by
  obtain ⟨a, len, cap, rfl⟩ := okWide_slice ht hval
  obtain ⟨fuel, hf⟩ := hd
  rcases open_ints ht he hc hf with ⟨hcs, hx⟩ | ⟨a', len', cap', zs, hcs, _, hl, hm, hz, hx, hcell, hwf⟩
  · simp [Value.cells] at hcs
    obtain ⟨rfl, rfl, rfl⟩ := hcs
    exact ⟨none, 0, [], rfl, fun i hi => by simp at hi⟩
  · simp [Value.cells] at hcs
    obtain ⟨rfl, rfl, rfl⟩ := hcs
    have hle : len ≤ zs.length := by
      rw [hz]
      split <;> omega
    refine ⟨some a', cap, (zs.take len).map (fun z => UInt8.ofNat z.toNat), by simp [hle], fun i hi => ?_⟩
    have hi' : i < len := by simpa [hle] using hi
    obtain ⟨e1, e2⟩ := add_spot (hcell 0 (by omega)) (hcell i (by omega))
    refine ⟨_, _, by rw [e1], ?_⟩
    rw [e2]
    congr 2
    have hw := bounds_u8 (hwf (zs.getD i 0) (by
      have : i < zs.length := by omega
      simp [List.getD, this]))
    unfold bt
    have : ((zs.take len).map (fun z => UInt8.ofNat z.toNat)).getD i 0 = UInt8.ofNat (zs.getD i 0).toNat := by
      simp [List.getD, hi', show i < zs.length by omega]
    rw [this, UInt8.toNat_ofNat', Nat.mod_eq_of_lt (by omega)]
    have e : zs[i]?.getD 0 = zs.getD i 0 := rfl
    omega
end Go.V
/- Structs among the arguments, cell by cell. Conditions: none. -/
set_option linter.unusedVariables false
namespace Go.V
open Go.ChangeShapes Go.WideShapes Go.RowKit
section
variable {H : Type} {enc : TypeId × Value → H} {P : Program} {w : World} {base b0 : Nat} {spare : Nat → Bool} {held : Bool} {r : Reach}
/-- A struct among the arguments: its cells, and how each field reads. -/
theorem open_struct {t n : TypeId} {v : Value} {d : DataW H} {ps : List MemPlace} {fs : List Field} (ht : P.underlying t = some (.struct fs.toArray)) (hct : P.cellsOf t = n) (hval : Value.okWide P w r b0 t v) (hd : DataW.Trod enc P w base spare held t v d ps) :
    ∃ (cs : List Value) (k : Nat) (xs : List (DataW H × List MemPlace)), v = .agg cs.toArray ∧ cs.length = n ∧ ∀ (i : Nat) (f : Field), fs[i]? = some f → P.cellsOf f.type = 1 → f.offset < n → ∃ c x, cs[f.offset]? = some c ∧ DataW.trod enc P w base spare held k f.type [c] = some x := by
  obtain ⟨cs, rfl, hsz⟩ := okWide_struct ht hval
  obtain ⟨fuel, hf⟩ := hd
  obtain ⟨xs, k, -, -, hl, hxl, hx⟩ := DataW.trod_struct ht hf
  have hl' : cs.toList.length = n := hl.trans hct
  refine ⟨cs.toList, k, xs, by simp, hl', fun i f hi hc ho => ?_⟩
  have h1 := hx i f (by simpa using hi)
  have hlt : i < xs.length := by
    rw [hxl]
    have := (List.getElem?_eq_some_iff.1 hi).1
    simpa using this
  have h2 : ((Value.agg cs).cells.toList.drop f.offset).take (P.cellsOf f.type) = [cs.toList[f.offset]] := by
    show (cs.toList.drop f.offset).take (P.cellsOf f.type) = _
    rw [hc, List.drop_eq_getElem_cons (by omega)]
    rfl
  rw [h2, List.getElem?_eq_getElem hlt] at h1
  exact ⟨_, _, List.getElem?_eq_getElem (by omega), h1⟩
theorem trod_str1 {t : TypeId} {c : Value} {k : Nat} {x : DataW H × List MemPlace} (ht : P.underlying t = some .string) (h : DataW.trod enc P w base spare held k t [c] = some x) : ∃ l : List UInt8, c = .string (str l) ∧ l.length ≤ maxLen := by
  obtain ⟨s, hs, -, hl⟩ := DataW.trod_string ht h
  obtain rfl : c = .string s := by simpa using hs
  exact ⟨s.data.toList, by rw [← str_eta s]; rfl, hl⟩
theorem trod_i64 {t : TypeId} {c : Value} {k : Nat} {x : DataW H × List MemPlace} (ht : P.underlying t = some (.int .i64)) (h : DataW.trod enc P w base spare held k t [c] = some x) : ∃ z : Int, c = .int .i64 z ∧ -9223372036854775808 ≤ z ∧ z ≤ 9223372036854775807 := by
  obtain ⟨z, rfl, -, hw⟩ := trod_int1 ht h
  exact ⟨z, rfl, bounds_i64 hw⟩
theorem trod_u16 {t : TypeId} {c : Value} {k : Nat} {x : DataW H × List MemPlace} (ht : P.underlying t = some (.int .u16)) (h : DataW.trod enc P w base spare held k t [c] = some x) : ∃ n : Nat, c = .int .u16 (n : Int) ∧ n ≤ 65535 := by
  obtain ⟨z, rfl, -, hw⟩ := trod_int1 ht h
  have := bounds_u16 hw
  exact ⟨z.toNat, by rw [show ((z.toNat : Nat) : Int) = z by omega], by omega⟩
theorem trod_texts {t e : TypeId} {c : Value} {k : Nat} {x : DataW H × List MemPlace} (ht : P.underlying t = some (.slice e)) (he : P.underlying e = some .string) (hc : P.cellsOf e = 1) (h : DataW.trod enc P w base spare held k t [c] = some x) :
    ∃ A cap L, c = .slice A (List.length L) cap ∧ Cells w A L := by
  rcases open_strings ht he hc h with ⟨hcs, hx⟩ | ⟨a', len', cap', ss, hcs, _, hl, hm, hz, hx, hcell, hsz⟩
  · obtain rfl : c = .slice none 0 0 := by simpa using hcs
    exact ⟨none, 0, [], rfl, fun i hi => by simp at hi⟩
  · obtain rfl : c = .slice (some a') len' cap' := by simpa using hcs
    have hle : len' ≤ ss.length := by
      rw [hz]
      split <;> omega
    refine ⟨some a', cap', (ss.take len').map (·.data.toList), by simp [hle], fun i hi => ?_⟩
    have hi' : i < len' := by simpa [hle] using hi
    obtain ⟨e1, e2⟩ := add_spot (hcell 0 (by omega)) (hcell i (by omega))
    refine ⟨_, _, by rw [e1], ?_⟩
    rw [e2]
    congr 2
    have : (ss.getD i ByteArray.empty) = str (ss.getD i ByteArray.empty).data.toList := (str_eta _).symm
    rw [this]
    congr 1
    simp [List.getD, hi', show i < ss.length by omega]
/-- The cells of a slice of numbers, as far as it goes. -/
theorem trod_numbers {t e : TypeId} {kk : IntKind} {c : Value} {k : Nat} {x : DataW H × List MemPlace} (ht : P.underlying t = some (.slice e)) (he : P.underlying e = some (.int kk)) (hc : P.cellsOf e = 1) (h : DataW.trod enc P w base spare held k t [c] = some x) :
    ∃ A cap l, c = .slice A (List.length l) cap ∧ CellsI w kk A l ∧ ∀ z, z ∈ l → (Lit.int kk z).wf = true := by
  rcases open_ints ht he hc h with ⟨hcs, hx⟩ | ⟨a', len', cap', zs, hcs, _, hl, hm, hz, hx, hcell, hwf⟩
  · obtain rfl : c = .slice none 0 0 := by simpa using hcs
    exact ⟨none, 0, [], rfl, fun i hi => by simp at hi, fun z hz => by simp at hz⟩
  · obtain rfl : c = .slice (some a') len' cap' := by simpa using hcs
    have hle : len' ≤ zs.length := by
      rw [hz]
      split <;> omega
    refine ⟨some a', cap', zs.take len', by simp [hle], fun i hi => ?_, fun z hz => hwf z (List.mem_of_mem_take hz)⟩
    have hi' : i < len' := by simpa [hle] using hi
    obtain ⟨e1, e2⟩ := add_spot (hcell 0 (by omega)) (hcell i (by omega))
    refine ⟨_, _, by rw [e1], ?_⟩
    rw [e2]
    congr 2
    simp [List.getD, hi', show i < zs.length by omega]
end
theorem four_of {cs : List Value} (h : cs.length = 4) {a b c d : Value} (h0 : cs[0]? = some a) (h1 : cs[1]? = some b) (h2 : cs[2]? = some c) (h3 : cs[3]? = some d) : cs = [a, b, c, d] := by
  match cs, h with
  | [x, y, z, u], _ =>
    simp at h0 h1 h2 h3
    simp [h0, h1, h2, h3]
theorem trod_bytes {H : Type} {enc : TypeId × Value → H} {P : Program} {w : World} {base : Nat} {spare : Nat → Bool} {held : Bool} {t e : TypeId} {c : Value} {k : Nat} {x : DataW H × List MemPlace} (ht : P.underlying t = some (.slice e)) (he : P.underlying e = some (.int .u8)) (hc : P.cellsOf e = 1) (h : DataW.trod enc P w base spare held k t [c] = some x) :
    ∃ A cap l, c = .slice A (List.length l) cap ∧ CellsB w A l := by
  obtain ⟨A, cap, l, rfl, hl, hw⟩ := trod_numbers ht he hc h
  refine ⟨A, cap, l.map (fun z => UInt8.ofNat z.toNat), by simp, fun i hi => ?_⟩
  have hi' : i < l.length := by simpa using hi
  obtain ⟨g, o, e1, e2⟩ := hl i hi'
  refine ⟨g, o, e1, ?_⟩
  rw [e2]
  congr 2
  have hb := bounds_u8 (hw (l.getD i 0) (by simp [List.getD, hi']))
  unfold bt
  have : (l.map (fun z => UInt8.ofNat z.toNat)).getD i 0 = UInt8.ofNat (l.getD i 0).toNat := by simp [List.getD, hi']
  rw [this, UInt8.toNat_ofNat', Nat.mod_eq_of_lt (by omega)]
  omega
theorem eight_of {cs : List Value} (h : cs.length = 8) {a b c d e f g i : Value} (h0 : cs[0]? = some a) (h1 : cs[1]? = some b) (h2 : cs[2]? = some c) (h3 : cs[3]? = some d) (h4 : cs[4]? = some e) (h5 : cs[5]? = some f) (h6 : cs[6]? = some g) (h7 : cs[7]? = some i) : cs = [a, b, c, d, e, f, g, i] := by
  match cs, h with
  | [x0, x1, x2, x3, x4, x5, x6, x7], _ =>
    simp at h0 h1 h2 h3 h4 h5 h6 h7
    simp [h0, h1, h2, h3, h4, h5, h6, h7]
end Go.V
/- Slices of operations, and of numbers, among the arguments. Conditions: none. -/
set_option linter.unusedVariables false
namespace Go.V
open Go.ChangeShapes Go.WideShapes Go.RowKit
section
variable {H : Type} {enc : TypeId × Value → H} {P : Program} {w : World} {base b0 : Nat} {spare : Nat → Bool} {held : Bool} {r : Reach}
theorem plain_of {a : Addr} {v : Value} (h : w.cell? a = some v) : a = ⟨a.block, a.off, none⟩ := by
  obtain ⟨b, o, s⟩ := a
  cases s with
  | none => rfl
  | some x =>
    exfalso
    unfold World.cell? at h
    split at h
    · simp at h
    · simp at h
theorem trod_op {e : TypeId} {f0 f1 f2 f3 : Field} {t3 : TypeId} {cs : List Value} {k : Nat} {x : DataW H × List MemPlace} (he : P.underlying e = some (.struct #[f0, f1, f2, f3]))
    (h0 : P.underlying f0.type = some (.int .u8)) (h1 : P.underlying f1.type = some (.int .u16)) (h2 : P.underlying f2.type = some (.int .u8)) (h3 : P.underlying f3.type = some (.slice t3))
    (c0 : P.cellsOf f0.type = 1) (c1 : P.cellsOf f1.type = 1) (c2 : P.cellsOf f2.type = 1) (c3 : P.cellsOf f3.type = 1) (o0 : f0.offset = 0) (o1 : f1.offset = 1) (o2 : f2.offset = 2) (o3 : f3.offset = 3) (hl : cs.length = 4)
    (h : DataW.trod enc P w base spare held k e cs = some x) : ∃ o : Opr, cs = o.cells ∧ o.k ≤ 255 ∧ o.N ≤ 65535 ∧ o.B ≤ 255 := by
  match cs, hl with
  | [a, b, c, d], _ =>
    obtain ⟨xs, n, _, _, _, hxl, hx⟩ := DataW.trod_struct he h
    have e0 := hx 0 f0 rfl
    have e1 := hx 1 f1 rfl
    have e2 := hx 2 f2 rfl
    have e3 := hx 3 f3 rfl
    have hxl4 : xs.length = 4 := by simpa using hxl
    rw [o0, c0, List.getElem?_eq_getElem (by omega)] at e0
    rw [o1, c1, List.getElem?_eq_getElem (by omega)] at e1
    rw [o2, c2, List.getElem?_eq_getElem (by omega)] at e2
    rw [o3, c3, List.getElem?_eq_getElem (by omega)] at e3
    simp only [List.drop_zero, List.drop_succ_cons, List.take_succ_cons, List.take_zero, List.take_nil] at e0 e1 e2 e3
    obtain ⟨z0, rfl, _, w0⟩ := trod_int1 h0 e0
    obtain ⟨z1, rfl, _, w1⟩ := trod_int1 h1 e1
    obtain ⟨z2, rfl, _, w2⟩ := trod_int1 h2 e2
    have b0 := bounds_u8 w0
    have b1 := bounds_u16 w1
    have b2 := bounds_u8 w2
    have hd : ∃ X m c, d = .slice X m c := by
      rcases DataW.trod_slice h3 e3 with ⟨hcs, _⟩ | ⟨a, len, cap, _, _, _, _, hcs, _⟩
      · exact ⟨none, 0, 0, by simpa using hcs⟩
      · exact ⟨some a, len, cap, by simpa using hcs⟩
    obtain ⟨X, m, c, rfl⟩ := hd
    refine ⟨⟨z0.toNat, z1.toNat, z2.toNat, X, m, c⟩, ?_, by simp only []; omega, by simp only []; omega, by simp only []; omega⟩
    simp only [Opr.cells]
    rw [show ((z0.toNat : Nat) : Int) = z0 by omega, show ((z1.toNat : Nat) : Int) = z1 by omega, show ((z2.toNat : Nat) : Int) = z2 by omega]
/-- A slice of operations among the arguments. -/
theorem open_ops {t e : TypeId} {f0 f1 f2 f3 : Field} {t3 : TypeId} {v : Value} {d : DataW H} {ps : List MemPlace} (ht : P.underlying t = some (.slice e)) (he : P.underlying e = some (.struct #[f0, f1, f2, f3])) (hc : P.cellsOf e = 4)
    (h0 : P.underlying f0.type = some (.int .u8)) (h1 : P.underlying f1.type = some (.int .u16)) (h2 : P.underlying f2.type = some (.int .u8)) (h3 : P.underlying f3.type = some (.slice t3))
    (c0 : P.cellsOf f0.type = 1) (c1 : P.cellsOf f1.type = 1) (c2 : P.cellsOf f2.type = 1) (c3 : P.cellsOf f3.type = 1) (o0 : f0.offset = 0) (o1 : f1.offset = 1) (o2 : f2.offset = 2) (o3 : f3.offset = 3)
    (hval : Value.okWide P w r b0 t v) (hd : DataW.Trod enc P w base spare held t v d ps) :
    ∃ A cap L, v = .slice A (List.length L) cap ∧ CellsOp w A L ∧ (∀ o ∈ L, o.k ≤ 255 ∧ o.N ≤ 65535 ∧ o.B ≤ 255) ∧ L.length ≤ maxLen := by
  obtain ⟨a, len, cap, rfl⟩ := okWide_slice ht hval
  obtain ⟨fuel, hf⟩ := hd
  rcases DataW.trod_slice ht hf with ⟨hcs, _⟩ | ⟨a', len', cap', elems, rest, n, _, hcs, _, _, hl, hm, hlen, hel, _, _⟩
  · simp [Value.cells] at hcs
    obtain ⟨rfl, rfl, rfl⟩ := hcs
    exact ⟨none, 0, [], rfl, fun i hi => by simp at hi, fun o ho => by simp at ho, by simp⟩
  · simp [Value.cells] at hcs
    obtain ⟨rfl, rfl, rfl⟩ := hcs
    have key : ∀ i, i < len → ∃ o : Opr, (o.k ≤ 255 ∧ o.N ≤ 65535 ∧ o.B ≤ 255) ∧ ∀ j, j < 4 → w.cell? ((a'.add (i * 4)).add j) = o.cells[j]? := by
      intro i hi
      have h1' := hel i hi
      rw [hc, List.getElem?_eq_getElem (by omega), Option.bind_eq_some_iff] at h1'
      obtain ⟨cs, hcs, hy⟩ := h1'
      obtain ⟨_, hcl, hcell⟩ := World.cells?_some hcs
      obtain ⟨o, rfl, hb⟩ := trod_op he h0 h1 h2 h3 c0 c1 c2 c3 o0 o1 o2 o3 hcl hy
      exact ⟨o, hb, hcell⟩
    have hplain : 0 < len → a' = ⟨a'.block, a'.off, none⟩ := fun hp => by
      obtain ⟨o, _, hcell⟩ := key 0 hp
      have h4 := hcell 0 (by omega)
      have h5 : (a'.add (0 * 4)).add 0 = a' := by simp [Addr.add]
      rw [h5] at h4
      exact plain_of (v := .int .u8 (o.k : Int)) h4
    let f : Nat → Opr := fun i => if h : i < len then (key i h).choose else Opr.zero
    have hfi : ∀ i (h : i < len), f i = (key i h).choose := fun i h => by simp only [f]; rw [dif_pos h]
    refine ⟨some a', cap, (List.range len).map f, by simp, fun i hi => ?_, fun o ho => ?_, by simp; omega⟩
    · have hi' : i < len := by simpa using hi
      refine ⟨a'.block, a'.off, by rw [← hplain (by omega)], fun j v hv => ?_⟩
      have hg : ((List.range len).map f).getD i Opr.zero = f i := by simp [List.getD_eq_getElem?_getD, hi']
      rw [hg, hfi i hi'] at hv
      have h6 := (key i hi').choose_spec.2 j (by
        have := (List.getElem?_eq_some_iff.1 hv).1
        simpa [Opr.cells] using this)
      rw [hv, hplain (by omega), Addr.add_mid, Addr.add_mid, Nat.mul_comm i 4] at h6
      exact h6
    · obtain ⟨i, hi, rfl⟩ := List.mem_map.1 ho
      have hi' : i < len := by simpa using hi
      rw [hfi i hi']
      exact (key i hi').choose_spec.1
/-- A slice of numbers among the arguments. -/
theorem open_numbers {t e : TypeId} {kk : IntKind} {v : Value} {d : DataW H} {ps : List MemPlace} (ht : P.underlying t = some (.slice e)) (he : P.underlying e = some (.int kk)) (hc : P.cellsOf e = 1) (hval : Value.okWide P w r b0 t v) (hd : DataW.Trod enc P w base spare held t v d ps) :
    ∃ A cap l, v = .slice A (List.length l) cap ∧ CellsI w kk A l ∧ (∀ z, z ∈ l → (Lit.int kk z).wf = true) ∧ l.length ≤ maxLen := by
  obtain ⟨a, len, cap, rfl⟩ := okWide_slice ht hval
  obtain ⟨fuel, hf⟩ := hd
  have hlen : len ≤ maxLen := by
    rcases DataW.trod_slice ht hf with ⟨hcs, _⟩ | ⟨a', len', cap', elems, rest, n, _, hcs, _, _, hl, hm, _⟩
    · simp [Value.cells] at hcs; rw [hcs.2.1]; simp
    · simp [Value.cells] at hcs; rw [hcs.2.1]; omega
  obtain ⟨A, cap', l, he', h1, h2⟩ := trod_numbers ht he hc hf
  simp only [Value.slice.injEq] at he'
  obtain ⟨rfl, rfl, rfl⟩ := he'
  exact ⟨a, cap, l, rfl, h1, h2, hlen⟩
end
end Go.V
/- What the rows lay, and a world in which it lies. -/
set_option linter.unusedVariables false
namespace Go.Proofs.YtcologcjhenmkaaDoor
open Go Go.V Go.Sha Go.Frm
open Go.ChangeShapes Go.WideShapes Go.RowKit
open Go.ChangeMaps (open_string shut_string)
theorem own : ownKnob Tryd.prog.godebug = none := by kernel_rfl
theorem laidOut : laidOutB Tryd.prog = true := by kernel_rfl
theorem globK : Tryd.prog.globalNamed "replevin/sha256.constants" = some 1 := by kernel_rfl
theorem globKt : (Tryd.prog.globals[1]?).map (·.type) = some 151 := by kernel_rfl
theorem globF : Tryd.prog.globalNamed "replevin/frame.fields" = some 0 := by kernel_rfl
theorem globFt : (Tryd.prog.globals[0]?).map (·.type) = some 114 := by kernel_rfl
theorem cells151 : Tryd.prog.cellsOf 151 = 64 := by kernel_rfl
theorem cells142 : Tryd.prog.cellsOf 142 = 1 := by kernel_rfl
theorem cells114 : Tryd.prog.cellsOf 114 = 4 := by kernel_rfl
theorem cells3 : Tryd.prog.cellsOf 3 = 1 := by kernel_rfl
/-- What the rows' tables give a walk. -/
theorem tabK {W : World} (h : laidMet Tryd.prog [("replevin/sha256.constants", Rows.laid_replevin_sha256_constants), ("replevin/frame.fields", Rows.laid_replevin_frame_fields)] W) : ∃ tK, Blk W 1 tK (iv .u32 K) :=
  tab_of_laid (List.mem_cons_self) globK globKt Tryd.underlying151 Tryd.underlying142 cells142 cells151 (by decide) h
theorem tabF {W : World} (h : laidMet Tryd.prog [("replevin/sha256.constants", Rows.laid_replevin_sha256_constants), ("replevin/frame.fields", Rows.laid_replevin_frame_fields)] W) : ∃ tF, Blk W 0 tF (iv .i64 fldL) :=
  tab_of_laid (List.mem_cons_of_mem _ (List.mem_singleton.2 rfl)) globF globFt Tryd.underlying114 Tryd.underlying3 cells3 cells114 (by decide) h
def relay (cs : List Value) : Obj → Obj
  | .cells _ t frozen => .cells cs.toArray t frozen
  | o => o
/-- A world in which the tables lie. -/
noncomputable def laidWorld (os : Os) : World :=
  { World.holding Tryd.prog os ⟨#[], #[], []⟩ with heap := ((World.holding Tryd.prog os ⟨#[], #[], []⟩).heap.modify 1 (relay (iv .u32 K))).modify 0 (relay (iv .i64 fldL)) }
theorem laidWorld_rowK (os : Os) (args : Array Value) : ((laidWorld os).forCall (fun _ _ => 0) ⟨#[], args, []⟩).memory.heap[1]? = some (.cells (iv .u32 K).toArray 151 (0, 0)) := by kernel_rfl
theorem laidWorld_rowF (os : Os) (args : Array Value) : ((laidWorld os).forCall (fun _ _ => 0) ⟨#[], args, []⟩).memory.heap[0]? = some (.cells (iv .i64 fldL).toArray 114 (0, 0)) := by kernel_rfl
theorem no_iface {k : IntKind} {l : List Int} {off : Nat} {u : TypeId} {v : Value} (h : (iv k l).toArray[off]? = some (.iface u v)) : False := by
  have hm : Value.iface u v ∈ iv k l := List.mem_of_getElem? (by simpa using h)
  simp [iv] at hm
set_option maxRecDepth 100000 in
theorem laidWorld_met (os : Os) (args : Array Value) : laidMet Tryd.prog [("replevin/sha256.constants", Rows.laid_replevin_sha256_constants), ("replevin/frame.fields", Rows.laid_replevin_frame_fields)] ((laidWorld os).forCall (fun _ _ => 0) ⟨#[], args, []⟩).memory := by
  refine ⟨_, ⟨1, 151, (iv .u32 K).toArray, 8, [], _, globK, globKt, ?_, by kernel_rfl, ⟨0, 114, (iv .i64 fldL).toArray, 8, [], [], globF, globFt, ?_, by kernel_rfl, rfl, rfl⟩, rfl⟩, by decide +kernel, fun b off h => ?_⟩
  · simp only [World.var?, globK, Option.bind_some, laidWorld_rowK]
  · simp only [World.var?, globF, Option.bind_some, laidWorld_rowF]
  · have hb : b = 1 ∨ b = 0 := by
      simp only [List.append_nil, MemPlace.row, List.mem_append, List.mem_map] at h
      rcases h with ⟨i, _, hi⟩ | ⟨i, _, hi⟩
      · injection hi with h1 h2
        exact .inl h1.symm
      · injection hi with h1 h2
        exact .inr h1.symm
    rcases hb with rfl | rfl
    · refine ⟨⟨_, _, laidWorld_rowK os args⟩, fun u v hc => ?_⟩
      simp only [World.cell?, laidWorld_rowK os args] at hc
      exact absurd (by simpa using hc) (fun hc => (no_iface hc).elim)
    · refine ⟨⟨_, _, laidWorld_rowF os args⟩, fun u v hc => ?_⟩
      simp only [World.cell?, laidWorld_rowF os args] at hc
      exact absurd (by simpa using hc) (fun hc => (no_iface hc).elim)

def Tryd.opField0 : Field := { name := "Kind", type := 5, offset := 0, embedded := false, tag := "", pkgPath := "", byteOffset := 0 }
def Tryd.opField1 : Field := { name := "N", type := 33, offset := 1, embedded := false, tag := "", pkgPath := "", byteOffset := 2 }
def Tryd.opField2 : Field := { name := "B", type := 5, offset := 2, embedded := false, tag := "", pkgPath := "", byteOffset := 4 }
def Tryd.opField3 : Field := { name := "Choices", type := 34, offset := 3, embedded := false, tag := "", pkgPath := "", byteOffset := 8 }
section
variable {H : Type} {enc : TypeId × Value → H} {w : World} {base b0 : Nat} {spare : Nat → Bool} {held : Bool} {r : Reach}
set_option maxRecDepth 100000 in
theorem arg_ops {v : Value} {d : DataW H} {ps : List MemPlace} (hval : Value.okWide Tryd.prog w r b0 22 v) (hd : DataW.Trod enc Tryd.prog w base spare held 22 v d ps) : ∃ A cap L, v = .slice A (List.length L) cap ∧ CellsOp w A L ∧ (∀ o ∈ L, o.k ≤ 255 ∧ o.N ≤ 65535 ∧ o.B ≤ 255) ∧ L.length ≤ 9223372036854775807 := by
  obtain ⟨A, cap, L, h1, h2, h3, h4⟩ := open_ops (f0 := Tryd.opField0) (f1 := Tryd.opField1) (f2 := Tryd.opField2) (f3 := Tryd.opField3) Tryd.underlying22 (by kernel_rfl) (by kernel_rfl) Tryd.underlying5 Tryd.underlying33 Tryd.underlying5 Tryd.underlying34 (by kernel_rfl) (by kernel_rfl) (by kernel_rfl) (by kernel_rfl) rfl rfl rfl rfl hval hd
  exact ⟨A, cap, L, h1, h2, h3, Nat.le_trans h4 (Nat.le_of_eq rfl)⟩
set_option maxRecDepth 100000 in
theorem arg_u16s {v : Value} {d : DataW H} {ps : List MemPlace} (hval : Value.okWide Tryd.prog w r b0 23 v) (hd : DataW.Trod enc Tryd.prog w base spare held 23 v d ps) : ∃ A cap l, v = .slice A (List.length l) cap ∧ CellsI w .u16 A l ∧ (∀ z, z ∈ l → 0 ≤ z ∧ z ≤ 65535) ∧ l.length ≤ 9223372036854775807 := by
  obtain ⟨A, cap, l, h1, h2, h3, h4⟩ := open_numbers Tryd.underlying23 Tryd.underlying33 (by kernel_rfl) hval hd
  exact ⟨A, cap, l, h1, h2, fun z hz => bounds_u16 (h3 z hz), Nat.le_trans h4 (Nat.le_of_eq rfl)⟩
end
end Go.Proofs.YtcologcjhenmkaaDoor
