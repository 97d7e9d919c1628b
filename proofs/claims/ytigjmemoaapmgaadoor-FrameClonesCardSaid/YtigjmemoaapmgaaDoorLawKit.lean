/- From a law's row to a walk: the table that a row lays, and arguments that read behind the call as before. Conditions: none. -/
import Derived.Test.YtigjmemoaapmgaaDoorEng2
import GoSem.Claim
import GoSem.ClaimJoined
import Derived.JoinedTies
import Derived.KernelRfl
import Derived.OpenShut
import Derived.ShutString
import Derived.ChangeSame
import Derived.ChangeVars
import Derived.ChangeOld
import Derived.JoinedOf
import Derived.RowKit
import Derived.LaidLaws
import Derived.Below
set_option linter.unusedVariables false
namespace Go.V
open Go.ChangeShapes Go.WideShapes Go.RowKit

section
variable {H : Type} {enc : TypeId × Value → H} {P : Program} {w : World} {base : Nat} {spare : Nat → Bool} {held : Bool}
theorem trod_int1 {t : TypeId} {k : IntKind} {c : Value} {fuel : Nat} {y : DataW H × List MemPlace} (ht : P.underlying t = some (.int k)) (h : DataW.trod enc P w base spare held fuel t [c] = some y) :
    ∃ n, c = .int k n ∧ y = (.lit (.int k n), []) ∧ (Lit.int k n).wf = true := by
  cases fuel with
  | zero => simp [DataW.trod] at h
  | succ fuel =>
    cases c <;> simp [DataW.trod, ht] at h
    rename_i k' n
    obtain ⟨⟨rfl, hw⟩, rfl⟩ := h
    exact ⟨n, rfl, rfl, hw⟩
/-- An array of numbers: its cells. -/
theorem trod_ints {t e : TypeId} {k : IntKind} {n : Nat} {cs : List Value} {fuel : Nat} {x : DataW H × List MemPlace} (ht : P.underlying t = some (.array n e)) (he : P.underlying e = some (.int k)) (hc : P.cellsOf e = 1) (hct : P.cellsOf t = n)
    (h : DataW.trod enc P w base spare held fuel t cs = some x) : ∃ zs : List Int, cs = iv k zs ∧ x = (.agg (zs.map fun z => .lit (.int k z)), []) ∧ zs.length = n ∧ ∀ z, z ∈ zs → (Lit.int k z).wf = true := by
  obtain ⟨xs, m, rfl, rfl, hl, hx, hi⟩ := DataW.trod_array ht h
  rw [hct] at hl
  have key : ∀ i, i < n → ∃ z, cs[i]? = some (.int k z) ∧ xs[i]? = some (.lit (.int k z), []) ∧ (Lit.int k z).wf = true := by
    intro i hin
    have h1 := hi i hin
    have hcs : (cs.drop (i * P.cellsOf e)).take (P.cellsOf e) = [cs[i]] := by
      rw [hc, Nat.mul_one, List.drop_eq_getElem_cons (by omega)]
      rfl
    rw [hcs] at h1
    have hxi : xs[i]? = some xs[i] := List.getElem?_eq_getElem (by omega)
    rw [hxi] at h1
    obtain ⟨z, hz, hy, hw⟩ := trod_int1 he h1
    exact ⟨z, by rw [List.getElem?_eq_getElem (by omega), hz], by rw [hxi, hy], hw⟩
  let f : Value → Int := fun v => match v with | .int _ z => z | _ => 0
  refine ⟨cs.map f, ?_, ?_, by simp [hl], ?_⟩
  · apply List.ext_getElem?
    intro i
    by_cases hin : i < n
    · obtain ⟨z, hz, _, _⟩ := key i hin
      simp [iv, hz, f]
    · rw [List.getElem?_eq_none (by omega), List.getElem?_eq_none (by simp [iv]; omega)]
  · have e1 : xs.map (·.1) = (cs.map f).map fun z => .lit (.int k z) := by
      apply List.ext_getElem?
      intro i
      by_cases hin : i < n
      · obtain ⟨z, hz, hxz, _⟩ := key i hin
        simp [hz, hxz, f]
      · rw [List.getElem?_eq_none (by simp; omega), List.getElem?_eq_none (by simp; omega)]
    have e2 : xs.flatMap (·.2) = [] := by
      apply List.flatMap_eq_nil_iff.2
      intro y hy
      obtain ⟨i, hin, rfl⟩ := List.getElem_of_mem hy
      obtain ⟨z, _, hxz, _⟩ := key i (by omega)
      rw [List.getElem?_eq_getElem hin] at hxz
      rw [Option.some.inj hxz]
    rw [e1, e2]
  · intro z hz
    obtain ⟨v, hv, rfl⟩ := List.mem_map.1 hz
    obtain ⟨i, hin, rfl⟩ := List.getElem_of_mem hv
    obtain ⟨z, hz, _, hw⟩ := key i (by omega)
    rw [List.getElem?_eq_getElem hin] at hz
    rw [Option.some.inj hz]
    exact hw
end

/-- An array among the arguments. -/
theorem open_arr {H : Type} {enc : TypeId × Value → H} {P : Program} {w : World} {base b0 : Nat} {spare : Nat → Bool} {held : Bool} {r : Reach} {t e : TypeId} {k : IntKind} {n : Nat} {v : Value} {d : DataW H} {ps : List MemPlace}
    (ht : P.underlying t = some (.array n e)) (he : P.underlying e = some (.int k)) (hc : P.cellsOf e = 1) (hct : P.cellsOf t = n) (hval : Value.okWide P w r b0 t v) (hd : DataW.Trod enc P w base spare held t v d ps) :
    ∃ zs : List Int, v = .agg (iv k zs).toArray ∧ zs.length = n ∧ ∀ z, z ∈ zs → (Lit.int k z).wf = true := by
  unfold Value.okWide at hval
  rw [ht] at hval
  obtain ⟨cs, rfl, -, -⟩ := hval
  obtain ⟨fuel, hf⟩ := hd
  obtain ⟨zs, hz, -, hl, hw⟩ := trod_ints ht he hc hct hf
  refine ⟨zs, ?_, hl, hw⟩
  have : cs.toList = iv k zs := hz
  rw [← this]
theorem two_of {zs : List Int} (h : zs.length = 2) : ∃ n y, zs = [n, y] := by
  match zs, h with
  | [n, y], _ => exact ⟨n, y, rfl⟩
theorem byte_nat {z : Int} (h : (Lit.int .u8 z).wf = true) : ∃ n : Nat, z = (n : Int) ∧ n ≤ 255 := by
  have := bounds_u8 h
  exact ⟨z.toNat, by omega, by omega⟩
theorem byte_u8 {z : Int} (h : (Lit.int .u8 z).wf = true) : ∃ c : UInt8, z = ((c.toNat : Nat) : Int) := by
  have := bounds_u8 h
  refine ⟨UInt8.ofNat z.toNat, ?_⟩
  rw [UInt8.toNat_ofNat', Nat.mod_eq_of_lt (by omega)]
  omega
/-- The table that a row lays: the variable's block. -/
theorem tab_of_laid {P : Program} {W : World} {n : String} {g : Nat} {t e : TypeId} {k : IntKind} {N : Nat} {ks : List Int} {lay : List (String × DataW Unit)} (hn : (n, DataW.agg (ks.map fun z => .lit (.int k z))) ∈ lay)
    (hg : P.globalNamed n = some g) (hty : (P.globals[g]?).map (·.type) = some t) (ht : P.underlying t = some (.array N e)) (he : P.underlying e = some (.int k)) (hc : P.cellsOf e = 1) (hct : P.cellsOf t = N) (hN : 0 < N)
    (h : laidMet P lay W) : ∃ tK, Blk W g tK (iv k ks) := by
  obtain ⟨ps, hps, _, hfz⟩ := h
  have key : ∀ (lay : List (String × DataW Unit)) (ps : List MemPlace), (n, DataW.agg (ks.map fun z => .lit (.int k z))) ∈ lay → DataW.LaidVars P W lay ps → W.var? P n = some (iv k ks).toArray ∧ ∀ x, x ∈ MemPlace.row ⟨g, 0, none⟩ (iv k ks).length → x ∈ ps := by
    intro lay
    induction lay with
    | nil => intro ps hm; cases hm
    | cons y r ih =>
      intro ps hm hl
      obtain ⟨g', t', cs, fuel, p, q, h1, h2, h3, h4, h5, h6⟩ := hl
      rcases List.mem_cons.1 hm with hm | hm
      · subst hm
        obtain rfl := Option.some.inj (hg.symm.trans h1)
        obtain rfl := Option.some.inj (hty.symm.trans h2)
        obtain ⟨zs, hz, hx, _, _⟩ := trod_ints ht he hc hct h4
        have hinj : zs = ks := by
          have hx1 := congrArg Prod.fst hx
          simp only [DataW.agg.injEq] at hx1
          have hf : Function.Injective (fun z : Int => (DataW.lit (.int k z) : DataW Unit)) := fun a b hab => by simpa using hab
          exact (List.map_inj_right (fun a b hab => hf hab)).1 hx1.symm
        subst hinj
        have hcs : cs = (iv k zs).toArray := by rw [← hz]
        subst hcs
        exact ⟨h3, fun x hx => by rw [h6]; exact List.mem_append_left _ (List.mem_append_left _ hx)⟩
      · obtain ⟨i1, i2⟩ := ih q hm h5
        exact ⟨i1, fun x hx => by rw [h6]; exact List.mem_append_right _ (i2 x hx)⟩
  obtain ⟨hv, hin⟩ := key lay ps hn hps
  simp only [World.var?, hg, Option.bind_some] at hv
  have hlen : (iv k ks).length = ks.length := iv_len k ks
  by_cases h0 : ks = []
  · split at hv
    · rename_i cs tK fr hh
      obtain rfl := Option.some.inj hv
      exact ⟨tK, fr, hh, fun j hj => by rw [h0] at hj; simp [iv] at hj⟩
    · cases hv
  · split at hv
    · rename_i cs tK fr hh
      obtain rfl := Option.some.inj hv
      have hpos : 0 < ks.length := by cases ks with | nil => exact absurd rfl h0 | cons a b => simp
      obtain ⟨⟨c, t2, hcell⟩, _⟩ := hfz g 0 (hin _ (by simp [MemPlace.row, hlen]; exact hpos))
      rw [hh] at hcell
      obtain ⟨_, _, rfl⟩ : _ ∧ _ ∧ fr = (0, 0) := by simpa using hcell
      exact ⟨tK, (0, 0), hh, fun j hj => by simp⟩
    · cases hv

/-- Arguments read behind the call as before. -/
theorem args_stay {H : Type} {enc : TypeId × Value → H} {P : Program} {W W' : World} (hl : laidOutB P = true) (hb : Below W.heap.size W W') : ∀ (ts : List TypeId) (vs : List Value) (ds : List (DataW H)) (ps : List MemPlace),
    ts.all (fun t => P.readableRec t && decide (t < P.types.size)) = true → DataW.TrodAll enc P W 0 (fun _ => true) true ts vs ds ps →
    DataW.TrodAll enc P W' 0 (fun b => decide (b < W.heap.size)) true ts vs ds ps := by
  intro ts
  induction ts with
  | nil => intro vs ds ps _ h; cases vs <;> cases ds <;> exact h
  | cons t ts ih =>
    intro vs ds ps hall h
    simp only [List.all_cons, Bool.and_eq_true, decide_eq_true_eq] at hall
    obtain ⟨v, vs', d, ds', p, q, rfl, rfl, rfl, h1, h2⟩ := trodAll_cons h
    have hlt : ∀ x ∈ p, x.block < W.heap.size := by obtain ⟨m, hm⟩ := h1; exact DataW.trod_lt m _ _ _ hm
    exact trodAll_cons_mk (Below.trod hl hall.1.1 hall.1.2 h1 hb hlt) (ih vs' ds' q hall.2 h2)
end Go.V
