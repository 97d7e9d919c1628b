/- What the laws of several rings and of errors do. Conditions: none of its own. -/
import Derived.Test.YtcologcjhenmkaaDoorSpecB
import Derived.Test.YtcologcjhenmkaaDoorProg
import Derived.Test.YtcologcjhenmkaaDoorRnl
set_option linter.unusedVariables false
namespace Go.Rg
open Go Go.V Go.Frm
def fillTo (b : UInt8) (i : Nat) : List UInt8 := List.replicate i b ++ List.replicate (512 - i) 0
theorem fillTo_zero (b : UInt8) : fillTo b 0 = List.replicate 512 0 := by simp only [fillTo, List.replicate_zero, List.nil_append, Nat.sub_zero]
theorem fillTo_all (b : UInt8) : fillTo b 512 = List.replicate 512 b := by simp only [fillTo, Nat.sub_self, List.replicate_zero, List.append_nil]
theorem fillTo_len {b : UInt8} {i : Nat} (h : i ≤ 512) : (fillTo b i).length = 512 := by simp only [fillTo, List.length_append, List.length_replicate]; omega
theorem fillTo_set {b : UInt8} {i : Nat} (h : i < 512) : (bv (fillTo b i)).set i (.int .u8 ((b.toNat : Nat) : Int)) = bv (fillTo b (i + 1)) := by
  have e : (fillTo b i).set i b = fillTo b (i + 1) := by
    obtain ⟨m, hm⟩ : ∃ m, 512 - i = m + 1 := ⟨512 - i - 1, by omega⟩
    unfold fillTo
    rw [hm, List.set_append_right _ _ (by rw [List.length_replicate]; exact Nat.le_refl _), List.length_replicate, Nat.sub_self, List.replicate_succ, List.set_cons_zero, show 512 - (i + 1) = m by omega, List.replicate_succ', List.append_assoc, List.singleton_append]
  rw [← e]
  simp [bv]
theorem fl_len (b : UInt8) : (List.replicate 512 b).length = 512 := List.length_replicate
end Go.Rg
/- What the law of errors needs. Conditions: none of its own. -/
set_option linter.unusedVariables false
namespace Go.V
open Go
theorem Pure.remT {P : Program} {ρ : Env} {dst : Option Tmp} {ty : TypeId} {pos : String} {af : Array Edge} {gd : Option (Tmp × Bool)} {x y : Operand} {k : IntKind} {m l : Int} {t t' : TypeId} (hx : ev ρ x = some (.int k m)) (hy : ev ρ y = some (.int k l)) (hl : 0 < l) :
    Pure P ρ ⟨dst, .binOp .rem t x y t', ty, pos, af, gd⟩ (.int k (Int.tmod m l)) := fun w a hf => by
  have hne : l ≠ 0 := by omega
  simp [execOp, hf.eval hx, hf.eval hy, eqGuard, binOp, Op.intDiv, hne]
end Go.V
namespace Go.Rg
open Go Go.V Go.Frm
theorem curHead_zb (a P : Nat) : curHead (fun _ => zb) a P = none := by
  have h : ∀ i, rdHead zb P i = none := by
    intro i
    unfold zb
    exact rdHead_fl 0 P i
  have e : ∀ V : Vis, curTo V a P 2 = newer (newer none (rdHead (V ((a + 0 : Nat) : Int)) P 0)) (rdHead (V ((a + 1 : Nat) : Int)) P 1) := fun V => rfl
  rw [← curTo_two, e]
  show newer (newer none (rdHead zb P 0)) (rdHead zb P 1) = none
  rw [h 0, h 1]
  simp only [newer]
theorem nat_of {z : Int} (h : 0 ≤ z) : ∃ k : Nat, z = (k : Int) := ⟨z.toNat, by omega⟩
theorem two_more {z : Int} (h : 4 ≤ z) : ∃ k : Nat, z = ((k + 2 : Nat) : Int) ∧ 2 ≤ k := ⟨(z - 2).toNat, by omega, by omega⟩
end Go.Rg
/- The law of errors, walked -/
set_option linter.unusedVariables false
set_option maxRecDepth 4000
namespace Go.Proofs.YtcologcjhenmkaaDoor
open Go.V Go.Rg Go.Frm Go.Sha
theorem check_nil (x y : Int) (w : World) : Calls Tryd.prog 32 #[.pointer none, .int .i64 x, .int .i64 y] w (RetC (.tuple #[.agg (([.pointer none, .int .i64 0, .int .i64 0] : List Value)).toArray, .int .i64 1]) w) := by
  refine calls_of_TE (vs := [.pointer none, .int .i64 x, .int .i64 y]) Tryd.func32 Tryd.ntmps32 rfl (by simp) ?_
  have hC : Chg [] w w := Chg.refl _ _
  refine TE.seq ?_
  refine TE.region ?_
  refine OL.alloc Tryd.zeroValue66 rfl ?_
  intro g6 w1 h6 hc1 hg_g6
  have ge_g6 : w.heap.size ≤ g6 := by have := hC.size; omega
  replace hC := hC.then_ hc1
  refine OL.pure (Pure.assign rfl) rfl ?_
  refine OL.nil ?_
  refine TE.seq ?_
  refine TE.block ?_
  refine TE.seq ?_
  refine TE.region ?_
  refine OL.pure (Pure.move rfl) rfl ?_
  refine OL.pure (Pure.eqlNil Tryd.underlying26 rfl rfl) rfl ?_
  refine OL.pure (Pure.assign rfl) rfl ?_
  refine OL.nil ?_
  refine TE.condT rfl rfl ?_
  refine TE.seq ?_
  refine TE.region ?_
  refine OL.pure (Pure.build (cs := [.pointer none, .int .i64 0, .int .i64 0]) rfl (rfl)) rfl ?_
  refine OL.storeRow (vs := [.pointer none, .int .i64 0, .int .i64 0]) rfl rfl (rfl) (by simp [Value.oneCell']) h6 (Nat.le_refl 3) ?_
  intro w2 hb2 hc2
  replace hC := hC.trans1 hc2 (by first | exact .inr (by omega) | exact .inl (by simp))
  replace h6 := hb2
  replace h6 := h6.all rfl
  refine OL.pure (Pure.assign rfl) rfl ?_
  refine OL.nil ?_
  exact TE.ret (vs := [.agg (([.pointer none, .int .i64 0, .int .i64 0] : List Value)).toArray, .int .i64 1]) Tryd.results32 (⟨⟨_, rfl, loadRow_at Tryd.underlying66 rfl rfl h6 rfl⟩, rfl, trivial⟩) ⟨rfl, hC⟩

theorem check_range {V : Int → List UInt8} {ks : List Nat} (d n c : Nat) (dn : Bool) (x y : Int) (hn : n ≤ 8192) (h : x < 0 ∨ y < 4 ∨ (n : Int) < y ∨ (n : Int) - y < x) (w : World) (hD : Dk 93 97 w d n (V) (c) dn ks) : Calls Tryd.prog 32 #[.pointer (some ⟨d, 0, none⟩), .int .i64 x, .int .i64 y] w (RetC (.tuple #[.agg (([.pointer none, .int .i64 0, .int .i64 0] : List Value)).toArray, .int .i64 2]) w) := by
  refine calls_of_TE (vs := [.pointer (some ⟨d, 0, none⟩), .int .i64 x, .int .i64 y]) Tryd.func32 Tryd.ntmps32 rfl (by simp) ?_
  have hC : Chg [] w w := Chg.refl _ _
  refine TE.seq ?_
  refine TE.region ?_
  refine OL.alloc Tryd.zeroValue66 rfl ?_
  intro g6 w1 h6 hc1 hg_g6
  have ge_g6 : w.heap.size ≤ g6 := by have := hC.size; omega
  replace hD := hD.chg0 hc1
  replace hC := hC.then_ hc1
  by_cases h1 : x < 0
  ·
    refine OL.pure (Pure.assign rfl) rfl ?_
    refine OL.nil ?_
    refine TE.seq ?_
    refine TE.block ?_
    refine TE.seq ?_
    refine TE.region ?_
    refine OL.pure (Pure.move rfl) rfl ?_
    refine OL.pure (Pure.eqlNil Tryd.underlying26 rfl rfl) rfl ?_
    refine OL.pure (Pure.assign rfl) rfl ?_
    refine OL.nil ?_
    refine TE.condF rfl rfl ?_
    refine TE.seq ?_
    refine TE.region ?_
    refine OL.pure (Pure.move rfl) rfl ?_
    refine OL.pure (Pure.lss rfl rfl) rfl ?_
    refine OL.cast (.bool true) 14 rfl (congrArg Value.bool (decide_eq_true (h1))) ?_
    refine OL.pure (Pure.move rfl) rfl ?_
    refine OL.pass rfl rfl rfl rfl rfl ?_
    refine OL.pass rfl rfl rfl rfl rfl ?_
    refine OL.pure (Pure.pickT rfl rfl) rfl ?_
    refine OL.pure (Pure.move rfl) rfl ?_
    refine OL.pass rfl rfl rfl rfl rfl ?_
    refine OL.pass rfl rfl rfl rfl rfl ?_
    refine OL.pass rfl rfl rfl rfl rfl ?_
    refine OL.pass rfl rfl rfl rfl rfl ?_
    refine OL.pure (Pure.pickT rfl rfl) rfl ?_
    refine OL.pure (Pure.move rfl) rfl ?_
    refine OL.pass rfl rfl rfl rfl rfl ?_
    refine OL.pass rfl rfl rfl rfl rfl ?_
    refine OL.pass rfl rfl rfl rfl rfl ?_
    refine OL.pass rfl rfl rfl rfl rfl ?_
    refine OL.pass rfl rfl rfl rfl rfl ?_
    refine OL.pass rfl rfl rfl rfl rfl ?_
    refine OL.pure (Pure.pickT rfl rfl) rfl ?_
    refine OL.pure (Pure.assign rfl) rfl ?_
    refine OL.nil ?_
    refine TE.condT rfl rfl ?_
    refine TE.seq ?_
    refine TE.region ?_
    refine OL.pure (Pure.build (cs := [.pointer none, .int .i64 0, .int .i64 0]) rfl (rfl)) rfl ?_
    refine OL.storeRow (vs := [.pointer none, .int .i64 0, .int .i64 0]) rfl rfl (rfl) (by simp [Value.oneCell']) h6 (Nat.le_refl 3) ?_
    intro w2 hb2 hc2
    replace hD := hD.chg hc2 (hD.apart h6 (by decide) (by decide))
    replace hC := hC.trans1 hc2 (by first | exact .inr (by omega) | exact .inl (by simp))
    replace h6 := hb2
    replace h6 := h6.all rfl
    refine OL.pure (Pure.assign rfl) rfl ?_
    refine OL.nil ?_
    exact TE.ret (vs := [.agg (([.pointer none, .int .i64 0, .int .i64 0] : List Value)).toArray, .int .i64 2]) Tryd.results32 (⟨⟨_, rfl, loadRow_at Tryd.underlying66 rfl rfl h6 rfl⟩, rfl, trivial⟩) ⟨rfl, hC⟩
  ·
    by_cases h2 : y < 4
    ·
      refine OL.pure (Pure.assign rfl) rfl ?_
      refine OL.nil ?_
      refine TE.seq ?_
      refine TE.block ?_
      refine TE.seq ?_
      refine TE.region ?_
      refine OL.pure (Pure.move rfl) rfl ?_
      refine OL.pure (Pure.eqlNil Tryd.underlying26 rfl rfl) rfl ?_
      refine OL.pure (Pure.assign rfl) rfl ?_
      refine OL.nil ?_
      refine TE.condF rfl rfl ?_
      refine TE.seq ?_
      refine TE.region ?_
      refine OL.pure (Pure.move rfl) rfl ?_
      refine OL.pure (Pure.lss rfl rfl) rfl ?_
      refine OL.cast (.bool false) 14 rfl (congrArg Value.bool (decide_eq_false (h1))) ?_
      refine OL.pure (Pure.move rfl) rfl ?_
      refine OL.want rfl rfl rfl (Pure.move rfl _) rfl ?_
      refine OL.want rfl rfl rfl (Pure.lss rfl rfl _) rfl ?_
      refine OL.cast (.bool true) 17 rfl (congrArg Value.bool (decide_eq_true (h2))) ?_
      refine OL.pure (Pure.pickF rfl rfl) rfl ?_
      refine OL.pure (Pure.move rfl) rfl ?_
      refine OL.pass rfl rfl rfl rfl rfl ?_
      refine OL.pass rfl rfl rfl rfl rfl ?_
      refine OL.pass rfl rfl rfl rfl rfl ?_
      refine OL.pass rfl rfl rfl rfl rfl ?_
      refine OL.pure (Pure.pickT rfl rfl) rfl ?_
      refine OL.pure (Pure.move rfl) rfl ?_
      refine OL.pass rfl rfl rfl rfl rfl ?_
      refine OL.pass rfl rfl rfl rfl rfl ?_
      refine OL.pass rfl rfl rfl rfl rfl ?_
      refine OL.pass rfl rfl rfl rfl rfl ?_
      refine OL.pass rfl rfl rfl rfl rfl ?_
      refine OL.pass rfl rfl rfl rfl rfl ?_
      refine OL.pure (Pure.pickT rfl rfl) rfl ?_
      refine OL.pure (Pure.assign rfl) rfl ?_
      refine OL.nil ?_
      refine TE.condT rfl rfl ?_
      refine TE.seq ?_
      refine TE.region ?_
      refine OL.pure (Pure.build (cs := [.pointer none, .int .i64 0, .int .i64 0]) rfl (rfl)) rfl ?_
      refine OL.storeRow (vs := [.pointer none, .int .i64 0, .int .i64 0]) rfl rfl (rfl) (by simp [Value.oneCell']) h6 (Nat.le_refl 3) ?_
      intro w3 hb3 hc3
      replace hD := hD.chg hc3 (hD.apart h6 (by decide) (by decide))
      replace hC := hC.trans1 hc3 (by first | exact .inr (by omega) | exact .inl (by simp))
      replace h6 := hb3
      replace h6 := h6.all rfl
      refine OL.pure (Pure.assign rfl) rfl ?_
      refine OL.nil ?_
      exact TE.ret (vs := [.agg (([.pointer none, .int .i64 0, .int .i64 0] : List Value)).toArray, .int .i64 2]) Tryd.results32 (⟨⟨_, rfl, loadRow_at Tryd.underlying66 rfl rfl h6 rfl⟩, rfl, trivial⟩) ⟨rfl, hC⟩
    ·
      by_cases h3 : (n : Int) < y
      ·
        refine OL.pure (Pure.assign rfl) rfl ?_
        refine OL.nil ?_
        refine TE.seq ?_
        refine TE.block ?_
        refine TE.seq ?_
        refine TE.region ?_
        refine OL.pure (Pure.move rfl) rfl ?_
        refine OL.pure (Pure.eqlNil Tryd.underlying26 rfl rfl) rfl ?_
        refine OL.pure (Pure.assign rfl) rfl ?_
        refine OL.nil ?_
        refine TE.condF rfl rfl ?_
        refine TE.seq ?_
        refine TE.region ?_
        refine OL.pure (Pure.move rfl) rfl ?_
        refine OL.pure (Pure.lss rfl rfl) rfl ?_
        refine OL.cast (.bool false) 14 rfl (congrArg Value.bool (decide_eq_false (h1))) ?_
        refine OL.pure (Pure.move rfl) rfl ?_
        refine OL.want rfl rfl rfl (Pure.move rfl _) rfl ?_
        refine OL.want rfl rfl rfl (Pure.lss rfl rfl _) rfl ?_
        refine OL.cast (.bool false) 17 rfl (congrArg Value.bool (decide_eq_false (h2))) ?_
        refine OL.pure (Pure.pickF rfl rfl) rfl ?_
        refine OL.pure (Pure.move rfl) rfl ?_
        refine OL.want rfl rfl rfl (Pure.move rfl _) rfl ?_
        refine OL.want rfl rfl rfl (Pure.move rfl _) rfl ?_
        refine OL.callG rfl rfl rfl rfl Tryd.call51 rfl (dblocks_any d n c dn _ hD) ?_
        rintro _ _ ⟨rfl, rfl⟩
        refine ⟨_, rfl, ?_⟩
        refine OL.want rfl rfl rfl (Pure.gtr rfl rfl _) rfl ?_
        refine OL.cast (.bool true) 23 rfl (congrArg Value.bool (decide_eq_true (by omega))) ?_
        refine OL.pure (Pure.pickF rfl rfl) rfl ?_
        refine OL.pure (Pure.move rfl) rfl ?_
        refine OL.pass rfl rfl rfl rfl rfl ?_
        refine OL.pass rfl rfl rfl rfl rfl ?_
        refine OL.pass rfl rfl rfl rfl rfl ?_
        refine OL.pass rfl rfl rfl rfl rfl ?_
        refine OL.pass rfl rfl rfl rfl rfl ?_
        refine OL.pass rfl rfl rfl rfl rfl ?_
        refine OL.pure (Pure.pickT rfl rfl) rfl ?_
        refine OL.pure (Pure.assign rfl) rfl ?_
        refine OL.nil ?_
        refine TE.condT rfl rfl ?_
        refine TE.seq ?_
        refine TE.region ?_
        refine OL.pure (Pure.build (cs := [.pointer none, .int .i64 0, .int .i64 0]) rfl (rfl)) rfl ?_
        refine OL.storeRow (vs := [.pointer none, .int .i64 0, .int .i64 0]) rfl rfl (rfl) (by simp [Value.oneCell']) h6 (Nat.le_refl 3) ?_
        intro w4 hb4 hc4
        replace hD := hD.chg hc4 (hD.apart h6 (by decide) (by decide))
        replace hC := hC.trans1 hc4 (by first | exact .inr (by omega) | exact .inl (by simp))
        replace h6 := hb4
        replace h6 := h6.all rfl
        refine OL.pure (Pure.assign rfl) rfl ?_
        refine OL.nil ?_
        exact TE.ret (vs := [.agg (([.pointer none, .int .i64 0, .int .i64 0] : List Value)).toArray, .int .i64 2]) Tryd.results32 (⟨⟨_, rfl, loadRow_at Tryd.underlying66 rfl rfl h6 rfl⟩, rfl, trivial⟩) ⟨rfl, hC⟩
      ·
        refine OL.pure (Pure.assign rfl) rfl ?_
        refine OL.nil ?_
        refine TE.seq ?_
        refine TE.block ?_
        refine TE.seq ?_
        refine TE.region ?_
        refine OL.pure (Pure.move rfl) rfl ?_
        refine OL.pure (Pure.eqlNil Tryd.underlying26 rfl rfl) rfl ?_
        refine OL.pure (Pure.assign rfl) rfl ?_
        refine OL.nil ?_
        refine TE.condF rfl rfl ?_
        refine TE.seq ?_
        refine TE.region ?_
        refine OL.pure (Pure.move rfl) rfl ?_
        refine OL.pure (Pure.lss rfl rfl) rfl ?_
        refine OL.cast (.bool false) 14 rfl (congrArg Value.bool (decide_eq_false (h1))) ?_
        refine OL.pure (Pure.move rfl) rfl ?_
        refine OL.want rfl rfl rfl (Pure.move rfl _) rfl ?_
        refine OL.want rfl rfl rfl (Pure.lss rfl rfl _) rfl ?_
        refine OL.cast (.bool false) 17 rfl (congrArg Value.bool (decide_eq_false (h2))) ?_
        refine OL.pure (Pure.pickF rfl rfl) rfl ?_
        refine OL.pure (Pure.move rfl) rfl ?_
        refine OL.want rfl rfl rfl (Pure.move rfl _) rfl ?_
        refine OL.want rfl rfl rfl (Pure.move rfl _) rfl ?_
        refine OL.callG rfl rfl rfl rfl Tryd.call51 rfl (dblocks_any d n c dn _ hD) ?_
        rintro _ _ ⟨rfl, rfl⟩
        refine ⟨_, rfl, ?_⟩
        refine OL.want rfl rfl rfl (Pure.gtr rfl rfl _) rfl ?_
        refine OL.cast (.bool false) 23 rfl (congrArg Value.bool (decide_eq_false (by omega))) ?_
        refine OL.pure (Pure.pickF rfl rfl) rfl ?_
        refine OL.pure (Pure.move rfl) rfl ?_
        refine OL.want rfl rfl rfl (Pure.move rfl _) rfl ?_
        refine OL.want rfl rfl rfl (Pure.move rfl _) rfl ?_
        refine OL.callG rfl rfl rfl rfl Tryd.call51 rfl (dblocks_any d n c dn _ hD) ?_
        rintro _ _ ⟨rfl, rfl⟩
        refine ⟨_, rfl, ?_⟩
        refine OL.want rfl rfl rfl (Pure.move rfl _) rfl ?_
        refine OL.want rfl rfl rfl (Pure.sub rfl rfl (i64 (by omega) (by omega)) _) rfl ?_
        refine OL.want rfl rfl rfl (Pure.gtr rfl rfl _) rfl ?_
        refine OL.cast (.bool true) 31 rfl (congrArg Value.bool (decide_eq_true (by omega))) ?_
        refine OL.pure (Pure.pickF rfl rfl) rfl ?_
        refine OL.pure (Pure.assign rfl) rfl ?_
        refine OL.nil ?_
        refine TE.condT rfl rfl ?_
        refine TE.seq ?_
        refine TE.region ?_
        refine OL.pure (Pure.build (cs := [.pointer none, .int .i64 0, .int .i64 0]) rfl (rfl)) rfl ?_
        refine OL.storeRow (vs := [.pointer none, .int .i64 0, .int .i64 0]) rfl rfl (rfl) (by simp [Value.oneCell']) h6 (Nat.le_refl 3) ?_
        intro w5 hb5 hc5
        replace hD := hD.chg hc5 (hD.apart h6 (by decide) (by decide))
        replace hC := hC.trans1 hc5 (by first | exact .inr (by omega) | exact .inl (by simp))
        replace h6 := hb5
        replace h6 := h6.all rfl
        refine OL.pure (Pure.assign rfl) rfl ?_
        refine OL.nil ?_
        exact TE.ret (vs := [.agg (([.pointer none, .int .i64 0, .int .i64 0] : List Value)).toArray, .int .i64 2]) Tryd.results32 (⟨⟨_, rfl, loadRow_at Tryd.underlying66 rfl rfl h6 rfl⟩, rfl, trivial⟩) ⟨rfl, hC⟩

theorem check_down {V : Int → List UInt8} {ks : List Nat} (d n c : Nat) (x y : Int) (hn : n ≤ 8192) (h1 : 0 ≤ x) (h2 : 4 ≤ y) (h3 : y ≤ n) (h4 : x ≤ n - y) (w : World) (hD : Dk 93 97 w d n (V) (c) true ks) : Calls Tryd.prog 32 #[.pointer (some ⟨d, 0, none⟩), .int .i64 x, .int .i64 y] w (RetC (.tuple #[.agg (([.pointer none, .int .i64 0, .int .i64 0] : List Value)).toArray, .int .i64 29]) w) := by
  refine calls_of_TE (vs := [.pointer (some ⟨d, 0, none⟩), .int .i64 x, .int .i64 y]) Tryd.func32 Tryd.ntmps32 rfl (by simp) ?_
  have hC : Chg [] w w := Chg.refl _ _
  refine TE.seq ?_
  refine TE.region ?_
  refine OL.alloc Tryd.zeroValue66 rfl ?_
  intro g6 w1 h6 hc1 hg_g6
  have ge_g6 : w.heap.size ≤ g6 := by have := hC.size; omega
  replace hD := hD.chg0 hc1
  replace hC := hC.then_ hc1
  refine OL.pure (Pure.assign rfl) rfl ?_
  refine OL.nil ?_
  refine TE.seq ?_
  refine TE.block ?_
  refine TE.seq ?_
  refine TE.region ?_
  refine OL.pure (Pure.move rfl) rfl ?_
  refine OL.pure (Pure.eqlNil Tryd.underlying26 rfl rfl) rfl ?_
  refine OL.pure (Pure.assign rfl) rfl ?_
  refine OL.nil ?_
  refine TE.condF rfl rfl ?_
  refine TE.seq ?_
  refine TE.region ?_
  refine OL.pure (Pure.move rfl) rfl ?_
  refine OL.pure (Pure.lss rfl rfl) rfl ?_
  refine OL.cast (.bool false) 14 rfl (congrArg Value.bool (decide_eq_false (by omega))) ?_
  refine OL.pure (Pure.move rfl) rfl ?_
  refine OL.want rfl rfl rfl (Pure.move rfl _) rfl ?_
  refine OL.want rfl rfl rfl (Pure.lss rfl rfl _) rfl ?_
  refine OL.cast (.bool false) 17 rfl (congrArg Value.bool (decide_eq_false (by omega))) ?_
  refine OL.pure (Pure.pickF rfl rfl) rfl ?_
  refine OL.pure (Pure.move rfl) rfl ?_
  refine OL.want rfl rfl rfl (Pure.move rfl _) rfl ?_
  refine OL.want rfl rfl rfl (Pure.move rfl _) rfl ?_
  refine OL.callG rfl rfl rfl rfl Tryd.call51 rfl (dblocks_any d n c true _ hD) ?_
  rintro _ _ ⟨rfl, rfl⟩
  refine ⟨_, rfl, ?_⟩
  refine OL.want rfl rfl rfl (Pure.gtr rfl rfl _) rfl ?_
  refine OL.cast (.bool false) 23 rfl (congrArg Value.bool (decide_eq_false (by omega))) ?_
  refine OL.pure (Pure.pickF rfl rfl) rfl ?_
  refine OL.pure (Pure.move rfl) rfl ?_
  refine OL.want rfl rfl rfl (Pure.move rfl _) rfl ?_
  refine OL.want rfl rfl rfl (Pure.move rfl _) rfl ?_
  refine OL.callG rfl rfl rfl rfl Tryd.call51 rfl (dblocks_any d n c true _ hD) ?_
  rintro _ _ ⟨rfl, rfl⟩
  refine ⟨_, rfl, ?_⟩
  refine OL.want rfl rfl rfl (Pure.move rfl _) rfl ?_
  refine OL.want rfl rfl rfl (Pure.sub rfl rfl (i64 (by omega) (by omega)) _) rfl ?_
  refine OL.want rfl rfl rfl (Pure.gtr rfl rfl _) rfl ?_
  refine OL.cast (.bool false) 31 rfl (congrArg Value.bool (decide_eq_false (by omega))) ?_
  refine OL.pure (Pure.pickF rfl rfl) rfl ?_
  refine OL.pure (Pure.assign rfl) rfl ?_
  refine OL.nil ?_
  refine TE.condF rfl rfl ?_
  refine TE.seq ?_
  refine TE.region ?_
  refine OL.pure (Pure.move rfl) rfl ?_
  refine OL.call rfl Tryd.call52 rfl (ddown_any d n c true _ hD) ?_
  rintro _ _ ⟨rfl, rfl⟩
  refine ⟨_, rfl, ?_⟩
  refine OL.pure (Pure.assign rfl) rfl ?_
  refine OL.nil ?_
  refine TE.condT rfl rfl ?_
  refine TE.seq ?_
  refine TE.region ?_
  refine OL.pure (Pure.build (cs := [.pointer none, .int .i64 0, .int .i64 0]) rfl (rfl)) rfl ?_
  refine OL.storeRow (vs := [.pointer none, .int .i64 0, .int .i64 0]) rfl rfl (rfl) (by simp [Value.oneCell']) h6 (Nat.le_refl 3) ?_
  intro w2 hb2 hc2
  replace hD := hD.chg hc2 (hD.apart h6 (by decide) (by decide))
  replace hC := hC.trans1 hc2 (by first | exact .inr (by omega) | exact .inl (by simp))
  replace h6 := hb2
  replace h6 := h6.all rfl
  refine OL.pure (Pure.assign rfl) rfl ?_
  refine OL.nil ?_
  exact TE.ret (vs := [.agg (([.pointer none, .int .i64 0, .int .i64 0] : List Value)).toArray, .int .i64 29]) Tryd.results32 (⟨⟨_, rfl, loadRow_at Tryd.underlying66 rfl rfl h6 rfl⟩, rfl, trivial⟩) ⟨rfl, hC⟩

theorem format_bad (pd : Value) (x y e : Int) (he : e ≠ 0) (w : World) (hc : ∀ w', Chg [] w w' → Calls Tryd.prog 32 #[pd, .int .i64 x, .int .i64 y] w' (RetC (.tuple #[.agg (([.pointer none, .int .i64 0, .int .i64 0] : List Value)).toArray, .int .i64 e]) w')) : Calls Tryd.prog 13 #[pd, .int .i64 x, .int .i64 y] w (RetC (.int .i64 e) w) := by
  refine calls_of_TE (vs := [pd, .int .i64 x, .int .i64 y]) Tryd.func13 Tryd.ntmps13 rfl (by simp) ?_
  have hC : Chg [] w w := Chg.refl _ _
  refine TE.seq ?_
  refine TE.region ?_
  refine OL.pure (Pure.assign rfl) rfl ?_
  refine OL.nil ?_
  refine TE.seq ?_
  refine TE.region ?_
  refine OL.pure (Pure.move rfl) rfl ?_
  refine OL.pure (Pure.move rfl) rfl ?_
  refine OL.pure (Pure.move rfl) rfl ?_
  refine OL.call rfl Tryd.call32 rfl (hc _ hC) ?_
  rintro _ w1 ⟨rfl, hc1⟩
  replace hC := hC.then_ hc1
  refine ⟨_, rfl, ?_⟩
  refine OL.pure (Pure.move rfl) rfl ?_
  refine OL.pure (Pure.extract (vs := [.agg (([.pointer none, .int .i64 0, .int .i64 0] : List Value)).toArray, .int .i64 e]) (i := 0) rfl rfl) rfl ?_
  refine OL.pure (Pure.extract (vs := [.agg (([.pointer none, .int .i64 0, .int .i64 0] : List Value)).toArray, .int .i64 e]) (i := 1) rfl rfl) rfl ?_
  refine OL.alloc Tryd.zeroValue66 rfl ?_
  intro g7 w2 h7 hc2 hg_g7
  have ge_g7 : w.heap.size ≤ g7 := by have := hC.size; omega
  replace hC := hC.then_ hc2
  refine OL.storeRow (vs := [.pointer none, .int .i64 0, .int .i64 0]) rfl rfl (rfl) (by simp [Value.oneCell']) h7 (Nat.le_refl 3) ?_
  intro w3 hb3 hc3
  replace hC := hC.trans1 hc3 (by first | exact .inr (by omega) | exact .inl (by simp))
  replace h7 := hb3
  refine OL.pure (Pure.assign rfl) rfl ?_
  refine OL.nil ?_
  refine TE.seq ?_
  refine TE.seq ?_
  refine TE.region ?_
  refine OL.pure (Pure.move rfl) rfl ?_
  refine OL.pure (Pure.neq rfl rfl) rfl ?_
  refine OL.cast (.bool true) 27 rfl (congrArg Value.bool (decide_eq_true (he))) ?_
  refine OL.nil ?_
  refine TE.condT rfl rfl ?_
  refine TE.seq ?_
  refine TE.region ?_
  refine OL.pure (Pure.move rfl) rfl ?_
  refine OL.pure (Pure.assign rfl) rfl ?_
  refine OL.nil ?_
  exact TE.ret (vs := [.int .i64 e]) Tryd.results13 (⟨rfl, trivial⟩) ⟨rfl, hC⟩

theorem open_bad (pd : Value) (x y e : Int) (he : e ≠ 0) (w : World) (hc : ∀ w', Chg [] w w' → Calls Tryd.prog 32 #[pd, .int .i64 x, .int .i64 y] w' (RetC (.tuple #[.agg (([.pointer none, .int .i64 0, .int .i64 0] : List Value)).toArray, .int .i64 e]) w')) : Calls Tryd.prog 14 #[pd, .int .i64 x, .int .i64 y] w (RetC (.tuple #[.pointer none, .slice none 0 0, .int .i64 e]) w) := by
  refine calls_of_TU (vs := [pd, .int .i64 x, .int .i64 y]) Tryd.func14 Tryd.ntmps14 rfl (by simp) ?_
  have hC : Chg [] w w := Chg.refl _ _
  refine TE.seq ?_
  refine TE.region ?_
  refine OL.alloc Tryd.zeroValue27 rfl ?_
  intro g6 w1 h6 hc1 hg_g6
  have ge_g6 : w.heap.size ≤ g6 := by have := hC.size; omega
  replace hC := hC.then_ hc1
  have h6 : Blk w1 g6 27 ([.pointer none]) := h6
  refine OL.alloc Tryd.zeroValue38 rfl ?_
  intro g7 w2 h7 hc2 hg_g7
  have lt_g6_g7 : g6 < g7 := by have := h6.lt; omega
  have ge_g7 : w.heap.size ≤ g7 := by have := hC.size; omega
  replace h6 := h6.chg0 hc2
  replace hC := hC.then_ hc2
  have h7 : Blk w2 g7 38 ([.slice none 0 0]) := h7
  refine OL.alloc Tryd.zeroValue31 rfl ?_
  intro g8 w3 h8 hc3 hg_g8
  have lt_g6_g8 : g6 < g8 := by have := h6.lt; omega
  have lt_g7_g8 : g7 < g8 := by have := h7.lt; omega
  have ge_g8 : w.heap.size ≤ g8 := by have := hC.size; omega
  replace h6 := h6.chg0 hc3
  replace h7 := h7.chg0 hc3
  replace hC := hC.then_ hc3
  have h8 : Blk w3 g8 31 ([.int .i64 0]) := h8
  refine OL.nil ?_
  refine TE.seq ?_
  refine TE.region ?_
  refine OL.pure (Pure.move rfl) rfl ?_
  refine OL.pure (Pure.move rfl) rfl ?_
  refine OL.pure (Pure.move rfl) rfl ?_
  refine OL.call rfl Tryd.call32 rfl (hc _ hC) ?_
  rintro _ w4 ⟨rfl, hc4⟩
  replace h6 := h6.chg0 hc4
  replace h7 := h7.chg0 hc4
  replace h8 := h8.chg0 hc4
  replace hC := hC.then_ hc4
  refine ⟨_, rfl, ?_⟩
  refine OL.pure (Pure.move rfl) rfl ?_
  refine OL.pure (Pure.extract (vs := [.agg (([.pointer none, .int .i64 0, .int .i64 0] : List Value)).toArray, .int .i64 e]) (i := 0) rfl rfl) rfl ?_
  refine OL.pure (Pure.extract (vs := [.agg (([.pointer none, .int .i64 0, .int .i64 0] : List Value)).toArray, .int .i64 e]) (i := 1) rfl rfl) rfl ?_
  refine OL.alloc Tryd.zeroValue66 rfl ?_
  intro g9 w5 h9 hc5 hg_g9
  have lt_g6_g9 : g6 < g9 := by have := h6.lt; omega
  have lt_g7_g9 : g7 < g9 := by have := h7.lt; omega
  have lt_g8_g9 : g8 < g9 := by have := h8.lt; omega
  have ge_g9 : w.heap.size ≤ g9 := by have := hC.size; omega
  replace h6 := h6.chg0 hc5
  replace h7 := h7.chg0 hc5
  replace h8 := h8.chg0 hc5
  replace hC := hC.then_ hc5
  refine OL.storeRow (vs := [.pointer none, .int .i64 0, .int .i64 0]) rfl rfl (rfl) (by simp [Value.oneCell']) h9 (Nat.le_refl 3) ?_
  intro w6 hb6 hc6
  replace h6 := h6.chg hc6 (by simpa using h6.ne h9 (by decide))
  replace h7 := h7.chg hc6 (by simpa using h7.ne h9 (by decide))
  replace h8 := h8.chg hc6 (by simpa using h8.ne h9 (by decide))
  replace hC := hC.trans1 hc6 (by first | exact .inr (by omega) | exact .inl (by simp))
  replace h9 := hb6
  refine OL.pure (Pure.assign rfl) rfl ?_
  refine OL.nil ?_
  refine TE.seq ?_
  refine TE.seq ?_
  refine TE.region ?_
  refine OL.pure (Pure.move rfl) rfl ?_
  refine OL.pure (Pure.neq rfl rfl) rfl ?_
  refine OL.cast (.bool true) 35 rfl (congrArg Value.bool (decide_eq_true (he))) ?_
  refine OL.nil ?_
  refine TE.condT rfl rfl ?_
  refine TE.seq ?_
  refine TE.region ?_
  refine OL.pure (Pure.move rfl) rfl ?_
  refine OL.store (j := 0) rfl rfl Tryd.sizeOf27 rfl h6 (by omega) (rfl) ?_
  intro w7 hb7 hc7
  replace h7 := h7.chg hc7 (by simpa using h7.ne h6 (by decide))
  replace h8 := h8.chg hc7 (by simpa using h8.ne h6 (by decide))
  replace h9 := h9.chg hc7 (by simpa using h9.ne h6 (by decide))
  replace hC := hC.trans1 hc7 (by first | exact .inr (by omega) | exact .inl (by simp))
  replace h6 := hb7
  refine OL.store (j := 0) rfl rfl Tryd.sizeOf38 rfl h7 (by omega) (rfl) ?_
  intro w8 hb8 hc8
  replace h6 := h6.chg hc8 (by simpa using h6.ne h7 (by decide))
  replace h8 := h8.chg hc8 (by simpa using h8.ne h7 (by decide))
  replace h9 := h9.chg hc8 (by simpa using h9.ne h7 (by decide))
  replace hC := hC.trans1 hc8 (by first | exact .inr (by omega) | exact .inl (by simp))
  replace h7 := hb8
  refine OL.store (j := 0) rfl rfl Tryd.sizeOf31 rfl h8 (by omega) (rfl) ?_
  intro w9 hb9 hc9
  replace h6 := h6.chg hc9 (by simpa using h6.ne h8 (by decide))
  replace h7 := h7.chg hc9 (by simpa using h7.ne h8 (by decide))
  replace h9 := h9.chg hc9 (by simpa using h9.ne h8 (by decide))
  replace hC := hC.trans1 hc9 (by first | exact .inr (by omega) | exact .inl (by simp))
  replace h8 := hb9
  refine OL.nil ?_
  refine TE.retU (fun a_ ha_ => ?_)
  exact Unw.done (vs := [.pointer none, .slice none 0 0, .int .i64 e]) ha_ Tryd.results14 ⟨⟨_, rfl, loadCell_at Tryd.isAgg27 h6 rfl⟩, ⟨_, rfl, loadCell_at Tryd.isAgg38 h7 rfl⟩, ⟨_, rfl, loadCell_at Tryd.isAgg31 h8 rfl⟩, trivial⟩ ⟨rfl, hC⟩

theorem app_nil (v : Value) (w : World) : Calls Tryd.prog 19 #[.pointer none, v] w (RetC (.tuple #[.int .i64 0, .int .i64 1]) w) := by
  refine calls_of_TU (vs := [.pointer none, v]) Tryd.func19 Tryd.ntmps19 rfl (by simp) ?_
  have hC : Chg [] w w := Chg.refl _ _
  refine TE.seq ?_
  refine TE.region ?_
  refine OL.box rfl rfl ?_
  intro g2 w1 h2 hc1 hg_g2
  have ge_g2 : w.heap.size ≤ g2 := by have := hC.size; omega
  replace hC := hC.then_ hc1
  have h2 : Blk w1 g2 27 ([.pointer none]) := h2
  refine OL.alloc Tryd.zeroValue3 rfl ?_
  intro g4 w2 h4 hc2 hg_g4
  have lt_g2_g4 : g2 < g4 := by have := h2.lt; omega
  have ge_g4 : w.heap.size ≤ g4 := by have := hC.size; omega
  replace h2 := h2.chg0 hc2
  replace hC := hC.then_ hc2
  have h4 : Blk w2 g4 3 ([.int .i64 0]) := h4
  refine OL.alloc Tryd.zeroValue31 rfl ?_
  intro g5 w3 h5 hc3 hg_g5
  have lt_g2_g5 : g2 < g5 := by have := h2.lt; omega
  have lt_g4_g5 : g4 < g5 := by have := h4.lt; omega
  have ge_g5 : w.heap.size ≤ g5 := by have := hC.size; omega
  replace h2 := h2.chg0 hc3
  replace h4 := h4.chg0 hc3
  replace hC := hC.then_ hc3
  have h5 : Blk w3 g5 31 ([.int .i64 0]) := h5
  refine OL.nil ?_
  refine TE.seq ?_
  refine TE.seq ?_
  refine TE.region ?_
  refine OL.val (Run.load (i := 0) rfl Tryd.isAgg27 h2 (by omega) rfl) rfl ?_
  refine OL.call rfl Tryd.call39 rfl (ready_nil _) ?_
  rintro _ _ ⟨rfl, rfl⟩
  refine ⟨_, rfl, ?_⟩
  refine OL.pure (Pure.assign rfl) rfl ?_
  refine OL.nil ?_
  refine TE.seq ?_
  refine TE.region ?_
  refine OL.pure (Pure.move rfl) rfl ?_
  refine OL.pure (Pure.neq rfl rfl) rfl ?_
  refine OL.cast (.bool true) 16 rfl (rfl) ?_
  refine OL.nil ?_
  refine TE.condT rfl rfl ?_
  refine TE.seq ?_
  refine TE.region ?_
  refine OL.pure (Pure.move rfl) rfl ?_
  refine OL.store (j := 0) rfl rfl Tryd.sizeOf3 rfl h4 (by omega) (rfl) ?_
  intro w4 hb4 hc4
  replace h2 := h2.chg hc4 (by simpa using h2.ne h4 (by decide))
  replace h5 := h5.chg hc4 (by simpa using h5.ne h4 (by decide))
  replace hC := hC.trans1 hc4 (by first | exact .inr (by omega) | exact .inl (by simp))
  replace h4 := hb4
  refine OL.store (j := 0) rfl rfl Tryd.sizeOf31 rfl h5 (by omega) (rfl) ?_
  intro w5 hb5 hc5
  replace h2 := h2.chg hc5 (by simpa using h2.ne h5 (by decide))
  replace h4 := h4.chg hc5 (by simpa using h4.ne h5 (by decide))
  replace hC := hC.trans1 hc5 (by first | exact .inr (by omega) | exact .inl (by simp))
  replace h5 := hb5
  refine OL.nil ?_
  refine TE.retU (fun a_ ha_ => ?_)
  exact Unw.done (vs := [.int .i64 0, .int .i64 1]) ha_ Tryd.results19 ⟨⟨_, rfl, loadCell_at Tryd.isAgg3 h4 rfl⟩, ⟨_, rfl, loadCell_at Tryd.isAgg31 h5 rfl⟩, trivial⟩ ⟨rfl, hC⟩

theorem sync_nil (w : World) : Calls Tryd.prog 20 #[.pointer none] w (RetC (.int .i64 1) w) := by
  refine calls_of_TU (vs := [.pointer none]) Tryd.func20 Tryd.ntmps20 rfl (by simp) ?_
  have hC : Chg [] w w := Chg.refl _ _
  refine TE.seq ?_
  refine TE.region ?_
  refine OL.alloc Tryd.zeroValue31 rfl ?_
  intro g2 w1 h hc1 hg_g2
  have ge_g2 : w.heap.size ≤ g2 := by have := hC.size; omega
  replace hC := hC.then_ hc1
  have h : Blk w1 g2 31 ([.int .i64 0]) := h
  refine OL.nil ?_
  refine TE.seq ?_
  refine TE.seq ?_
  refine TE.region ?_
  refine OL.pure (Pure.move rfl) rfl ?_
  refine OL.call rfl Tryd.call39 rfl (ready_nil _) ?_
  rintro _ _ ⟨rfl, rfl⟩
  refine ⟨_, rfl, ?_⟩
  refine OL.pure (Pure.assign rfl) rfl ?_
  refine OL.nil ?_
  refine TE.seq ?_
  refine TE.region ?_
  refine OL.pure (Pure.move rfl) rfl ?_
  refine OL.pure (Pure.neq rfl rfl) rfl ?_
  refine OL.cast (.bool true) 8 rfl (rfl) ?_
  refine OL.nil ?_
  refine TE.condT rfl rfl ?_
  refine TE.seq ?_
  refine TE.region ?_
  refine OL.pure (Pure.move rfl) rfl ?_
  refine OL.store (j := 0) rfl rfl Tryd.sizeOf31 rfl h (by omega) (rfl) ?_
  intro w2 hb2 hc2
  replace hC := hC.trans1 hc2 (by first | exact .inr (by omega) | exact .inl (by simp))
  replace h := hb2
  refine OL.nil ?_
  refine TE.retU (fun a_ ha_ => ?_)
  exact Unw.done (vs := [.int .i64 1]) ha_ Tryd.results20 ⟨⟨_, rfl, loadCell_at Tryd.isAgg31 h rfl⟩, trivial⟩ ⟨rfl, hC⟩

theorem trim_nil (x : Int) (w : World) : Calls Tryd.prog 25 #[.pointer none, .int .i64 x] w (RetC (.int .i64 1) w) := by
  refine calls_of_TU (vs := [.pointer none, .int .i64 x]) Tryd.func25 Tryd.ntmps25 rfl (by simp) ?_
  have hC : Chg [] w w := Chg.refl _ _
  refine TE.seq ?_
  refine TE.region ?_
  refine OL.alloc Tryd.zeroValue31 rfl ?_
  intro g4 w1 h hc1 hg_g4
  have ge_g4 : w.heap.size ≤ g4 := by have := hC.size; omega
  replace hC := hC.then_ hc1
  have h : Blk w1 g4 31 ([.int .i64 0]) := h
  refine OL.nil ?_
  refine TE.seq ?_
  refine TE.seq ?_
  refine TE.region ?_
  refine OL.pure (Pure.move rfl) rfl ?_
  refine OL.call rfl Tryd.call39 rfl (ready_nil _) ?_
  rintro _ _ ⟨rfl, rfl⟩
  refine ⟨_, rfl, ?_⟩
  refine OL.pure (Pure.assign rfl) rfl ?_
  refine OL.nil ?_
  refine TE.seq ?_
  refine TE.region ?_
  refine OL.pure (Pure.move rfl) rfl ?_
  refine OL.pure (Pure.neq rfl rfl) rfl ?_
  refine OL.cast (.bool true) 13 rfl (rfl) ?_
  refine OL.nil ?_
  refine TE.condT rfl rfl ?_
  refine TE.seq ?_
  refine TE.region ?_
  refine OL.pure (Pure.move rfl) rfl ?_
  refine OL.store (j := 0) rfl rfl Tryd.sizeOf31 rfl h (by omega) (rfl) ?_
  intro w2 hb2 hc2
  replace hC := hC.trans1 hc2 (by first | exact .inr (by omega) | exact .inl (by simp))
  replace h := hb2
  refine OL.nil ?_
  refine TE.retU (fun a_ ha_ => ?_)
  exact Unw.done (vs := [.int .i64 1]) ha_ Tryd.results25 ⟨⟨_, rfl, loadCell_at Tryd.isAgg31 h rfl⟩, trivial⟩ ⟨rfl, hC⟩

theorem rspan_any (n : Nat) (h : n ≤ 1099511627776) (w : World) : Calls Tryd.prog 47 #[.int .i64 (n : Int)] w (Ret (.int .i64 (need n : Int)) w) := by
  refine calls_of_TE (vs := [.int .i64 (n : Int)]) Tryd.func47 Tryd.ntmps47 rfl (by simp) ?_
  by_cases hs : n ≤ 512
  ·
    refine TE.seq ?_
    refine TE.region ?_
    refine OL.pure (Pure.assign rfl) rfl ?_
    refine OL.nil ?_
    refine TE.seq ?_
    refine TE.seq ?_
    refine TE.region ?_
    refine OL.pure (Pure.move rfl) rfl ?_
    refine OL.pure (Pure.leq rfl rfl) rfl ?_
    refine OL.cast (.bool true) 4 rfl (congrArg Value.bool (decide_eq_true (by omega))) ?_
    refine OL.nil ?_
    refine TE.condT rfl rfl ?_
    refine TE.seq ?_
    refine TE.region ?_
    refine OL.pure (Pure.assign rfl) rfl ?_
    refine OL.nil ?_
    exact TE.ret (vs := [.int .i64 (need n : Int)]) Tryd.results47 (⟨congrArg (fun x : Nat => some (Value.int .i64 (x : Int))) (by unfold need; omega : (1 : Nat) = need n), trivial⟩) ⟨rfl, rfl⟩
  ·
    refine TE.seq ?_
    refine TE.region ?_
    refine OL.pure (Pure.assign rfl) rfl ?_
    refine OL.nil ?_
    refine TE.seq ?_
    refine TE.seq ?_
    refine TE.region ?_
    refine OL.pure (Pure.move rfl) rfl ?_
    refine OL.pure (Pure.leq rfl rfl) rfl ?_
    refine OL.cast (.bool false) 4 rfl (congrArg Value.bool (decide_eq_false (by omega))) ?_
    refine OL.nil ?_
    refine TE.condF rfl rfl ?_
    refine TE.skip ?_
    refine TE.seq ?_
    refine TE.region ?_
    refine OL.pure (Pure.move rfl) rfl ?_
    refine OL.pure (Pure.sub rfl rfl (i64 (by omega) (by omega))) rfl ?_
    refine OL.pure (Pure.add rfl rfl (i64 (by omega) (by omega))) rfl ?_
    refine OL.pure (Pure.sub rfl rfl (i64 (by omega) (by omega))) rfl ?_
    refine OL.pure (Pure.quo rfl rfl (by omega) (by omega) (i64in (by omega) (by omega))) rfl ?_
    refine OL.pure (Pure.add rfl rfl (i64 (by omega) (by omega))) rfl ?_
    refine OL.cast (.int .i64 (need n : Int)) 10 rfl (congrArg (Value.int .i64) (by unfold need; omega)) ?_
    refine OL.pure (Pure.assign rfl) rfl ?_
    refine OL.nil ?_
    exact TE.ret (vs := [.int .i64 (need n : Int)]) Tryd.results47 (⟨rfl, trivial⟩) ⟨rfl, rfl⟩

theorem refneed_any (n : Nat) (h : n ≤ 1099511627000) (w : World) : Calls Tryd.prog 24 #[.int .i64 (n : Int)] w (Ret (.int .i64 (need (42 + n) : Int)) w) := by
  refine calls_of_TE (vs := [.int .i64 (n : Int)]) Tryd.func24 Tryd.ntmps24 rfl (by simp) ?_
  refine TE.seq ?_
  refine TE.region ?_
  refine OL.pure (Pure.assign rfl) rfl ?_
  refine OL.nil ?_
  refine TE.seq ?_
  refine TE.region ?_
  refine OL.pure (Pure.move rfl) rfl ?_
  refine OL.pure (Pure.add rfl rfl (i64 (by omega) (by omega))) rfl ?_
  refine OL.pure (Pure.add rfl rfl (i64 (by omega) (by omega))) rfl ?_
  refine OL.cast (.int .i64 ((42 + n : Nat) : Int)) 5 rfl (congrArg (Value.int .i64) (by omega)) ?_
  refine OL.call rfl Tryd.call47 rfl (rspan_any (42 + n) (by omega) _) ?_
  rintro _ _ ⟨rfl, rfl⟩
  refine ⟨_, rfl, ?_⟩
  refine OL.pure (Pure.assign rfl) rfl ?_
  refine OL.nil ?_
  exact TE.ret (vs := [.int .i64 (need (42 + n) : Int)]) Tryd.results24 (⟨rfl, trivial⟩) ⟨rfl, rfl⟩

set_option maxHeartbeats 8000000 in
theorem errors_law_any {tK tF : TypeId} (z0 z1 m0 m1 : Int) (hw0 : -9223372036854775808 ≤ z0 ∧ z0 ≤ 9223372036854775807) (hw1 : -9223372036854775808 ≤ z1 ∧ z1 ≤ 9223372036854775807) (hb0 : -9223372036854775808 ≤ m0 ∧ m0 ≤ 9223372036854775807) (hb1 : -9223372036854775808 ≤ m1 ∧ m1 ≤ 9223372036854775807) (w : World) (hK : Blk w 1 tK (iv .u32 K)) (hF : Blk w 0 tF (iv .i64 fldL)) : Calls Tryd.prog 7 #[.int .i64 z0, .int .i64 z1, .agg #[.int .i64 m0, .int .i64 m1]] w (RetC (.bool true) w) := by
  refine calls_of_TE (vs := [.int .i64 z0, .int .i64 z1, .agg #[.int .i64 m0, .int .i64 m1]]) Tryd.func7 Tryd.ntmps7 rfl (by simp) ?_
  have hC : Chg [] w w := Chg.refl _ _
  have h0w : 1 < w.heap.size := hK.lt
  have h1w : 0 < w.heap.size := hF.lt
  refine TE.seq ?_
  refine TE.region ?_
  refine OL.box rfl rfl ?_
  intro gm w1 hq hc1 hg_gm
  have ge_gm : w.heap.size ≤ gm := by have := hC.size; omega
  replace hC := hC.then_ hc1
  have hq : Blk w1 gm 63 ([.int .i64 m0, .int .i64 m1]) := hq
  refine OL.pure (Pure.assign rfl) rfl ?_
  refine OL.nil ?_
  refine TE.seq ?_
  refine TE.planAll (.cons (0, true) (.cons (1, true) (.cons (2, true) (.cons (3, true) (.cons (4, true) (.cons (5, true) (.cons (6, true) (.cons (7, true) .nil)))))))) (fun w_ => Chg [] w1 w_) rfl (by kernel_rfl) ?_
  have hS2 : Chg [] w1 w1.drew := Chg.drew _ _
  refine PL.takeP rfl (Pure.indexAddrA (r := 0) Tryd.runUnderlying63 Tryd.sizeOf3 rfl rfl (by omega) (by omega) (by omega)) rfl hS2 ?_
  refine PL.take rfl (fun w_ h_ => Run.load (i := 0) rfl Tryd.isAgg3 (hq.chg0 h_) (by omega) rfl) rfl hS2 ?_
  refine PL.takeP rfl (Pure.remT (k := .i64) rfl rfl (by decide)) rfl hS2 ?_
  refine PL.takeP rfl (Pure.neq rfl rfl) rfl hS2 ?_
  refine PL.takeP rfl (Pure.indexAddrA (r := 1) Tryd.runUnderlying63 Tryd.sizeOf3 rfl rfl (by omega) (by omega) (by omega)) rfl hS2 ?_
  refine PL.take rfl (fun w_ h_ => Run.load (i := 1) rfl Tryd.isAgg3 (hq.chg0 h_) (by omega) rfl) rfl hS2 ?_
  refine PL.takeP rfl (Pure.assign rfl) rfl hS2 ?_
  refine PL.takeP rfl (Pure.assign rfl) rfl hS2 ?_
  refine PL.nil ?_
  replace hC := hC.then_ hS2
  refine TE.seq ?_
  refine TE.region ?_
  refine OL.pure (Pure.move rfl) rfl ?_
  refine OL.pure (Pure.move rfl) rfl ?_
  refine OL.call rfl Tryd.call14 rfl (open_bad (.pointer none) z0 z1 1 (by decide) _ (fun w_ _ => check_nil z0 z1 w_)) ?_
  rintro _ w3 ⟨rfl, hc3⟩
  replace hC := hC.then_ hc3
  refine ⟨_, rfl, ?_⟩
  refine OL.pure (Pure.move rfl) rfl ?_
  refine OL.pure (Pure.extract (vs := [.pointer none, .slice none 0 0, .int .i64 1]) (i := 0) rfl rfl) rfl ?_
  refine OL.pure (Pure.extract (vs := [.pointer none, .slice none 0 0, .int .i64 1]) (i := 1) rfl rfl) rfl ?_
  refine OL.pure (Pure.extract (vs := [.pointer none, .slice none 0 0, .int .i64 1]) (i := 2) rfl rfl) rfl ?_
  refine OL.pure (Pure.assign rfl) rfl ?_
  refine OL.pure (Pure.assign rfl) rfl ?_
  refine OL.pure (Pure.assign rfl) rfl ?_
  refine OL.nil ?_
  refine TE.seq ?_
  refine TE.seq ?_
  refine TE.region ?_
  refine OL.call rfl Tryd.call8 rfl (known_any _ (hK.chg0 hC) (hF.chg0 hC)) ?_
  rintro _ w4 ⟨rfl, hc4⟩
  replace hC := hC.then_ hc4
  refine ⟨_, rfl, ?_⟩
  refine OL.pure (Pure.not rfl) rfl ?_
  refine OL.pure (Pure.move rfl) rfl ?_
  refine OL.want rfl rfl rfl (Pure.move rfl _) rfl ?_
  refine OL.want rfl rfl rfl (Pure.neqNil Tryd.underlying27 rfl rfl _) rfl ?_
  refine OL.pure (Pure.pickF rfl rfl) rfl ?_
  refine OL.pure (Pure.move rfl) rfl ?_
  refine OL.want rfl rfl rfl (Pure.move rfl _) rfl ?_
  refine OL.want rfl rfl rfl (Pure.lenSlice Tryd.runUnderlying38 rfl _) rfl ?_
  refine OL.want rfl rfl rfl (Pure.neq rfl rfl _) rfl ?_
  refine OL.cast (.bool false) 51 rfl (rfl) ?_
  refine OL.pure (Pure.pickF rfl rfl) rfl ?_
  refine OL.pure (Pure.move rfl) rfl ?_
  refine OL.want rfl rfl rfl (Pure.move rfl _) rfl ?_
  refine OL.want rfl rfl rfl (Pure.neq rfl rfl _) rfl ?_
  refine OL.cast (.bool false) 55 rfl (rfl) ?_
  refine OL.pure (Pure.pickF rfl rfl) rfl ?_
  refine OL.pure (Pure.move rfl) rfl ?_
  refine OL.want rfl rfl rfl (Pure.move rfl _) rfl ?_
  refine OL.want rfl rfl rfl (Pure.move rfl _) rfl ?_
  refine OL.callG rfl rfl rfl rfl Tryd.call13 rfl (format_bad (.pointer none) z0 z1 1 (by decide) _ (fun w_ _ => check_nil z0 z1 w_)) ?_
  rintro _ w5 ⟨rfl, hc5⟩
  replace hC := hC.then_ hc5
  refine ⟨_, rfl, ?_⟩
  refine OL.want rfl rfl rfl (Pure.neq rfl rfl _) rfl ?_
  refine OL.cast (.bool false) 61 rfl (rfl) ?_
  refine OL.pure (Pure.pickF rfl rfl) rfl ?_
  refine OL.nil ?_
  refine TE.condF rfl rfl ?_
  refine TE.skip ?_
  refine TE.seq ?_
  refine TE.region ?_
  refine OL.call rfl Tryd.call26 rfl (dnew_any 20 (by decide) (by decide) _) ?_
  rintro _ w6 ⟨d, ks6, rfl, hD, hc6, hk6⟩
  have hks : ∀ k_ ∈ ks6, w.heap.size ≤ k_ := fun k_ hk_ => Nat.le_trans hC.size (hk6 k_ hk_)
  replace hC := hC.then_ hc6
  refine ⟨_, rfl, ?_⟩
  refine OL.pure (Pure.move rfl) rfl ?_
  refine OL.pure (Pure.extract (vs := [.pointer (some ⟨d, 0, none⟩), .int .i64 0]) (i := 0) rfl rfl) rfl ?_
  refine OL.pure (Pure.extract (vs := [.pointer (some ⟨d, 0, none⟩), .int .i64 0]) (i := 1) rfl rfl) rfl ?_
  refine OL.pure (Pure.assign rfl) rfl ?_
  refine OL.pure (Pure.assign rfl) rfl ?_
  refine OL.nil ?_
  refine TE.seq ?_
  refine TE.seq ?_
  refine TE.region ?_
  refine OL.pure (Pure.move rfl) rfl ?_
  refine OL.pure (Pure.neq rfl rfl) rfl ?_
  refine OL.cast (.bool false) 68 rfl (rfl) ?_
  refine OL.nil ?_
  refine TE.condF rfl rfl ?_
  refine TE.skip ?_
  refine TE.seq ?_
  refine TE.seq ?_
  refine TE.region ?_
  refine OL.pure (Pure.move rfl) rfl ?_
  refine OL.nil ?_
  refine TE.join (σ := List Nat) [0, 1, 7, 8, 12] (fun s_ w_ => Dk 93 97 w_ d 20 ((fun _ => zb)) (0) (decide (Int.tmod m0 2 ≠ 0)) s_ ∧ (∀ k_ ∈ s_, w.heap.size ≤ k_) ∧ Chg [] w w_) (fun s_ => [(0, .int .i64 (↑z0)), (1, .int .i64 (↑z1)), (7, .bool (decide (Int.tmod m0 2 ≠ 0))), (8, .int .i64 (↑m1)), (12, .pointer (some ⟨d, 0, none⟩))]) rfl (fun hdn hj7 => ?_) (fun hdn hj7 => ?_) (fun s_ w_ h_ => ?_)
  ·
    refine TE.region ?_
    refine OL.pure (Pure.move rfl) rfl ?_
    refine OL.call rfl Tryd.call21 rfl (dfail_law d 20 0 _ hD) ?_
    rintro _ w8 ⟨ks8, rfl, hD8, hc8, hg8⟩
    have hksn : ∀ k_ ∈ ks8, w.heap.size ≤ k_ := fun k_ hk_ => (hg8 k_ hk_).elim (hks k_) (fun h_ => Nat.le_trans hC.size h_)
    replace hC := hC.trans hc8 (fun k_ hk_ => .inr (hks k_ hk_))
    have hks := hksn; have hD := hD8
    refine ⟨_, rfl, ?_⟩
    refine OL.nil ?_
    exact TE.sub [0, 1, 7, 8, 12] rfl (hj7 _ _ ⟨by rw [decide_eq_true hdn]; exact hD, hks, hC⟩)
  ·
    refine TE.skip ?_
    exact TE.sub [0, 1, 7, 8, 12] rfl (hj7 _ _ ⟨by rw [decide_eq_false hdn]; exact hD, hks, hC⟩)
  ·
    revert s_ w_ h_
    rintro ks w7 ⟨hD, hks, hC⟩
    by_cases hr : z0 < 0 ∨ z1 < 4 ∨ 20 - z1 < z0
    ·
      refine TE.seq ?_
      refine TE.region ?_
      refine OL.pure (Pure.assign rfl) rfl ?_
      refine OL.pure (Pure.assign rfl) rfl ?_
      refine OL.nil ?_
      refine TE.seq ?_
      refine TE.seq ?_
      refine TE.meet (σ := List Nat) [0, 1, 8, 12, 14, 15, 83] (fun s_ w_ => Dk 93 97 w_ d 20 ((fun _ => zb)) (0) (decide (Int.tmod m0 2 ≠ 0)) s_ ∧ (∀ k_ ∈ s_, w.heap.size ≤ k_) ∧ Chg [] w w_) (fun s_ => [(0, .int .i64 (↑z0)), (1, .int .i64 (↑z1)), (8, .int .i64 (↑m1)), (12, .pointer (some ⟨d, 0, none⟩)), (14, .int .i64 (3)), (15, .int .i64 (0)), (83, .bool true)]) (fun hj9 => ?_) (fun s_ w_ h_ => ?_)
      ·
        by_cases hr1 : z0 < 0
        ·
          refine TE.region ?_
          refine OL.pure (Pure.move rfl) rfl ?_
          refine OL.pure (Pure.lss rfl rfl) rfl ?_
          refine OL.cast (.bool true) 73 rfl (congrArg Value.bool (decide_eq_true (hr1))) ?_
          refine OL.pure (Pure.move rfl) rfl ?_
          refine OL.pass rfl rfl rfl rfl rfl ?_
          refine OL.pass rfl rfl rfl rfl rfl ?_
          refine OL.pure (Pure.pickT rfl rfl) rfl ?_
          refine OL.pure (Pure.move rfl) rfl ?_
          refine OL.pass rfl rfl rfl rfl rfl ?_
          refine OL.pass rfl rfl rfl rfl rfl ?_
          refine OL.pass rfl rfl rfl rfl rfl ?_
          refine OL.pass rfl rfl rfl rfl rfl ?_
          refine OL.pure (Pure.pickT rfl rfl) rfl ?_
          refine OL.nil ?_
          exact hj9 _ _ ⟨hD, hks, hC⟩ _ rfl
        ·
          by_cases hr2 : z1 < 4
          ·
            refine TE.region ?_
            refine OL.pure (Pure.move rfl) rfl ?_
            refine OL.pure (Pure.lss rfl rfl) rfl ?_
            refine OL.cast (.bool false) 73 rfl (congrArg Value.bool (decide_eq_false (hr1))) ?_
            refine OL.pure (Pure.move rfl) rfl ?_
            refine OL.want rfl rfl rfl (Pure.move rfl _) rfl ?_
            refine OL.want rfl rfl rfl (Pure.lss rfl rfl _) rfl ?_
            refine OL.cast (.bool true) 76 rfl (congrArg Value.bool (decide_eq_true (hr2))) ?_
            refine OL.pure (Pure.pickF rfl rfl) rfl ?_
            refine OL.pure (Pure.move rfl) rfl ?_
            refine OL.pass rfl rfl rfl rfl rfl ?_
            refine OL.pass rfl rfl rfl rfl rfl ?_
            refine OL.pass rfl rfl rfl rfl rfl ?_
            refine OL.pass rfl rfl rfl rfl rfl ?_
            refine OL.pure (Pure.pickT rfl rfl) rfl ?_
            refine OL.nil ?_
            exact hj9 _ _ ⟨hD, hks, hC⟩ _ rfl
          ·
            refine TE.region ?_
            refine OL.pure (Pure.move rfl) rfl ?_
            refine OL.pure (Pure.lss rfl rfl) rfl ?_
            refine OL.cast (.bool false) 73 rfl (congrArg Value.bool (decide_eq_false (hr1))) ?_
            refine OL.pure (Pure.move rfl) rfl ?_
            refine OL.want rfl rfl rfl (Pure.move rfl _) rfl ?_
            refine OL.want rfl rfl rfl (Pure.lss rfl rfl _) rfl ?_
            refine OL.cast (.bool false) 76 rfl (congrArg Value.bool (decide_eq_false (hr2))) ?_
            refine OL.pure (Pure.pickF rfl rfl) rfl ?_
            refine OL.pure (Pure.move rfl) rfl ?_
            refine OL.want rfl rfl rfl (Pure.move rfl _) rfl ?_
            refine OL.want rfl rfl rfl (Pure.move rfl _) rfl ?_
            refine OL.want rfl rfl rfl (Pure.sub rfl rfl (i64 (by omega) (by omega)) _) rfl ?_
            refine OL.want rfl rfl rfl (Pure.gtr rfl rfl _) rfl ?_
            refine OL.cast (.bool true) 82 rfl (congrArg Value.bool (decide_eq_true (by omega))) ?_
            refine OL.pure (Pure.pickF rfl rfl) rfl ?_
            refine OL.nil ?_
            exact hj9 _ _ ⟨hD, hks, hC⟩ _ rfl
      ·
        revert s_ w_ h_
        rintro ks w9 ⟨hD, hks, hC⟩
        refine TE.condT rfl rfl ?_
        refine TE.region ?_
        refine OL.pure (Pure.assign rfl) rfl ?_
        refine OL.pure (Pure.assign rfl) rfl ?_
        refine OL.nil ?_
        refine TE.seq ?_
        refine TE.region ?_
        refine OL.pure (Pure.move rfl) rfl ?_
        refine OL.pure (Pure.move rfl) rfl ?_
        refine OL.pure (Pure.move rfl) rfl ?_
        refine OL.call rfl Tryd.call14 rfl (open_bad _ z0 z1 2 (by decide) _ (fun w_ h_ => check_range d 20 0 _ z0 z1 (by decide) (by omega) w_ (hD.chg0 h_))) ?_
        rintro _ w10 ⟨rfl, hc10⟩
        replace hD := hD.chg0 hc10
        replace hC := hC.then_ hc10
        refine ⟨_, rfl, ?_⟩
        refine OL.pure (Pure.move rfl) rfl ?_
        refine OL.pure (Pure.extract (vs := [.pointer none, .slice none 0 0, .int .i64 2]) (i := 0) rfl rfl) rfl ?_
        refine OL.pure (Pure.extract (vs := [.pointer none, .slice none 0 0, .int .i64 2]) (i := 1) rfl rfl) rfl ?_
        refine OL.pure (Pure.extract (vs := [.pointer none, .slice none 0 0, .int .i64 2]) (i := 2) rfl rfl) rfl ?_
        refine OL.pure (Pure.assign rfl) rfl ?_
        refine OL.pure (Pure.assign rfl) rfl ?_
        refine OL.pure (Pure.assign rfl) rfl ?_
        refine OL.nil ?_
        refine TE.seq ?_
        refine TE.seq ?_
        refine TE.region ?_
        refine OL.pure (Pure.move rfl) rfl ?_
        refine OL.pure (Pure.neqNil Tryd.underlying27 rfl rfl) rfl ?_
        refine OL.pure (Pure.move rfl) rfl ?_
        refine OL.want rfl rfl rfl (Pure.move rfl _) rfl ?_
        refine OL.want rfl rfl rfl (Pure.lenSlice Tryd.runUnderlying38 rfl _) rfl ?_
        refine OL.want rfl rfl rfl (Pure.neq rfl rfl _) rfl ?_
        refine OL.cast (.bool false) 98 rfl (rfl) ?_
        refine OL.pure (Pure.pickF rfl rfl) rfl ?_
        refine OL.pure (Pure.move rfl) rfl ?_
        refine OL.want rfl rfl rfl (Pure.move rfl _) rfl ?_
        refine OL.want rfl rfl rfl (Pure.move rfl _) rfl ?_
        refine OL.want rfl rfl rfl (Pure.neq rfl rfl _) rfl ?_
        refine OL.cast (.bool false) 103 rfl (rfl) ?_
        refine OL.pure (Pure.pickF rfl rfl) rfl ?_
        refine OL.pure (Pure.move rfl) rfl ?_
        refine OL.want rfl rfl rfl (Pure.move rfl _) rfl ?_
        refine OL.want rfl rfl rfl (Pure.move rfl _) rfl ?_
        refine OL.want rfl rfl rfl (Pure.move rfl _) rfl ?_
        refine OL.callG rfl rfl rfl rfl Tryd.call13 rfl (format_bad _ z0 z1 2 (by decide) _ (fun w_ h_ => check_range d 20 0 _ z0 z1 (by decide) (by omega) w_ (hD.chg0 h_))) ?_
        rintro _ w11 ⟨rfl, hc11⟩
        replace hD := hD.chg0 hc11
        replace hC := hC.then_ hc11
        refine ⟨_, rfl, ?_⟩
        by_cases hn0 : m1 < 0 ∨ 131072 < m1
        ·
          refine OL.want rfl rfl rfl (Pure.move rfl _) rfl ?_
          refine OL.want rfl rfl rfl (Pure.neq rfl rfl _) rfl ?_
          refine OL.cast (.bool false) 111 rfl (rfl) ?_
          refine OL.pure (Pure.pickF rfl rfl) rfl ?_
          refine OL.nil ?_
          refine TE.condF rfl rfl ?_
          refine TE.skip ?_
          refine TE.seq ?_
          refine TE.region ?_
          refine OL.pure (Pure.move rfl) rfl ?_
          refine OL.call rfl Tryd.call23 rfl (rneed_no m1 (by omega) _) ?_
          rintro _ _ ⟨rfl, rfl⟩
          refine ⟨_, rfl, ?_⟩
          refine OL.pure (Pure.move rfl) rfl ?_
          refine OL.pure (Pure.extract (vs := [.int .i64 0, .int .i64 2]) (i := 0) rfl rfl) rfl ?_
          refine OL.pure (Pure.extract (vs := [.int .i64 0, .int .i64 2]) (i := 1) rfl rfl) rfl ?_
          refine OL.pure (Pure.assign rfl) rfl ?_
          refine OL.pure (Pure.assign rfl) rfl ?_
          refine OL.nil ?_
          refine TE.seq ?_
          refine TE.seq ?_
          refine TE.meet (σ := Unit) [8, 19, 20, 123] (fun s_ w_ => Chg [] w w_) (fun s_ => [(8, .int .i64 (↑m1)), (19, .int .i64 (0)), (20, .int .i64 (2)), (123, .bool true)]) (fun hj12 => ?_) (fun s_ w_ h_ => ?_)
          ·
            by_cases hn1 : m1 < 0
            ·
              refine TE.region ?_
              refine OL.pure (Pure.move rfl) rfl ?_
              refine OL.pure (Pure.lss rfl rfl) rfl ?_
              refine OL.cast (.bool true) 119 rfl (congrArg Value.bool (decide_eq_true (hn1))) ?_
              refine OL.pure (Pure.move rfl) rfl ?_
              refine OL.pass rfl rfl rfl rfl rfl ?_
              refine OL.pass rfl rfl rfl rfl rfl ?_
              refine OL.pure (Pure.pickT rfl rfl) rfl ?_
              refine OL.nil ?_
              exact hj12 () _ hC _ rfl
            ·
              refine TE.region ?_
              refine OL.pure (Pure.move rfl) rfl ?_
              refine OL.pure (Pure.lss rfl rfl) rfl ?_
              refine OL.cast (.bool false) 119 rfl (congrArg Value.bool (decide_eq_false (hn1))) ?_
              refine OL.pure (Pure.move rfl) rfl ?_
              refine OL.want rfl rfl rfl (Pure.move rfl _) rfl ?_
              refine OL.want rfl rfl rfl (Pure.gtr rfl rfl _) rfl ?_
              refine OL.cast (.bool true) 122 rfl (congrArg Value.bool (decide_eq_true (by omega))) ?_
              refine OL.pure (Pure.pickF rfl rfl) rfl ?_
              refine OL.nil ?_
              exact hj12 () _ hC _ rfl
          ·
            revert s_ w_ h_
            rintro ⟨⟩ w12 hC
            try dsimp only
            refine TE.condT rfl rfl ?_
            refine TE.seq ?_
            refine TE.region ?_
            refine OL.pure (Pure.move rfl) rfl ?_
            refine OL.pure (Pure.neq rfl rfl) rfl ?_
            refine OL.cast (.bool false) 125 rfl (rfl) ?_
            refine OL.pure (Pure.move rfl) rfl ?_
            refine OL.want rfl rfl rfl (Pure.move rfl _) rfl ?_
            refine OL.want rfl rfl rfl (Pure.neq rfl rfl _) rfl ?_
            refine OL.cast (.bool false) 128 rfl (rfl) ?_
            refine OL.pure (Pure.pickF rfl rfl) rfl ?_
            refine OL.nil ?_
            refine TE.condF rfl rfl ?_
            refine TE.skip ?_
            refine TE.seq ?_
            refine TE.region ?_
            refine OL.call rfl Tryd.call10 rfl (fresh_any 8 (by decide) (by decide) _ (hK.chg0 hC) (hF.chg0 hC)) ?_
            rintro _ w13 ⟨V13, ks13, rs13, d, r, rfl, hD, hR, hI, hc13, hkk, hrr⟩
            have hks : ∀ k_ ∈ ks13, w.heap.size ≤ k_ := fun k_ hk_ => Nat.le_trans hC.size (hkk k_ hk_)
            have hrs : ∀ k_ ∈ rs13, w.heap.size ≤ k_ := fun k_ hk_ => Nat.le_trans hC.size (hrr k_ hk_)
            replace hC := hC.then_ hc13
            refine ⟨_, rfl, ?_⟩
            refine OL.pure (Pure.move rfl) rfl ?_
            refine OL.pure (Pure.extract (vs := [.pointer (some ⟨d, 0, none⟩), .pointer (some ⟨r, 0, none⟩), .bool true]) (i := 0) rfl rfl) rfl ?_
            refine OL.pure (Pure.extract (vs := [.pointer (some ⟨d, 0, none⟩), .pointer (some ⟨r, 0, none⟩), .bool true]) (i := 1) rfl rfl) rfl ?_
            refine OL.pure (Pure.extract (vs := [.pointer (some ⟨d, 0, none⟩), .pointer (some ⟨r, 0, none⟩), .bool true]) (i := 2) rfl rfl) rfl ?_
            refine OL.pure (Pure.assign rfl) rfl ?_
            refine OL.pure (Pure.assign rfl) rfl ?_
            refine OL.pure (Pure.assign rfl) rfl ?_
            refine OL.nil ?_
            refine TE.seq ?_
            refine TE.seq ?_
            refine TE.region ?_
            refine OL.pure (Pure.move rfl) rfl ?_
            refine OL.pure (Pure.not rfl) rfl ?_
            refine OL.nil ?_
            refine TE.condF rfl rfl ?_
            refine TE.skip ?_
            refine TE.seq ?_
            refine TE.seq ?_
            refine TE.region ?_
            refine OL.pure (Pure.move rfl) rfl ?_
            obtain ⟨mm, hmm⟩ : ∃ m, m = 131073 := ⟨_, rfl⟩
            refine OL.makeSlice (k := .i64) (k' := .i64) (m := mm) (c := mm) (v := .int .u8 0) (by rw [hmm]; rfl) (by rw [hmm]; rfl) Tryd.underlying34 info5 rfl rfl rfl (Nat.le_refl _) (by show 1 * mm ≤ _; omega) (by omega) rfl ?_
            intro gb w14 hb hc14 hg_gb
            have ge_gb : w.heap.size ≤ gb := by have := hC.size; omega
            replace hD := hD.chg0 hc14
            replace hR := hR.chg0 hc14
            replace hC := hC.then_ hc14
            replace hb : Blk w14 gb 5 (bv (List.replicate mm 0)) := by rw [bv_zeros]; exact hb
            have hml : (List.replicate mm (0 : UInt8)).length = mm := List.length_replicate
            refine OL.val (Run.toStr (bs := List.replicate mm 0) Tryd.underlying34 Tryd.underlying5 Tryd.underlying9 rfl hb hml (by rw [List.drop_zero]; exact List.take_of_length_le (by rw [bv_len, hml]; exact Nat.le_refl _))) rfl ?_
            refine OL.call rfl Tryd.call19 rfl (app_long d 20 0 3 8 r (by decide) (by decide) (by decide) (by decide) (by decide) (List.replicate mm 0) (by rw [hml]; omega) _ hD hR (hK.chg0 hC) (hF.chg0 hC)) ?_
            rintro _ w15 ⟨rfl, hc15⟩
            replace hD := hD.chg0 hc15
            replace hR := hR.chg0 hc15
            replace hb := hb.chg0 hc15
            replace hC := hC.then_ hc15
            refine ⟨_, rfl, ?_⟩
            refine OL.pure (Pure.move rfl) rfl ?_
            refine OL.pure (Pure.extract (vs := [.int .i64 0, .int .i64 5]) (i := 0) rfl rfl) rfl ?_
            refine OL.pure (Pure.extract (vs := [.int .i64 0, .int .i64 5]) (i := 1) rfl rfl) rfl ?_
            refine OL.pure (Pure.assign rfl) rfl ?_
            refine OL.pure (Pure.assign rfl) rfl ?_
            refine OL.nil ?_
            refine TE.seq ?_
            refine TE.region ?_
            refine OL.pure (Pure.move rfl) rfl ?_
            refine OL.pure (Pure.neq rfl rfl) rfl ?_
            refine OL.cast (.bool false) 153 rfl (rfl) ?_
            refine OL.nil ?_
            refine TE.condF rfl rfl ?_
            refine TE.skip ?_
            refine TE.seq ?_
            refine TE.region ?_
            refine OL.pure (Pure.assign rfl) rfl ?_
            refine OL.nil ?_
            refine TE.seq ?_
            refine TE.region ?_
            refine OL.pure (Pure.move rfl) rfl ?_
            refine OL.call rfl Tryd.call19 rfl (app_nil _ _) ?_
            rintro _ w16 ⟨rfl, hc16⟩
            replace hC := hC.then_ hc16
            refine ⟨_, rfl, ?_⟩
            refine OL.pure (Pure.move rfl) rfl ?_
            refine OL.pure (Pure.extract (vs := [.int .i64 0, .int .i64 1]) (i := 0) rfl rfl) rfl ?_
            refine OL.pure (Pure.extract (vs := [.int .i64 0, .int .i64 1]) (i := 1) rfl rfl) rfl ?_
            refine OL.pure (Pure.assign rfl) rfl ?_
            refine OL.pure (Pure.assign rfl) rfl ?_
            refine OL.nil ?_
            refine TE.seq ?_
            refine TE.region ?_
            refine OL.pure (Pure.move rfl) rfl ?_
            refine OL.pure (Pure.eql rfl rfl) rfl ?_
            refine OL.cast (.bool true) 160 rfl (rfl) ?_
            refine OL.pure (Pure.move rfl) rfl ?_
            refine OL.want rfl rfl rfl (Pure.move rfl _) rfl ?_
            refine OL.want rfl rfl rfl (Pure.eql rfl rfl _) rfl ?_
            refine OL.cast (.bool true) 163 rfl (rfl) ?_
            refine OL.pure (Pure.pickT rfl rfl) rfl ?_
            refine OL.pure (Pure.move rfl) rfl ?_
            refine OL.want rfl rfl rfl (Pure.move rfl _) rfl ?_
            refine OL.callG rfl rfl rfl rfl Tryd.call20 rfl (sync_nil _) ?_
            rintro _ w17 ⟨rfl, hc17⟩
            replace hC := hC.then_ hc17
            refine ⟨_, rfl, ?_⟩
            refine OL.want rfl rfl rfl (Pure.eql rfl rfl _) rfl ?_
            refine OL.cast (.bool true) 168 rfl (rfl) ?_
            refine OL.pure (Pure.pickT rfl rfl) rfl ?_
            refine OL.pure (Pure.move rfl) rfl ?_
            refine OL.want rfl rfl rfl (Pure.move rfl _) rfl ?_
            refine OL.want rfl rfl rfl (Pure.move rfl _) rfl ?_
            refine OL.callG rfl rfl rfl rfl Tryd.call25 rfl (trim_nil _ _) ?_
            rintro _ w18 ⟨rfl, hc18⟩
            replace hC := hC.then_ hc18
            refine ⟨_, rfl, ?_⟩
            refine OL.want rfl rfl rfl (Pure.eql rfl rfl _) rfl ?_
            refine OL.cast (.bool true) 174 rfl (rfl) ?_
            refine OL.pure (Pure.pickT rfl rfl) rfl ?_
            refine OL.pure (Pure.move rfl) rfl ?_
            refine OL.want rfl rfl rfl (Pure.move rfl _) rfl ?_
            refine OL.callG rfl rfl rfl rfl Tryd.call29 rfl (failed_nil _) ?_
            rintro _ _ ⟨rfl, rfl⟩
            refine ⟨_, rfl, ?_⟩
            refine OL.want rfl rfl rfl (Pure.eql rfl rfl _) rfl ?_
            refine OL.cast (.bool true) 179 rfl (rfl) ?_
            refine OL.pure (Pure.pickT rfl rfl) rfl ?_
            refine OL.pure (Pure.move rfl) rfl ?_
            refine OL.want rfl rfl rfl (Pure.move rfl _) rfl ?_
            refine OL.callG rfl rfl rfl rfl Tryd.call15 rfl (First_nil _) ?_
            rintro _ _ ⟨rfl, rfl⟩
            refine ⟨_, rfl, ?_⟩
            refine OL.want rfl rfl rfl (Pure.eql rfl rfl _) rfl ?_
            refine OL.cast (.bool true) 184 rfl (rfl) ?_
            refine OL.pure (Pure.pickT rfl rfl) rfl ?_
            refine OL.pure (Pure.move rfl) rfl ?_
            refine OL.want rfl rfl rfl (Pure.move rfl _) rfl ?_
            refine OL.callG rfl rfl rfl rfl Tryd.call16 rfl (next_nil _) ?_
            rintro _ _ ⟨rfl, rfl⟩
            refine ⟨_, rfl, ?_⟩
            refine OL.want rfl rfl rfl (Pure.eql rfl rfl _) rfl ?_
            refine OL.cast (.bool true) 189 rfl (rfl) ?_
            refine OL.pure (Pure.pickT rfl rfl) rfl ?_
            refine OL.pure (Pure.move rfl) rfl ?_
            refine OL.want rfl rfl rfl (Pure.move rfl _) rfl ?_
            refine OL.callG rfl rfl rfl rfl Tryd.call30 rfl (synced_nil _) ?_
            rintro _ _ ⟨rfl, rfl⟩
            refine ⟨_, rfl, ?_⟩
            refine OL.want rfl rfl rfl (Pure.eql rfl rfl _) rfl ?_
            refine OL.cast (.bool true) 194 rfl (rfl) ?_
            refine OL.pure (Pure.pickT rfl rfl) rfl ?_
            refine OL.pure (Pure.move rfl) rfl ?_
            refine OL.want rfl rfl rfl (Pure.move rfl _) rfl ?_
            refine OL.callG rfl rfl rfl rfl Tryd.call17 rfl (free_nil _) ?_
            rintro _ _ ⟨rfl, rfl⟩
            refine ⟨_, rfl, ?_⟩
            refine OL.want rfl rfl rfl (Pure.eql rfl rfl _) rfl ?_
            refine OL.cast (.bool true) 199 rfl (rfl) ?_
            refine OL.pure (Pure.pickT rfl rfl) rfl ?_
            refine OL.pure (Pure.move rfl) rfl ?_
            refine OL.want rfl rfl rfl (Pure.move rfl _) rfl ?_
            refine OL.callG rfl rfl rfl rfl Tryd.call31 rfl (generation_nil _) ?_
            rintro _ _ ⟨rfl, rfl⟩
            refine ⟨_, rfl, ?_⟩
            refine OL.want rfl rfl rfl (Pure.eql rfl rfl _) rfl ?_
            refine OL.cast (.bool true) 204 rfl (rfl) ?_
            refine OL.pure (Pure.pickT rfl rfl) rfl ?_
            refine OL.pure (Pure.assign rfl) rfl ?_
            refine OL.nil ?_
            exact TE.ret (vs := [.bool true]) Tryd.results7 (⟨rfl, trivial⟩) ⟨rfl, hC⟩
        ·
          obtain ⟨k, rfl⟩ := nat_of (z := m1) (by omega)
          refine OL.want rfl rfl rfl (Pure.move rfl _) rfl ?_
          refine OL.want rfl rfl rfl (Pure.neq rfl rfl _) rfl ?_
          refine OL.cast (.bool false) 111 rfl (rfl) ?_
          refine OL.pure (Pure.pickF rfl rfl) rfl ?_
          refine OL.nil ?_
          refine TE.condF rfl rfl ?_
          refine TE.skip ?_
          refine TE.seq ?_
          refine TE.region ?_
          refine OL.pure (Pure.move rfl) rfl ?_
          refine OL.call rfl Tryd.call23 rfl (rneed_ok k (by omega) _) ?_
          rintro _ _ ⟨rfl, rfl⟩
          refine ⟨_, rfl, ?_⟩
          refine OL.pure (Pure.move rfl) rfl ?_
          refine OL.pure (Pure.extract (vs := [.int .i64 (need (42 + k) : Int), .int .i64 0]) (i := 0) rfl rfl) rfl ?_
          refine OL.pure (Pure.extract (vs := [.int .i64 (need (42 + k) : Int), .int .i64 0]) (i := 1) rfl rfl) rfl ?_
          refine OL.pure (Pure.assign rfl) rfl ?_
          refine OL.pure (Pure.assign rfl) rfl ?_
          refine OL.nil ?_
          refine TE.seq ?_
          refine TE.seq ?_
          refine TE.region ?_
          refine OL.pure (Pure.move rfl) rfl ?_
          refine OL.pure (Pure.lss rfl rfl) rfl ?_
          refine OL.cast (.bool false) 119 rfl (congrArg Value.bool (decide_eq_false (by omega))) ?_
          refine OL.pure (Pure.move rfl) rfl ?_
          refine OL.want rfl rfl rfl (Pure.move rfl _) rfl ?_
          refine OL.want rfl rfl rfl (Pure.gtr rfl rfl _) rfl ?_
          refine OL.cast (.bool false) 122 rfl (congrArg Value.bool (decide_eq_false (by omega))) ?_
          refine OL.pure (Pure.pickF rfl rfl) rfl ?_
          refine OL.nil ?_
          refine TE.condF rfl rfl ?_
          refine TE.seq ?_
          refine TE.region ?_
          refine OL.pure (Pure.move rfl) rfl ?_
          refine OL.pure (Pure.neq rfl rfl) rfl ?_
          refine OL.cast (.bool false) 131 rfl (rfl) ?_
          refine OL.pure (Pure.move rfl) rfl ?_
          refine OL.want rfl rfl rfl (Pure.move rfl _) rfl ?_
          refine OL.want rfl rfl rfl (Pure.move rfl _) rfl ?_
          refine OL.callG rfl rfl rfl rfl Tryd.call24 rfl (refneed_any k (by omega) _) ?_
          rintro _ _ ⟨rfl, rfl⟩
          refine ⟨_, rfl, ?_⟩
          refine OL.want rfl rfl rfl (Pure.neq rfl rfl _) rfl ?_
          refine OL.cast (.bool false) 136 rfl (congrArg Value.bool (decide_eq_false (by omega))) ?_
          refine OL.pure (Pure.pickF rfl rfl) rfl ?_
          refine OL.nil ?_
          refine TE.condF rfl rfl ?_
          refine TE.skip ?_
          refine TE.seq ?_
          refine TE.region ?_
          refine OL.call rfl Tryd.call10 rfl (fresh_any 8 (by decide) (by decide) _ (hK.chg0 hC) (hF.chg0 hC)) ?_
          rintro _ w19 ⟨V19, ks19, rs19, d, r, rfl, hD, hR, hI, hc19, hkk, hrr⟩
          have hks : ∀ k_ ∈ ks19, w.heap.size ≤ k_ := fun k_ hk_ => Nat.le_trans hC.size (hkk k_ hk_)
          have hrs : ∀ k_ ∈ rs19, w.heap.size ≤ k_ := fun k_ hk_ => Nat.le_trans hC.size (hrr k_ hk_)
          replace hC := hC.then_ hc19
          refine ⟨_, rfl, ?_⟩
          refine OL.pure (Pure.move rfl) rfl ?_
          refine OL.pure (Pure.extract (vs := [.pointer (some ⟨d, 0, none⟩), .pointer (some ⟨r, 0, none⟩), .bool true]) (i := 0) rfl rfl) rfl ?_
          refine OL.pure (Pure.extract (vs := [.pointer (some ⟨d, 0, none⟩), .pointer (some ⟨r, 0, none⟩), .bool true]) (i := 1) rfl rfl) rfl ?_
          refine OL.pure (Pure.extract (vs := [.pointer (some ⟨d, 0, none⟩), .pointer (some ⟨r, 0, none⟩), .bool true]) (i := 2) rfl rfl) rfl ?_
          refine OL.pure (Pure.assign rfl) rfl ?_
          refine OL.pure (Pure.assign rfl) rfl ?_
          refine OL.pure (Pure.assign rfl) rfl ?_
          refine OL.nil ?_
          refine TE.seq ?_
          refine TE.seq ?_
          refine TE.region ?_
          refine OL.pure (Pure.move rfl) rfl ?_
          refine OL.pure (Pure.not rfl) rfl ?_
          refine OL.nil ?_
          refine TE.condF rfl rfl ?_
          refine TE.skip ?_
          refine TE.seq ?_
          refine TE.seq ?_
          refine TE.region ?_
          refine OL.pure (Pure.move rfl) rfl ?_
          obtain ⟨mm, hmm⟩ : ∃ m, m = 131073 := ⟨_, rfl⟩
          refine OL.makeSlice (k := .i64) (k' := .i64) (m := mm) (c := mm) (v := .int .u8 0) (by rw [hmm]; rfl) (by rw [hmm]; rfl) Tryd.underlying34 info5 rfl rfl rfl (Nat.le_refl _) (by show 1 * mm ≤ _; omega) (by omega) rfl ?_
          intro gb w20 hb hc20 hg_gb
          have ge_gb : w.heap.size ≤ gb := by have := hC.size; omega
          replace hD := hD.chg0 hc20
          replace hR := hR.chg0 hc20
          replace hC := hC.then_ hc20
          replace hb : Blk w20 gb 5 (bv (List.replicate mm 0)) := by rw [bv_zeros]; exact hb
          have hml : (List.replicate mm (0 : UInt8)).length = mm := List.length_replicate
          refine OL.val (Run.toStr (bs := List.replicate mm 0) Tryd.underlying34 Tryd.underlying5 Tryd.underlying9 rfl hb hml (by rw [List.drop_zero]; exact List.take_of_length_le (by rw [bv_len, hml]; exact Nat.le_refl _))) rfl ?_
          refine OL.call rfl Tryd.call19 rfl (app_long d 20 0 3 8 r (by decide) (by decide) (by decide) (by decide) (by decide) (List.replicate mm 0) (by rw [hml]; omega) _ hD hR (hK.chg0 hC) (hF.chg0 hC)) ?_
          rintro _ w21 ⟨rfl, hc21⟩
          replace hD := hD.chg0 hc21
          replace hR := hR.chg0 hc21
          replace hb := hb.chg0 hc21
          replace hC := hC.then_ hc21
          refine ⟨_, rfl, ?_⟩
          refine OL.pure (Pure.move rfl) rfl ?_
          refine OL.pure (Pure.extract (vs := [.int .i64 0, .int .i64 5]) (i := 0) rfl rfl) rfl ?_
          refine OL.pure (Pure.extract (vs := [.int .i64 0, .int .i64 5]) (i := 1) rfl rfl) rfl ?_
          refine OL.pure (Pure.assign rfl) rfl ?_
          refine OL.pure (Pure.assign rfl) rfl ?_
          refine OL.nil ?_
          refine TE.seq ?_
          refine TE.region ?_
          refine OL.pure (Pure.move rfl) rfl ?_
          refine OL.pure (Pure.neq rfl rfl) rfl ?_
          refine OL.cast (.bool false) 153 rfl (rfl) ?_
          refine OL.nil ?_
          refine TE.condF rfl rfl ?_
          refine TE.skip ?_
          refine TE.seq ?_
          refine TE.region ?_
          refine OL.pure (Pure.assign rfl) rfl ?_
          refine OL.nil ?_
          refine TE.seq ?_
          refine TE.region ?_
          refine OL.pure (Pure.move rfl) rfl ?_
          refine OL.call rfl Tryd.call19 rfl (app_nil _ _) ?_
          rintro _ w22 ⟨rfl, hc22⟩
          replace hC := hC.then_ hc22
          refine ⟨_, rfl, ?_⟩
          refine OL.pure (Pure.move rfl) rfl ?_
          refine OL.pure (Pure.extract (vs := [.int .i64 0, .int .i64 1]) (i := 0) rfl rfl) rfl ?_
          refine OL.pure (Pure.extract (vs := [.int .i64 0, .int .i64 1]) (i := 1) rfl rfl) rfl ?_
          refine OL.pure (Pure.assign rfl) rfl ?_
          refine OL.pure (Pure.assign rfl) rfl ?_
          refine OL.nil ?_
          refine TE.seq ?_
          refine TE.region ?_
          refine OL.pure (Pure.move rfl) rfl ?_
          refine OL.pure (Pure.eql rfl rfl) rfl ?_
          refine OL.cast (.bool true) 160 rfl (rfl) ?_
          refine OL.pure (Pure.move rfl) rfl ?_
          refine OL.want rfl rfl rfl (Pure.move rfl _) rfl ?_
          refine OL.want rfl rfl rfl (Pure.eql rfl rfl _) rfl ?_
          refine OL.cast (.bool true) 163 rfl (rfl) ?_
          refine OL.pure (Pure.pickT rfl rfl) rfl ?_
          refine OL.pure (Pure.move rfl) rfl ?_
          refine OL.want rfl rfl rfl (Pure.move rfl _) rfl ?_
          refine OL.callG rfl rfl rfl rfl Tryd.call20 rfl (sync_nil _) ?_
          rintro _ w23 ⟨rfl, hc23⟩
          replace hC := hC.then_ hc23
          refine ⟨_, rfl, ?_⟩
          refine OL.want rfl rfl rfl (Pure.eql rfl rfl _) rfl ?_
          refine OL.cast (.bool true) 168 rfl (rfl) ?_
          refine OL.pure (Pure.pickT rfl rfl) rfl ?_
          refine OL.pure (Pure.move rfl) rfl ?_
          refine OL.want rfl rfl rfl (Pure.move rfl _) rfl ?_
          refine OL.want rfl rfl rfl (Pure.move rfl _) rfl ?_
          refine OL.callG rfl rfl rfl rfl Tryd.call25 rfl (trim_nil _ _) ?_
          rintro _ w24 ⟨rfl, hc24⟩
          replace hC := hC.then_ hc24
          refine ⟨_, rfl, ?_⟩
          refine OL.want rfl rfl rfl (Pure.eql rfl rfl _) rfl ?_
          refine OL.cast (.bool true) 174 rfl (rfl) ?_
          refine OL.pure (Pure.pickT rfl rfl) rfl ?_
          refine OL.pure (Pure.move rfl) rfl ?_
          refine OL.want rfl rfl rfl (Pure.move rfl _) rfl ?_
          refine OL.callG rfl rfl rfl rfl Tryd.call29 rfl (failed_nil _) ?_
          rintro _ _ ⟨rfl, rfl⟩
          refine ⟨_, rfl, ?_⟩
          refine OL.want rfl rfl rfl (Pure.eql rfl rfl _) rfl ?_
          refine OL.cast (.bool true) 179 rfl (rfl) ?_
          refine OL.pure (Pure.pickT rfl rfl) rfl ?_
          refine OL.pure (Pure.move rfl) rfl ?_
          refine OL.want rfl rfl rfl (Pure.move rfl _) rfl ?_
          refine OL.callG rfl rfl rfl rfl Tryd.call15 rfl (First_nil _) ?_
          rintro _ _ ⟨rfl, rfl⟩
          refine ⟨_, rfl, ?_⟩
          refine OL.want rfl rfl rfl (Pure.eql rfl rfl _) rfl ?_
          refine OL.cast (.bool true) 184 rfl (rfl) ?_
          refine OL.pure (Pure.pickT rfl rfl) rfl ?_
          refine OL.pure (Pure.move rfl) rfl ?_
          refine OL.want rfl rfl rfl (Pure.move rfl _) rfl ?_
          refine OL.callG rfl rfl rfl rfl Tryd.call16 rfl (next_nil _) ?_
          rintro _ _ ⟨rfl, rfl⟩
          refine ⟨_, rfl, ?_⟩
          refine OL.want rfl rfl rfl (Pure.eql rfl rfl _) rfl ?_
          refine OL.cast (.bool true) 189 rfl (rfl) ?_
          refine OL.pure (Pure.pickT rfl rfl) rfl ?_
          refine OL.pure (Pure.move rfl) rfl ?_
          refine OL.want rfl rfl rfl (Pure.move rfl _) rfl ?_
          refine OL.callG rfl rfl rfl rfl Tryd.call30 rfl (synced_nil _) ?_
          rintro _ _ ⟨rfl, rfl⟩
          refine ⟨_, rfl, ?_⟩
          refine OL.want rfl rfl rfl (Pure.eql rfl rfl _) rfl ?_
          refine OL.cast (.bool true) 194 rfl (rfl) ?_
          refine OL.pure (Pure.pickT rfl rfl) rfl ?_
          refine OL.pure (Pure.move rfl) rfl ?_
          refine OL.want rfl rfl rfl (Pure.move rfl _) rfl ?_
          refine OL.callG rfl rfl rfl rfl Tryd.call17 rfl (free_nil _) ?_
          rintro _ _ ⟨rfl, rfl⟩
          refine ⟨_, rfl, ?_⟩
          refine OL.want rfl rfl rfl (Pure.eql rfl rfl _) rfl ?_
          refine OL.cast (.bool true) 199 rfl (rfl) ?_
          refine OL.pure (Pure.pickT rfl rfl) rfl ?_
          refine OL.pure (Pure.move rfl) rfl ?_
          refine OL.want rfl rfl rfl (Pure.move rfl _) rfl ?_
          refine OL.callG rfl rfl rfl rfl Tryd.call31 rfl (generation_nil _) ?_
          rintro _ _ ⟨rfl, rfl⟩
          refine ⟨_, rfl, ?_⟩
          refine OL.want rfl rfl rfl (Pure.eql rfl rfl _) rfl ?_
          refine OL.cast (.bool true) 204 rfl (rfl) ?_
          refine OL.pure (Pure.pickT rfl rfl) rfl ?_
          refine OL.pure (Pure.assign rfl) rfl ?_
          refine OL.nil ?_
          exact TE.ret (vs := [.bool true]) Tryd.results7 (⟨rfl, trivial⟩) ⟨rfl, hC⟩
    ·
      refine TE.seq ?_
      refine TE.region ?_
      refine OL.pure (Pure.assign rfl) rfl ?_
      refine OL.pure (Pure.assign rfl) rfl ?_
      refine OL.nil ?_
      refine TE.seq ?_
      refine TE.seq ?_
      refine TE.region ?_
      refine OL.pure (Pure.move rfl) rfl ?_
      refine OL.pure (Pure.lss rfl rfl) rfl ?_
      refine OL.cast (.bool false) 73 rfl (congrArg Value.bool (decide_eq_false (by omega))) ?_
      refine OL.pure (Pure.move rfl) rfl ?_
      refine OL.want rfl rfl rfl (Pure.move rfl _) rfl ?_
      refine OL.want rfl rfl rfl (Pure.lss rfl rfl _) rfl ?_
      refine OL.cast (.bool false) 76 rfl (congrArg Value.bool (decide_eq_false (by omega))) ?_
      refine OL.pure (Pure.pickF rfl rfl) rfl ?_
      refine OL.pure (Pure.move rfl) rfl ?_
      refine OL.want rfl rfl rfl (Pure.move rfl _) rfl ?_
      refine OL.want rfl rfl rfl (Pure.move rfl _) rfl ?_
      refine OL.want rfl rfl rfl (Pure.sub rfl rfl (i64 (by omega) (by omega)) _) rfl ?_
      refine OL.want rfl rfl rfl (Pure.gtr rfl rfl _) rfl ?_
      refine OL.cast (.bool false) 82 rfl (congrArg Value.bool (decide_eq_false (by omega))) ?_
      refine OL.pure (Pure.pickF rfl rfl) rfl ?_
      refine OL.nil ?_
      refine TE.condF rfl rfl ?_
      refine TE.seq ?_
      refine TE.region ?_
      refine OL.pure (Pure.move rfl) rfl ?_
      refine OL.nil ?_
      refine TE.ite rfl (fun hdn => ?_) (fun hdn => ?_)
      ·
        rw [decide_eq_true hdn] at hD
        refine TE.region ?_
        refine OL.pure (Pure.assign rfl) rfl ?_
        refine OL.pure (Pure.assign rfl) rfl ?_
        refine OL.nil ?_
        refine TE.seq ?_
        refine TE.region ?_
        refine OL.pure (Pure.move rfl) rfl ?_
        refine OL.pure (Pure.move rfl) rfl ?_
        refine OL.pure (Pure.move rfl) rfl ?_
        refine OL.call rfl Tryd.call14 rfl (open_bad _ z0 z1 29 (by decide) _ (fun w_ h_ => check_down d 20 0 z0 z1 (by decide) (by omega) (by omega) (by omega) (by omega) w_ (hD.chg0 h_))) ?_
        rintro _ w25 ⟨rfl, hc25⟩
        replace hD := hD.chg0 hc25
        replace hC := hC.then_ hc25
        refine ⟨_, rfl, ?_⟩
        refine OL.pure (Pure.move rfl) rfl ?_
        refine OL.pure (Pure.extract (vs := [.pointer none, .slice none 0 0, .int .i64 29]) (i := 0) rfl rfl) rfl ?_
        refine OL.pure (Pure.extract (vs := [.pointer none, .slice none 0 0, .int .i64 29]) (i := 1) rfl rfl) rfl ?_
        refine OL.pure (Pure.extract (vs := [.pointer none, .slice none 0 0, .int .i64 29]) (i := 2) rfl rfl) rfl ?_
        refine OL.pure (Pure.assign rfl) rfl ?_
        refine OL.pure (Pure.assign rfl) rfl ?_
        refine OL.pure (Pure.assign rfl) rfl ?_
        refine OL.nil ?_
        refine TE.seq ?_
        refine TE.seq ?_
        refine TE.region ?_
        refine OL.pure (Pure.move rfl) rfl ?_
        refine OL.pure (Pure.neqNil Tryd.underlying27 rfl rfl) rfl ?_
        refine OL.pure (Pure.move rfl) rfl ?_
        refine OL.want rfl rfl rfl (Pure.move rfl _) rfl ?_
        refine OL.want rfl rfl rfl (Pure.lenSlice Tryd.runUnderlying38 rfl _) rfl ?_
        refine OL.want rfl rfl rfl (Pure.neq rfl rfl _) rfl ?_
        refine OL.cast (.bool false) 98 rfl (rfl) ?_
        refine OL.pure (Pure.pickF rfl rfl) rfl ?_
        refine OL.pure (Pure.move rfl) rfl ?_
        refine OL.want rfl rfl rfl (Pure.move rfl _) rfl ?_
        refine OL.want rfl rfl rfl (Pure.move rfl _) rfl ?_
        refine OL.want rfl rfl rfl (Pure.neq rfl rfl _) rfl ?_
        refine OL.cast (.bool false) 103 rfl (rfl) ?_
        refine OL.pure (Pure.pickF rfl rfl) rfl ?_
        refine OL.pure (Pure.move rfl) rfl ?_
        refine OL.want rfl rfl rfl (Pure.move rfl _) rfl ?_
        refine OL.want rfl rfl rfl (Pure.move rfl _) rfl ?_
        refine OL.want rfl rfl rfl (Pure.move rfl _) rfl ?_
        refine OL.callG rfl rfl rfl rfl Tryd.call13 rfl (format_bad _ z0 z1 29 (by decide) _ (fun w_ h_ => check_down d 20 0 z0 z1 (by decide) (by omega) (by omega) (by omega) (by omega) w_ (hD.chg0 h_))) ?_
        rintro _ w26 ⟨rfl, hc26⟩
        replace hD := hD.chg0 hc26
        replace hC := hC.then_ hc26
        refine ⟨_, rfl, ?_⟩
        by_cases hn0 : m1 < 0 ∨ 131072 < m1
        ·
          refine OL.want rfl rfl rfl (Pure.move rfl _) rfl ?_
          refine OL.want rfl rfl rfl (Pure.neq rfl rfl _) rfl ?_
          refine OL.cast (.bool false) 111 rfl (rfl) ?_
          refine OL.pure (Pure.pickF rfl rfl) rfl ?_
          refine OL.nil ?_
          refine TE.condF rfl rfl ?_
          refine TE.skip ?_
          refine TE.seq ?_
          refine TE.region ?_
          refine OL.pure (Pure.move rfl) rfl ?_
          refine OL.call rfl Tryd.call23 rfl (rneed_no m1 (by omega) _) ?_
          rintro _ _ ⟨rfl, rfl⟩
          refine ⟨_, rfl, ?_⟩
          refine OL.pure (Pure.move rfl) rfl ?_
          refine OL.pure (Pure.extract (vs := [.int .i64 0, .int .i64 2]) (i := 0) rfl rfl) rfl ?_
          refine OL.pure (Pure.extract (vs := [.int .i64 0, .int .i64 2]) (i := 1) rfl rfl) rfl ?_
          refine OL.pure (Pure.assign rfl) rfl ?_
          refine OL.pure (Pure.assign rfl) rfl ?_
          refine OL.nil ?_
          refine TE.seq ?_
          refine TE.seq ?_
          refine TE.meet (σ := Unit) [8, 19, 20, 123] (fun s_ w_ => Chg [] w w_) (fun s_ => [(8, .int .i64 (↑m1)), (19, .int .i64 (0)), (20, .int .i64 (2)), (123, .bool true)]) (fun hj27 => ?_) (fun s_ w_ h_ => ?_)
          ·
            by_cases hn1 : m1 < 0
            ·
              refine TE.region ?_
              refine OL.pure (Pure.move rfl) rfl ?_
              refine OL.pure (Pure.lss rfl rfl) rfl ?_
              refine OL.cast (.bool true) 119 rfl (congrArg Value.bool (decide_eq_true (hn1))) ?_
              refine OL.pure (Pure.move rfl) rfl ?_
              refine OL.pass rfl rfl rfl rfl rfl ?_
              refine OL.pass rfl rfl rfl rfl rfl ?_
              refine OL.pure (Pure.pickT rfl rfl) rfl ?_
              refine OL.nil ?_
              exact hj27 () _ hC _ rfl
            ·
              refine TE.region ?_
              refine OL.pure (Pure.move rfl) rfl ?_
              refine OL.pure (Pure.lss rfl rfl) rfl ?_
              refine OL.cast (.bool false) 119 rfl (congrArg Value.bool (decide_eq_false (hn1))) ?_
              refine OL.pure (Pure.move rfl) rfl ?_
              refine OL.want rfl rfl rfl (Pure.move rfl _) rfl ?_
              refine OL.want rfl rfl rfl (Pure.gtr rfl rfl _) rfl ?_
              refine OL.cast (.bool true) 122 rfl (congrArg Value.bool (decide_eq_true (by omega))) ?_
              refine OL.pure (Pure.pickF rfl rfl) rfl ?_
              refine OL.nil ?_
              exact hj27 () _ hC _ rfl
          ·
            revert s_ w_ h_
            rintro ⟨⟩ w27 hC
            try dsimp only
            refine TE.condT rfl rfl ?_
            refine TE.seq ?_
            refine TE.region ?_
            refine OL.pure (Pure.move rfl) rfl ?_
            refine OL.pure (Pure.neq rfl rfl) rfl ?_
            refine OL.cast (.bool false) 125 rfl (rfl) ?_
            refine OL.pure (Pure.move rfl) rfl ?_
            refine OL.want rfl rfl rfl (Pure.move rfl _) rfl ?_
            refine OL.want rfl rfl rfl (Pure.neq rfl rfl _) rfl ?_
            refine OL.cast (.bool false) 128 rfl (rfl) ?_
            refine OL.pure (Pure.pickF rfl rfl) rfl ?_
            refine OL.nil ?_
            refine TE.condF rfl rfl ?_
            refine TE.skip ?_
            refine TE.seq ?_
            refine TE.region ?_
            refine OL.call rfl Tryd.call10 rfl (fresh_any 8 (by decide) (by decide) _ (hK.chg0 hC) (hF.chg0 hC)) ?_
            rintro _ w28 ⟨V28, ks28, rs28, d, r, rfl, hD, hR, hI, hc28, hkk, hrr⟩
            have hks : ∀ k_ ∈ ks28, w.heap.size ≤ k_ := fun k_ hk_ => Nat.le_trans hC.size (hkk k_ hk_)
            have hrs : ∀ k_ ∈ rs28, w.heap.size ≤ k_ := fun k_ hk_ => Nat.le_trans hC.size (hrr k_ hk_)
            replace hC := hC.then_ hc28
            refine ⟨_, rfl, ?_⟩
            refine OL.pure (Pure.move rfl) rfl ?_
            refine OL.pure (Pure.extract (vs := [.pointer (some ⟨d, 0, none⟩), .pointer (some ⟨r, 0, none⟩), .bool true]) (i := 0) rfl rfl) rfl ?_
            refine OL.pure (Pure.extract (vs := [.pointer (some ⟨d, 0, none⟩), .pointer (some ⟨r, 0, none⟩), .bool true]) (i := 1) rfl rfl) rfl ?_
            refine OL.pure (Pure.extract (vs := [.pointer (some ⟨d, 0, none⟩), .pointer (some ⟨r, 0, none⟩), .bool true]) (i := 2) rfl rfl) rfl ?_
            refine OL.pure (Pure.assign rfl) rfl ?_
            refine OL.pure (Pure.assign rfl) rfl ?_
            refine OL.pure (Pure.assign rfl) rfl ?_
            refine OL.nil ?_
            refine TE.seq ?_
            refine TE.seq ?_
            refine TE.region ?_
            refine OL.pure (Pure.move rfl) rfl ?_
            refine OL.pure (Pure.not rfl) rfl ?_
            refine OL.nil ?_
            refine TE.condF rfl rfl ?_
            refine TE.skip ?_
            refine TE.seq ?_
            refine TE.seq ?_
            refine TE.region ?_
            refine OL.pure (Pure.move rfl) rfl ?_
            obtain ⟨mm, hmm⟩ : ∃ m, m = 131073 := ⟨_, rfl⟩
            refine OL.makeSlice (k := .i64) (k' := .i64) (m := mm) (c := mm) (v := .int .u8 0) (by rw [hmm]; rfl) (by rw [hmm]; rfl) Tryd.underlying34 info5 rfl rfl rfl (Nat.le_refl _) (by show 1 * mm ≤ _; omega) (by omega) rfl ?_
            intro gb w29 hb hc29 hg_gb
            have ge_gb : w.heap.size ≤ gb := by have := hC.size; omega
            replace hD := hD.chg0 hc29
            replace hR := hR.chg0 hc29
            replace hC := hC.then_ hc29
            replace hb : Blk w29 gb 5 (bv (List.replicate mm 0)) := by rw [bv_zeros]; exact hb
            have hml : (List.replicate mm (0 : UInt8)).length = mm := List.length_replicate
            refine OL.val (Run.toStr (bs := List.replicate mm 0) Tryd.underlying34 Tryd.underlying5 Tryd.underlying9 rfl hb hml (by rw [List.drop_zero]; exact List.take_of_length_le (by rw [bv_len, hml]; exact Nat.le_refl _))) rfl ?_
            refine OL.call rfl Tryd.call19 rfl (app_long d 20 0 3 8 r (by decide) (by decide) (by decide) (by decide) (by decide) (List.replicate mm 0) (by rw [hml]; omega) _ hD hR (hK.chg0 hC) (hF.chg0 hC)) ?_
            rintro _ w30 ⟨rfl, hc30⟩
            replace hD := hD.chg0 hc30
            replace hR := hR.chg0 hc30
            replace hb := hb.chg0 hc30
            replace hC := hC.then_ hc30
            refine ⟨_, rfl, ?_⟩
            refine OL.pure (Pure.move rfl) rfl ?_
            refine OL.pure (Pure.extract (vs := [.int .i64 0, .int .i64 5]) (i := 0) rfl rfl) rfl ?_
            refine OL.pure (Pure.extract (vs := [.int .i64 0, .int .i64 5]) (i := 1) rfl rfl) rfl ?_
            refine OL.pure (Pure.assign rfl) rfl ?_
            refine OL.pure (Pure.assign rfl) rfl ?_
            refine OL.nil ?_
            refine TE.seq ?_
            refine TE.region ?_
            refine OL.pure (Pure.move rfl) rfl ?_
            refine OL.pure (Pure.neq rfl rfl) rfl ?_
            refine OL.cast (.bool false) 153 rfl (rfl) ?_
            refine OL.nil ?_
            refine TE.condF rfl rfl ?_
            refine TE.skip ?_
            refine TE.seq ?_
            refine TE.region ?_
            refine OL.pure (Pure.assign rfl) rfl ?_
            refine OL.nil ?_
            refine TE.seq ?_
            refine TE.region ?_
            refine OL.pure (Pure.move rfl) rfl ?_
            refine OL.call rfl Tryd.call19 rfl (app_nil _ _) ?_
            rintro _ w31 ⟨rfl, hc31⟩
            replace hC := hC.then_ hc31
            refine ⟨_, rfl, ?_⟩
            refine OL.pure (Pure.move rfl) rfl ?_
            refine OL.pure (Pure.extract (vs := [.int .i64 0, .int .i64 1]) (i := 0) rfl rfl) rfl ?_
            refine OL.pure (Pure.extract (vs := [.int .i64 0, .int .i64 1]) (i := 1) rfl rfl) rfl ?_
            refine OL.pure (Pure.assign rfl) rfl ?_
            refine OL.pure (Pure.assign rfl) rfl ?_
            refine OL.nil ?_
            refine TE.seq ?_
            refine TE.region ?_
            refine OL.pure (Pure.move rfl) rfl ?_
            refine OL.pure (Pure.eql rfl rfl) rfl ?_
            refine OL.cast (.bool true) 160 rfl (rfl) ?_
            refine OL.pure (Pure.move rfl) rfl ?_
            refine OL.want rfl rfl rfl (Pure.move rfl _) rfl ?_
            refine OL.want rfl rfl rfl (Pure.eql rfl rfl _) rfl ?_
            refine OL.cast (.bool true) 163 rfl (rfl) ?_
            refine OL.pure (Pure.pickT rfl rfl) rfl ?_
            refine OL.pure (Pure.move rfl) rfl ?_
            refine OL.want rfl rfl rfl (Pure.move rfl _) rfl ?_
            refine OL.callG rfl rfl rfl rfl Tryd.call20 rfl (sync_nil _) ?_
            rintro _ w32 ⟨rfl, hc32⟩
            replace hC := hC.then_ hc32
            refine ⟨_, rfl, ?_⟩
            refine OL.want rfl rfl rfl (Pure.eql rfl rfl _) rfl ?_
            refine OL.cast (.bool true) 168 rfl (rfl) ?_
            refine OL.pure (Pure.pickT rfl rfl) rfl ?_
            refine OL.pure (Pure.move rfl) rfl ?_
            refine OL.want rfl rfl rfl (Pure.move rfl _) rfl ?_
            refine OL.want rfl rfl rfl (Pure.move rfl _) rfl ?_
            refine OL.callG rfl rfl rfl rfl Tryd.call25 rfl (trim_nil _ _) ?_
            rintro _ w33 ⟨rfl, hc33⟩
            replace hC := hC.then_ hc33
            refine ⟨_, rfl, ?_⟩
            refine OL.want rfl rfl rfl (Pure.eql rfl rfl _) rfl ?_
            refine OL.cast (.bool true) 174 rfl (rfl) ?_
            refine OL.pure (Pure.pickT rfl rfl) rfl ?_
            refine OL.pure (Pure.move rfl) rfl ?_
            refine OL.want rfl rfl rfl (Pure.move rfl _) rfl ?_
            refine OL.callG rfl rfl rfl rfl Tryd.call29 rfl (failed_nil _) ?_
            rintro _ _ ⟨rfl, rfl⟩
            refine ⟨_, rfl, ?_⟩
            refine OL.want rfl rfl rfl (Pure.eql rfl rfl _) rfl ?_
            refine OL.cast (.bool true) 179 rfl (rfl) ?_
            refine OL.pure (Pure.pickT rfl rfl) rfl ?_
            refine OL.pure (Pure.move rfl) rfl ?_
            refine OL.want rfl rfl rfl (Pure.move rfl _) rfl ?_
            refine OL.callG rfl rfl rfl rfl Tryd.call15 rfl (First_nil _) ?_
            rintro _ _ ⟨rfl, rfl⟩
            refine ⟨_, rfl, ?_⟩
            refine OL.want rfl rfl rfl (Pure.eql rfl rfl _) rfl ?_
            refine OL.cast (.bool true) 184 rfl (rfl) ?_
            refine OL.pure (Pure.pickT rfl rfl) rfl ?_
            refine OL.pure (Pure.move rfl) rfl ?_
            refine OL.want rfl rfl rfl (Pure.move rfl _) rfl ?_
            refine OL.callG rfl rfl rfl rfl Tryd.call16 rfl (next_nil _) ?_
            rintro _ _ ⟨rfl, rfl⟩
            refine ⟨_, rfl, ?_⟩
            refine OL.want rfl rfl rfl (Pure.eql rfl rfl _) rfl ?_
            refine OL.cast (.bool true) 189 rfl (rfl) ?_
            refine OL.pure (Pure.pickT rfl rfl) rfl ?_
            refine OL.pure (Pure.move rfl) rfl ?_
            refine OL.want rfl rfl rfl (Pure.move rfl _) rfl ?_
            refine OL.callG rfl rfl rfl rfl Tryd.call30 rfl (synced_nil _) ?_
            rintro _ _ ⟨rfl, rfl⟩
            refine ⟨_, rfl, ?_⟩
            refine OL.want rfl rfl rfl (Pure.eql rfl rfl _) rfl ?_
            refine OL.cast (.bool true) 194 rfl (rfl) ?_
            refine OL.pure (Pure.pickT rfl rfl) rfl ?_
            refine OL.pure (Pure.move rfl) rfl ?_
            refine OL.want rfl rfl rfl (Pure.move rfl _) rfl ?_
            refine OL.callG rfl rfl rfl rfl Tryd.call17 rfl (free_nil _) ?_
            rintro _ _ ⟨rfl, rfl⟩
            refine ⟨_, rfl, ?_⟩
            refine OL.want rfl rfl rfl (Pure.eql rfl rfl _) rfl ?_
            refine OL.cast (.bool true) 199 rfl (rfl) ?_
            refine OL.pure (Pure.pickT rfl rfl) rfl ?_
            refine OL.pure (Pure.move rfl) rfl ?_
            refine OL.want rfl rfl rfl (Pure.move rfl _) rfl ?_
            refine OL.callG rfl rfl rfl rfl Tryd.call31 rfl (generation_nil _) ?_
            rintro _ _ ⟨rfl, rfl⟩
            refine ⟨_, rfl, ?_⟩
            refine OL.want rfl rfl rfl (Pure.eql rfl rfl _) rfl ?_
            refine OL.cast (.bool true) 204 rfl (rfl) ?_
            refine OL.pure (Pure.pickT rfl rfl) rfl ?_
            refine OL.pure (Pure.assign rfl) rfl ?_
            refine OL.nil ?_
            exact TE.ret (vs := [.bool true]) Tryd.results7 (⟨rfl, trivial⟩) ⟨rfl, hC⟩
        ·
          obtain ⟨k, rfl⟩ := nat_of (z := m1) (by omega)
          refine OL.want rfl rfl rfl (Pure.move rfl _) rfl ?_
          refine OL.want rfl rfl rfl (Pure.neq rfl rfl _) rfl ?_
          refine OL.cast (.bool false) 111 rfl (rfl) ?_
          refine OL.pure (Pure.pickF rfl rfl) rfl ?_
          refine OL.nil ?_
          refine TE.condF rfl rfl ?_
          refine TE.skip ?_
          refine TE.seq ?_
          refine TE.region ?_
          refine OL.pure (Pure.move rfl) rfl ?_
          refine OL.call rfl Tryd.call23 rfl (rneed_ok k (by omega) _) ?_
          rintro _ _ ⟨rfl, rfl⟩
          refine ⟨_, rfl, ?_⟩
          refine OL.pure (Pure.move rfl) rfl ?_
          refine OL.pure (Pure.extract (vs := [.int .i64 (need (42 + k) : Int), .int .i64 0]) (i := 0) rfl rfl) rfl ?_
          refine OL.pure (Pure.extract (vs := [.int .i64 (need (42 + k) : Int), .int .i64 0]) (i := 1) rfl rfl) rfl ?_
          refine OL.pure (Pure.assign rfl) rfl ?_
          refine OL.pure (Pure.assign rfl) rfl ?_
          refine OL.nil ?_
          refine TE.seq ?_
          refine TE.seq ?_
          refine TE.region ?_
          refine OL.pure (Pure.move rfl) rfl ?_
          refine OL.pure (Pure.lss rfl rfl) rfl ?_
          refine OL.cast (.bool false) 119 rfl (congrArg Value.bool (decide_eq_false (by omega))) ?_
          refine OL.pure (Pure.move rfl) rfl ?_
          refine OL.want rfl rfl rfl (Pure.move rfl _) rfl ?_
          refine OL.want rfl rfl rfl (Pure.gtr rfl rfl _) rfl ?_
          refine OL.cast (.bool false) 122 rfl (congrArg Value.bool (decide_eq_false (by omega))) ?_
          refine OL.pure (Pure.pickF rfl rfl) rfl ?_
          refine OL.nil ?_
          refine TE.condF rfl rfl ?_
          refine TE.seq ?_
          refine TE.region ?_
          refine OL.pure (Pure.move rfl) rfl ?_
          refine OL.pure (Pure.neq rfl rfl) rfl ?_
          refine OL.cast (.bool false) 131 rfl (rfl) ?_
          refine OL.pure (Pure.move rfl) rfl ?_
          refine OL.want rfl rfl rfl (Pure.move rfl _) rfl ?_
          refine OL.want rfl rfl rfl (Pure.move rfl _) rfl ?_
          refine OL.callG rfl rfl rfl rfl Tryd.call24 rfl (refneed_any k (by omega) _) ?_
          rintro _ _ ⟨rfl, rfl⟩
          refine ⟨_, rfl, ?_⟩
          refine OL.want rfl rfl rfl (Pure.neq rfl rfl _) rfl ?_
          refine OL.cast (.bool false) 136 rfl (congrArg Value.bool (decide_eq_false (by omega))) ?_
          refine OL.pure (Pure.pickF rfl rfl) rfl ?_
          refine OL.nil ?_
          refine TE.condF rfl rfl ?_
          refine TE.skip ?_
          refine TE.seq ?_
          refine TE.region ?_
          refine OL.call rfl Tryd.call10 rfl (fresh_any 8 (by decide) (by decide) _ (hK.chg0 hC) (hF.chg0 hC)) ?_
          rintro _ w34 ⟨V34, ks34, rs34, d, r, rfl, hD, hR, hI, hc34, hkk, hrr⟩
          have hks : ∀ k_ ∈ ks34, w.heap.size ≤ k_ := fun k_ hk_ => Nat.le_trans hC.size (hkk k_ hk_)
          have hrs : ∀ k_ ∈ rs34, w.heap.size ≤ k_ := fun k_ hk_ => Nat.le_trans hC.size (hrr k_ hk_)
          replace hC := hC.then_ hc34
          refine ⟨_, rfl, ?_⟩
          refine OL.pure (Pure.move rfl) rfl ?_
          refine OL.pure (Pure.extract (vs := [.pointer (some ⟨d, 0, none⟩), .pointer (some ⟨r, 0, none⟩), .bool true]) (i := 0) rfl rfl) rfl ?_
          refine OL.pure (Pure.extract (vs := [.pointer (some ⟨d, 0, none⟩), .pointer (some ⟨r, 0, none⟩), .bool true]) (i := 1) rfl rfl) rfl ?_
          refine OL.pure (Pure.extract (vs := [.pointer (some ⟨d, 0, none⟩), .pointer (some ⟨r, 0, none⟩), .bool true]) (i := 2) rfl rfl) rfl ?_
          refine OL.pure (Pure.assign rfl) rfl ?_
          refine OL.pure (Pure.assign rfl) rfl ?_
          refine OL.pure (Pure.assign rfl) rfl ?_
          refine OL.nil ?_
          refine TE.seq ?_
          refine TE.seq ?_
          refine TE.region ?_
          refine OL.pure (Pure.move rfl) rfl ?_
          refine OL.pure (Pure.not rfl) rfl ?_
          refine OL.nil ?_
          refine TE.condF rfl rfl ?_
          refine TE.skip ?_
          refine TE.seq ?_
          refine TE.seq ?_
          refine TE.region ?_
          refine OL.pure (Pure.move rfl) rfl ?_
          obtain ⟨mm, hmm⟩ : ∃ m, m = 131073 := ⟨_, rfl⟩
          refine OL.makeSlice (k := .i64) (k' := .i64) (m := mm) (c := mm) (v := .int .u8 0) (by rw [hmm]; rfl) (by rw [hmm]; rfl) Tryd.underlying34 info5 rfl rfl rfl (Nat.le_refl _) (by show 1 * mm ≤ _; omega) (by omega) rfl ?_
          intro gb w35 hb hc35 hg_gb
          have ge_gb : w.heap.size ≤ gb := by have := hC.size; omega
          replace hD := hD.chg0 hc35
          replace hR := hR.chg0 hc35
          replace hC := hC.then_ hc35
          replace hb : Blk w35 gb 5 (bv (List.replicate mm 0)) := by rw [bv_zeros]; exact hb
          have hml : (List.replicate mm (0 : UInt8)).length = mm := List.length_replicate
          refine OL.val (Run.toStr (bs := List.replicate mm 0) Tryd.underlying34 Tryd.underlying5 Tryd.underlying9 rfl hb hml (by rw [List.drop_zero]; exact List.take_of_length_le (by rw [bv_len, hml]; exact Nat.le_refl _))) rfl ?_
          refine OL.call rfl Tryd.call19 rfl (app_long d 20 0 3 8 r (by decide) (by decide) (by decide) (by decide) (by decide) (List.replicate mm 0) (by rw [hml]; omega) _ hD hR (hK.chg0 hC) (hF.chg0 hC)) ?_
          rintro _ w36 ⟨rfl, hc36⟩
          replace hD := hD.chg0 hc36
          replace hR := hR.chg0 hc36
          replace hb := hb.chg0 hc36
          replace hC := hC.then_ hc36
          refine ⟨_, rfl, ?_⟩
          refine OL.pure (Pure.move rfl) rfl ?_
          refine OL.pure (Pure.extract (vs := [.int .i64 0, .int .i64 5]) (i := 0) rfl rfl) rfl ?_
          refine OL.pure (Pure.extract (vs := [.int .i64 0, .int .i64 5]) (i := 1) rfl rfl) rfl ?_
          refine OL.pure (Pure.assign rfl) rfl ?_
          refine OL.pure (Pure.assign rfl) rfl ?_
          refine OL.nil ?_
          refine TE.seq ?_
          refine TE.region ?_
          refine OL.pure (Pure.move rfl) rfl ?_
          refine OL.pure (Pure.neq rfl rfl) rfl ?_
          refine OL.cast (.bool false) 153 rfl (rfl) ?_
          refine OL.nil ?_
          refine TE.condF rfl rfl ?_
          refine TE.skip ?_
          refine TE.seq ?_
          refine TE.region ?_
          refine OL.pure (Pure.assign rfl) rfl ?_
          refine OL.nil ?_
          refine TE.seq ?_
          refine TE.region ?_
          refine OL.pure (Pure.move rfl) rfl ?_
          refine OL.call rfl Tryd.call19 rfl (app_nil _ _) ?_
          rintro _ w37 ⟨rfl, hc37⟩
          replace hC := hC.then_ hc37
          refine ⟨_, rfl, ?_⟩
          refine OL.pure (Pure.move rfl) rfl ?_
          refine OL.pure (Pure.extract (vs := [.int .i64 0, .int .i64 1]) (i := 0) rfl rfl) rfl ?_
          refine OL.pure (Pure.extract (vs := [.int .i64 0, .int .i64 1]) (i := 1) rfl rfl) rfl ?_
          refine OL.pure (Pure.assign rfl) rfl ?_
          refine OL.pure (Pure.assign rfl) rfl ?_
          refine OL.nil ?_
          refine TE.seq ?_
          refine TE.region ?_
          refine OL.pure (Pure.move rfl) rfl ?_
          refine OL.pure (Pure.eql rfl rfl) rfl ?_
          refine OL.cast (.bool true) 160 rfl (rfl) ?_
          refine OL.pure (Pure.move rfl) rfl ?_
          refine OL.want rfl rfl rfl (Pure.move rfl _) rfl ?_
          refine OL.want rfl rfl rfl (Pure.eql rfl rfl _) rfl ?_
          refine OL.cast (.bool true) 163 rfl (rfl) ?_
          refine OL.pure (Pure.pickT rfl rfl) rfl ?_
          refine OL.pure (Pure.move rfl) rfl ?_
          refine OL.want rfl rfl rfl (Pure.move rfl _) rfl ?_
          refine OL.callG rfl rfl rfl rfl Tryd.call20 rfl (sync_nil _) ?_
          rintro _ w38 ⟨rfl, hc38⟩
          replace hC := hC.then_ hc38
          refine ⟨_, rfl, ?_⟩
          refine OL.want rfl rfl rfl (Pure.eql rfl rfl _) rfl ?_
          refine OL.cast (.bool true) 168 rfl (rfl) ?_
          refine OL.pure (Pure.pickT rfl rfl) rfl ?_
          refine OL.pure (Pure.move rfl) rfl ?_
          refine OL.want rfl rfl rfl (Pure.move rfl _) rfl ?_
          refine OL.want rfl rfl rfl (Pure.move rfl _) rfl ?_
          refine OL.callG rfl rfl rfl rfl Tryd.call25 rfl (trim_nil _ _) ?_
          rintro _ w39 ⟨rfl, hc39⟩
          replace hC := hC.then_ hc39
          refine ⟨_, rfl, ?_⟩
          refine OL.want rfl rfl rfl (Pure.eql rfl rfl _) rfl ?_
          refine OL.cast (.bool true) 174 rfl (rfl) ?_
          refine OL.pure (Pure.pickT rfl rfl) rfl ?_
          refine OL.pure (Pure.move rfl) rfl ?_
          refine OL.want rfl rfl rfl (Pure.move rfl _) rfl ?_
          refine OL.callG rfl rfl rfl rfl Tryd.call29 rfl (failed_nil _) ?_
          rintro _ _ ⟨rfl, rfl⟩
          refine ⟨_, rfl, ?_⟩
          refine OL.want rfl rfl rfl (Pure.eql rfl rfl _) rfl ?_
          refine OL.cast (.bool true) 179 rfl (rfl) ?_
          refine OL.pure (Pure.pickT rfl rfl) rfl ?_
          refine OL.pure (Pure.move rfl) rfl ?_
          refine OL.want rfl rfl rfl (Pure.move rfl _) rfl ?_
          refine OL.callG rfl rfl rfl rfl Tryd.call15 rfl (First_nil _) ?_
          rintro _ _ ⟨rfl, rfl⟩
          refine ⟨_, rfl, ?_⟩
          refine OL.want rfl rfl rfl (Pure.eql rfl rfl _) rfl ?_
          refine OL.cast (.bool true) 184 rfl (rfl) ?_
          refine OL.pure (Pure.pickT rfl rfl) rfl ?_
          refine OL.pure (Pure.move rfl) rfl ?_
          refine OL.want rfl rfl rfl (Pure.move rfl _) rfl ?_
          refine OL.callG rfl rfl rfl rfl Tryd.call16 rfl (next_nil _) ?_
          rintro _ _ ⟨rfl, rfl⟩
          refine ⟨_, rfl, ?_⟩
          refine OL.want rfl rfl rfl (Pure.eql rfl rfl _) rfl ?_
          refine OL.cast (.bool true) 189 rfl (rfl) ?_
          refine OL.pure (Pure.pickT rfl rfl) rfl ?_
          refine OL.pure (Pure.move rfl) rfl ?_
          refine OL.want rfl rfl rfl (Pure.move rfl _) rfl ?_
          refine OL.callG rfl rfl rfl rfl Tryd.call30 rfl (synced_nil _) ?_
          rintro _ _ ⟨rfl, rfl⟩
          refine ⟨_, rfl, ?_⟩
          refine OL.want rfl rfl rfl (Pure.eql rfl rfl _) rfl ?_
          refine OL.cast (.bool true) 194 rfl (rfl) ?_
          refine OL.pure (Pure.pickT rfl rfl) rfl ?_
          refine OL.pure (Pure.move rfl) rfl ?_
          refine OL.want rfl rfl rfl (Pure.move rfl _) rfl ?_
          refine OL.callG rfl rfl rfl rfl Tryd.call17 rfl (free_nil _) ?_
          rintro _ _ ⟨rfl, rfl⟩
          refine ⟨_, rfl, ?_⟩
          refine OL.want rfl rfl rfl (Pure.eql rfl rfl _) rfl ?_
          refine OL.cast (.bool true) 199 rfl (rfl) ?_
          refine OL.pure (Pure.pickT rfl rfl) rfl ?_
          refine OL.pure (Pure.move rfl) rfl ?_
          refine OL.want rfl rfl rfl (Pure.move rfl _) rfl ?_
          refine OL.callG rfl rfl rfl rfl Tryd.call31 rfl (generation_nil _) ?_
          rintro _ _ ⟨rfl, rfl⟩
          refine ⟨_, rfl, ?_⟩
          refine OL.want rfl rfl rfl (Pure.eql rfl rfl _) rfl ?_
          refine OL.cast (.bool true) 204 rfl (rfl) ?_
          refine OL.pure (Pure.pickT rfl rfl) rfl ?_
          refine OL.pure (Pure.assign rfl) rfl ?_
          refine OL.nil ?_
          exact TE.ret (vs := [.bool true]) Tryd.results7 (⟨rfl, trivial⟩) ⟨rfl, hC⟩
      ·
        rw [decide_eq_false hdn] at hD
        obtain ⟨a, rfl⟩ := nat_of (z := z0) (by omega)
        obtain ⟨P, rfl, hP2⟩ := two_more (z := z1) (by omega)
        have hfz : fmtGen (fun _ => zb) a P = 0 := fmt_fl zb_full (fun _ _ _ => rfl) (by omega)
        refine TE.skip ?_
        refine TE.seq ?_
        refine TE.region ?_
        refine OL.pure (Pure.move rfl) rfl ?_
        refine OL.pure (Pure.move rfl) rfl ?_
        refine OL.pure (Pure.move rfl) rfl ?_
        refine OL.call rfl Tryd.call14 rfl (open_none d 20 0 a P (by omega) (by decide) hP2 (by decide) (fun h_ => absurd (hks _ h_) (by omega)) (fun h_ => absurd (hks _ h_) (by omega)) (curHead_zb a P) _ hD (hK.chg0 hC) (hF.chg0 hC)) ?_
        rintro _ w40 ⟨rfl, hc40⟩
        replace hD := hD.chg0 hc40
        replace hC := hC.then_ hc40
        refine ⟨_, rfl, ?_⟩
        refine OL.pure (Pure.move rfl) rfl ?_
        refine OL.pure (Pure.extract (vs := [.pointer none, .slice none 0 0, .int .i64 3]) (i := 0) rfl rfl) rfl ?_
        refine OL.pure (Pure.extract (vs := [.pointer none, .slice none 0 0, .int .i64 3]) (i := 1) rfl rfl) rfl ?_
        refine OL.pure (Pure.extract (vs := [.pointer none, .slice none 0 0, .int .i64 3]) (i := 2) rfl rfl) rfl ?_
        refine OL.pure (Pure.assign rfl) rfl ?_
        refine OL.pure (Pure.assign rfl) rfl ?_
        refine OL.pure (Pure.assign rfl) rfl ?_
        refine OL.nil ?_
        refine TE.seq ?_
        refine TE.seq ?_
        refine TE.region ?_
        refine OL.pure (Pure.move rfl) rfl ?_
        refine OL.pure (Pure.neqNil Tryd.underlying27 rfl rfl) rfl ?_
        refine OL.pure (Pure.move rfl) rfl ?_
        refine OL.want rfl rfl rfl (Pure.move rfl _) rfl ?_
        refine OL.want rfl rfl rfl (Pure.lenSlice Tryd.runUnderlying38 rfl _) rfl ?_
        refine OL.want rfl rfl rfl (Pure.neq rfl rfl _) rfl ?_
        refine OL.cast (.bool false) 98 rfl (rfl) ?_
        refine OL.pure (Pure.pickF rfl rfl) rfl ?_
        refine OL.pure (Pure.move rfl) rfl ?_
        refine OL.want rfl rfl rfl (Pure.move rfl _) rfl ?_
        refine OL.want rfl rfl rfl (Pure.move rfl _) rfl ?_
        refine OL.want rfl rfl rfl (Pure.neq rfl rfl _) rfl ?_
        refine OL.cast (.bool false) 103 rfl (rfl) ?_
        refine OL.pure (Pure.pickF rfl rfl) rfl ?_
        refine OL.pure (Pure.move rfl) rfl ?_
        refine OL.want rfl rfl rfl (Pure.move rfl _) rfl ?_
        refine OL.want rfl rfl rfl (Pure.move rfl _) rfl ?_
        refine OL.want rfl rfl rfl (Pure.move rfl _) rfl ?_
        refine OL.callG rfl rfl rfl rfl Tryd.call13 rfl (format_any d 20 0 a P (by omega) (by decide) hP2 (by rw [hfz]; decide) (by decide) (fun h_ => absurd (hks _ h_) (by omega)) (fun h_ => absurd (hks _ h_) (by omega)) _ hD (hK.chg0 hC) (hF.chg0 hC)) ?_
        rintro _ w41 ⟨ks41, rfl, hD41, hc41, hg41⟩
        have hksn : ∀ k_ ∈ ks41, w.heap.size ≤ k_ := fun k_ hk_ => (hg41 k_ hk_).elim (hks k_) (fun h_ => Nat.le_trans hC.size h_)
        replace hC := hC.trans hc41 (fun k_ hk_ => .inr (hks k_ hk_))
        have hks := hksn; have hD := hD41
        refine ⟨_, rfl, ?_⟩
        by_cases hn0 : m1 < 0 ∨ 131072 < m1
        ·
          refine OL.want rfl rfl rfl (Pure.move rfl _) rfl ?_
          refine OL.want rfl rfl rfl (Pure.neq rfl rfl _) rfl ?_
          refine OL.cast (.bool false) 111 rfl (rfl) ?_
          refine OL.pure (Pure.pickF rfl rfl) rfl ?_
          refine OL.nil ?_
          refine TE.condF rfl rfl ?_
          refine TE.skip ?_
          refine TE.seq ?_
          refine TE.region ?_
          refine OL.pure (Pure.move rfl) rfl ?_
          refine OL.call rfl Tryd.call23 rfl (rneed_no m1 (by omega) _) ?_
          rintro _ _ ⟨rfl, rfl⟩
          refine ⟨_, rfl, ?_⟩
          refine OL.pure (Pure.move rfl) rfl ?_
          refine OL.pure (Pure.extract (vs := [.int .i64 0, .int .i64 2]) (i := 0) rfl rfl) rfl ?_
          refine OL.pure (Pure.extract (vs := [.int .i64 0, .int .i64 2]) (i := 1) rfl rfl) rfl ?_
          refine OL.pure (Pure.assign rfl) rfl ?_
          refine OL.pure (Pure.assign rfl) rfl ?_
          refine OL.nil ?_
          refine TE.seq ?_
          refine TE.seq ?_
          refine TE.meet (σ := Unit) [8, 19, 20, 123] (fun s_ w_ => Chg [] w w_) (fun s_ => [(8, .int .i64 (↑m1)), (19, .int .i64 (0)), (20, .int .i64 (2)), (123, .bool true)]) (fun hj42 => ?_) (fun s_ w_ h_ => ?_)
          ·
            by_cases hn1 : m1 < 0
            ·
              refine TE.region ?_
              refine OL.pure (Pure.move rfl) rfl ?_
              refine OL.pure (Pure.lss rfl rfl) rfl ?_
              refine OL.cast (.bool true) 119 rfl (congrArg Value.bool (decide_eq_true (hn1))) ?_
              refine OL.pure (Pure.move rfl) rfl ?_
              refine OL.pass rfl rfl rfl rfl rfl ?_
              refine OL.pass rfl rfl rfl rfl rfl ?_
              refine OL.pure (Pure.pickT rfl rfl) rfl ?_
              refine OL.nil ?_
              exact hj42 () _ hC _ rfl
            ·
              refine TE.region ?_
              refine OL.pure (Pure.move rfl) rfl ?_
              refine OL.pure (Pure.lss rfl rfl) rfl ?_
              refine OL.cast (.bool false) 119 rfl (congrArg Value.bool (decide_eq_false (hn1))) ?_
              refine OL.pure (Pure.move rfl) rfl ?_
              refine OL.want rfl rfl rfl (Pure.move rfl _) rfl ?_
              refine OL.want rfl rfl rfl (Pure.gtr rfl rfl _) rfl ?_
              refine OL.cast (.bool true) 122 rfl (congrArg Value.bool (decide_eq_true (by omega))) ?_
              refine OL.pure (Pure.pickF rfl rfl) rfl ?_
              refine OL.nil ?_
              exact hj42 () _ hC _ rfl
          ·
            revert s_ w_ h_
            rintro ⟨⟩ w42 hC
            try dsimp only
            refine TE.condT rfl rfl ?_
            refine TE.seq ?_
            refine TE.region ?_
            refine OL.pure (Pure.move rfl) rfl ?_
            refine OL.pure (Pure.neq rfl rfl) rfl ?_
            refine OL.cast (.bool false) 125 rfl (rfl) ?_
            refine OL.pure (Pure.move rfl) rfl ?_
            refine OL.want rfl rfl rfl (Pure.move rfl _) rfl ?_
            refine OL.want rfl rfl rfl (Pure.neq rfl rfl _) rfl ?_
            refine OL.cast (.bool false) 128 rfl (rfl) ?_
            refine OL.pure (Pure.pickF rfl rfl) rfl ?_
            refine OL.nil ?_
            refine TE.condF rfl rfl ?_
            refine TE.skip ?_
            refine TE.seq ?_
            refine TE.region ?_
            refine OL.call rfl Tryd.call10 rfl (fresh_any 8 (by decide) (by decide) _ (hK.chg0 hC) (hF.chg0 hC)) ?_
            rintro _ w43 ⟨V43, ks43, rs43, d, r, rfl, hD, hR, hI, hc43, hkk, hrr⟩
            have hks : ∀ k_ ∈ ks43, w.heap.size ≤ k_ := fun k_ hk_ => Nat.le_trans hC.size (hkk k_ hk_)
            have hrs : ∀ k_ ∈ rs43, w.heap.size ≤ k_ := fun k_ hk_ => Nat.le_trans hC.size (hrr k_ hk_)
            replace hC := hC.then_ hc43
            refine ⟨_, rfl, ?_⟩
            refine OL.pure (Pure.move rfl) rfl ?_
            refine OL.pure (Pure.extract (vs := [.pointer (some ⟨d, 0, none⟩), .pointer (some ⟨r, 0, none⟩), .bool true]) (i := 0) rfl rfl) rfl ?_
            refine OL.pure (Pure.extract (vs := [.pointer (some ⟨d, 0, none⟩), .pointer (some ⟨r, 0, none⟩), .bool true]) (i := 1) rfl rfl) rfl ?_
            refine OL.pure (Pure.extract (vs := [.pointer (some ⟨d, 0, none⟩), .pointer (some ⟨r, 0, none⟩), .bool true]) (i := 2) rfl rfl) rfl ?_
            refine OL.pure (Pure.assign rfl) rfl ?_
            refine OL.pure (Pure.assign rfl) rfl ?_
            refine OL.pure (Pure.assign rfl) rfl ?_
            refine OL.nil ?_
            refine TE.seq ?_
            refine TE.seq ?_
            refine TE.region ?_
            refine OL.pure (Pure.move rfl) rfl ?_
            refine OL.pure (Pure.not rfl) rfl ?_
            refine OL.nil ?_
            refine TE.condF rfl rfl ?_
            refine TE.skip ?_
            refine TE.seq ?_
            refine TE.seq ?_
            refine TE.region ?_
            refine OL.pure (Pure.move rfl) rfl ?_
            obtain ⟨mm, hmm⟩ : ∃ m, m = 131073 := ⟨_, rfl⟩
            refine OL.makeSlice (k := .i64) (k' := .i64) (m := mm) (c := mm) (v := .int .u8 0) (by rw [hmm]; rfl) (by rw [hmm]; rfl) Tryd.underlying34 info5 rfl rfl rfl (Nat.le_refl _) (by show 1 * mm ≤ _; omega) (by omega) rfl ?_
            intro gb w44 hb hc44 hg_gb
            have ge_gb : w.heap.size ≤ gb := by have := hC.size; omega
            replace hD := hD.chg0 hc44
            replace hR := hR.chg0 hc44
            replace hC := hC.then_ hc44
            replace hb : Blk w44 gb 5 (bv (List.replicate mm 0)) := by rw [bv_zeros]; exact hb
            have hml : (List.replicate mm (0 : UInt8)).length = mm := List.length_replicate
            refine OL.val (Run.toStr (bs := List.replicate mm 0) Tryd.underlying34 Tryd.underlying5 Tryd.underlying9 rfl hb hml (by rw [List.drop_zero]; exact List.take_of_length_le (by rw [bv_len, hml]; exact Nat.le_refl _))) rfl ?_
            refine OL.call rfl Tryd.call19 rfl (app_long d 20 0 3 8 r (by decide) (by decide) (by decide) (by decide) (by decide) (List.replicate mm 0) (by rw [hml]; omega) _ hD hR (hK.chg0 hC) (hF.chg0 hC)) ?_
            rintro _ w45 ⟨rfl, hc45⟩
            replace hD := hD.chg0 hc45
            replace hR := hR.chg0 hc45
            replace hb := hb.chg0 hc45
            replace hC := hC.then_ hc45
            refine ⟨_, rfl, ?_⟩
            refine OL.pure (Pure.move rfl) rfl ?_
            refine OL.pure (Pure.extract (vs := [.int .i64 0, .int .i64 5]) (i := 0) rfl rfl) rfl ?_
            refine OL.pure (Pure.extract (vs := [.int .i64 0, .int .i64 5]) (i := 1) rfl rfl) rfl ?_
            refine OL.pure (Pure.assign rfl) rfl ?_
            refine OL.pure (Pure.assign rfl) rfl ?_
            refine OL.nil ?_
            refine TE.seq ?_
            refine TE.region ?_
            refine OL.pure (Pure.move rfl) rfl ?_
            refine OL.pure (Pure.neq rfl rfl) rfl ?_
            refine OL.cast (.bool false) 153 rfl (rfl) ?_
            refine OL.nil ?_
            refine TE.condF rfl rfl ?_
            refine TE.skip ?_
            refine TE.seq ?_
            refine TE.region ?_
            refine OL.pure (Pure.assign rfl) rfl ?_
            refine OL.nil ?_
            refine TE.seq ?_
            refine TE.region ?_
            refine OL.pure (Pure.move rfl) rfl ?_
            refine OL.call rfl Tryd.call19 rfl (app_nil _ _) ?_
            rintro _ w46 ⟨rfl, hc46⟩
            replace hC := hC.then_ hc46
            refine ⟨_, rfl, ?_⟩
            refine OL.pure (Pure.move rfl) rfl ?_
            refine OL.pure (Pure.extract (vs := [.int .i64 0, .int .i64 1]) (i := 0) rfl rfl) rfl ?_
            refine OL.pure (Pure.extract (vs := [.int .i64 0, .int .i64 1]) (i := 1) rfl rfl) rfl ?_
            refine OL.pure (Pure.assign rfl) rfl ?_
            refine OL.pure (Pure.assign rfl) rfl ?_
            refine OL.nil ?_
            refine TE.seq ?_
            refine TE.region ?_
            refine OL.pure (Pure.move rfl) rfl ?_
            refine OL.pure (Pure.eql rfl rfl) rfl ?_
            refine OL.cast (.bool true) 160 rfl (rfl) ?_
            refine OL.pure (Pure.move rfl) rfl ?_
            refine OL.want rfl rfl rfl (Pure.move rfl _) rfl ?_
            refine OL.want rfl rfl rfl (Pure.eql rfl rfl _) rfl ?_
            refine OL.cast (.bool true) 163 rfl (rfl) ?_
            refine OL.pure (Pure.pickT rfl rfl) rfl ?_
            refine OL.pure (Pure.move rfl) rfl ?_
            refine OL.want rfl rfl rfl (Pure.move rfl _) rfl ?_
            refine OL.callG rfl rfl rfl rfl Tryd.call20 rfl (sync_nil _) ?_
            rintro _ w47 ⟨rfl, hc47⟩
            replace hC := hC.then_ hc47
            refine ⟨_, rfl, ?_⟩
            refine OL.want rfl rfl rfl (Pure.eql rfl rfl _) rfl ?_
            refine OL.cast (.bool true) 168 rfl (rfl) ?_
            refine OL.pure (Pure.pickT rfl rfl) rfl ?_
            refine OL.pure (Pure.move rfl) rfl ?_
            refine OL.want rfl rfl rfl (Pure.move rfl _) rfl ?_
            refine OL.want rfl rfl rfl (Pure.move rfl _) rfl ?_
            refine OL.callG rfl rfl rfl rfl Tryd.call25 rfl (trim_nil _ _) ?_
            rintro _ w48 ⟨rfl, hc48⟩
            replace hC := hC.then_ hc48
            refine ⟨_, rfl, ?_⟩
            refine OL.want rfl rfl rfl (Pure.eql rfl rfl _) rfl ?_
            refine OL.cast (.bool true) 174 rfl (rfl) ?_
            refine OL.pure (Pure.pickT rfl rfl) rfl ?_
            refine OL.pure (Pure.move rfl) rfl ?_
            refine OL.want rfl rfl rfl (Pure.move rfl _) rfl ?_
            refine OL.callG rfl rfl rfl rfl Tryd.call29 rfl (failed_nil _) ?_
            rintro _ _ ⟨rfl, rfl⟩
            refine ⟨_, rfl, ?_⟩
            refine OL.want rfl rfl rfl (Pure.eql rfl rfl _) rfl ?_
            refine OL.cast (.bool true) 179 rfl (rfl) ?_
            refine OL.pure (Pure.pickT rfl rfl) rfl ?_
            refine OL.pure (Pure.move rfl) rfl ?_
            refine OL.want rfl rfl rfl (Pure.move rfl _) rfl ?_
            refine OL.callG rfl rfl rfl rfl Tryd.call15 rfl (First_nil _) ?_
            rintro _ _ ⟨rfl, rfl⟩
            refine ⟨_, rfl, ?_⟩
            refine OL.want rfl rfl rfl (Pure.eql rfl rfl _) rfl ?_
            refine OL.cast (.bool true) 184 rfl (rfl) ?_
            refine OL.pure (Pure.pickT rfl rfl) rfl ?_
            refine OL.pure (Pure.move rfl) rfl ?_
            refine OL.want rfl rfl rfl (Pure.move rfl _) rfl ?_
            refine OL.callG rfl rfl rfl rfl Tryd.call16 rfl (next_nil _) ?_
            rintro _ _ ⟨rfl, rfl⟩
            refine ⟨_, rfl, ?_⟩
            refine OL.want rfl rfl rfl (Pure.eql rfl rfl _) rfl ?_
            refine OL.cast (.bool true) 189 rfl (rfl) ?_
            refine OL.pure (Pure.pickT rfl rfl) rfl ?_
            refine OL.pure (Pure.move rfl) rfl ?_
            refine OL.want rfl rfl rfl (Pure.move rfl _) rfl ?_
            refine OL.callG rfl rfl rfl rfl Tryd.call30 rfl (synced_nil _) ?_
            rintro _ _ ⟨rfl, rfl⟩
            refine ⟨_, rfl, ?_⟩
            refine OL.want rfl rfl rfl (Pure.eql rfl rfl _) rfl ?_
            refine OL.cast (.bool true) 194 rfl (rfl) ?_
            refine OL.pure (Pure.pickT rfl rfl) rfl ?_
            refine OL.pure (Pure.move rfl) rfl ?_
            refine OL.want rfl rfl rfl (Pure.move rfl _) rfl ?_
            refine OL.callG rfl rfl rfl rfl Tryd.call17 rfl (free_nil _) ?_
            rintro _ _ ⟨rfl, rfl⟩
            refine ⟨_, rfl, ?_⟩
            refine OL.want rfl rfl rfl (Pure.eql rfl rfl _) rfl ?_
            refine OL.cast (.bool true) 199 rfl (rfl) ?_
            refine OL.pure (Pure.pickT rfl rfl) rfl ?_
            refine OL.pure (Pure.move rfl) rfl ?_
            refine OL.want rfl rfl rfl (Pure.move rfl _) rfl ?_
            refine OL.callG rfl rfl rfl rfl Tryd.call31 rfl (generation_nil _) ?_
            rintro _ _ ⟨rfl, rfl⟩
            refine ⟨_, rfl, ?_⟩
            refine OL.want rfl rfl rfl (Pure.eql rfl rfl _) rfl ?_
            refine OL.cast (.bool true) 204 rfl (rfl) ?_
            refine OL.pure (Pure.pickT rfl rfl) rfl ?_
            refine OL.pure (Pure.assign rfl) rfl ?_
            refine OL.nil ?_
            exact TE.ret (vs := [.bool true]) Tryd.results7 (⟨rfl, trivial⟩) ⟨rfl, hC⟩
        ·
          obtain ⟨k, rfl⟩ := nat_of (z := m1) (by omega)
          refine OL.want rfl rfl rfl (Pure.move rfl _) rfl ?_
          refine OL.want rfl rfl rfl (Pure.neq rfl rfl _) rfl ?_
          refine OL.cast (.bool false) 111 rfl (rfl) ?_
          refine OL.pure (Pure.pickF rfl rfl) rfl ?_
          refine OL.nil ?_
          refine TE.condF rfl rfl ?_
          refine TE.skip ?_
          refine TE.seq ?_
          refine TE.region ?_
          refine OL.pure (Pure.move rfl) rfl ?_
          refine OL.call rfl Tryd.call23 rfl (rneed_ok k (by omega) _) ?_
          rintro _ _ ⟨rfl, rfl⟩
          refine ⟨_, rfl, ?_⟩
          refine OL.pure (Pure.move rfl) rfl ?_
          refine OL.pure (Pure.extract (vs := [.int .i64 (need (42 + k) : Int), .int .i64 0]) (i := 0) rfl rfl) rfl ?_
          refine OL.pure (Pure.extract (vs := [.int .i64 (need (42 + k) : Int), .int .i64 0]) (i := 1) rfl rfl) rfl ?_
          refine OL.pure (Pure.assign rfl) rfl ?_
          refine OL.pure (Pure.assign rfl) rfl ?_
          refine OL.nil ?_
          refine TE.seq ?_
          refine TE.seq ?_
          refine TE.region ?_
          refine OL.pure (Pure.move rfl) rfl ?_
          refine OL.pure (Pure.lss rfl rfl) rfl ?_
          refine OL.cast (.bool false) 119 rfl (congrArg Value.bool (decide_eq_false (by omega))) ?_
          refine OL.pure (Pure.move rfl) rfl ?_
          refine OL.want rfl rfl rfl (Pure.move rfl _) rfl ?_
          refine OL.want rfl rfl rfl (Pure.gtr rfl rfl _) rfl ?_
          refine OL.cast (.bool false) 122 rfl (congrArg Value.bool (decide_eq_false (by omega))) ?_
          refine OL.pure (Pure.pickF rfl rfl) rfl ?_
          refine OL.nil ?_
          refine TE.condF rfl rfl ?_
          refine TE.seq ?_
          refine TE.region ?_
          refine OL.pure (Pure.move rfl) rfl ?_
          refine OL.pure (Pure.neq rfl rfl) rfl ?_
          refine OL.cast (.bool false) 131 rfl (rfl) ?_
          refine OL.pure (Pure.move rfl) rfl ?_
          refine OL.want rfl rfl rfl (Pure.move rfl _) rfl ?_
          refine OL.want rfl rfl rfl (Pure.move rfl _) rfl ?_
          refine OL.callG rfl rfl rfl rfl Tryd.call24 rfl (refneed_any k (by omega) _) ?_
          rintro _ _ ⟨rfl, rfl⟩
          refine ⟨_, rfl, ?_⟩
          refine OL.want rfl rfl rfl (Pure.neq rfl rfl _) rfl ?_
          refine OL.cast (.bool false) 136 rfl (congrArg Value.bool (decide_eq_false (by omega))) ?_
          refine OL.pure (Pure.pickF rfl rfl) rfl ?_
          refine OL.nil ?_
          refine TE.condF rfl rfl ?_
          refine TE.skip ?_
          refine TE.seq ?_
          refine TE.region ?_
          refine OL.call rfl Tryd.call10 rfl (fresh_any 8 (by decide) (by decide) _ (hK.chg0 hC) (hF.chg0 hC)) ?_
          rintro _ w49 ⟨V49, ks49, rs49, d, r, rfl, hD, hR, hI, hc49, hkk, hrr⟩
          have hks : ∀ k_ ∈ ks49, w.heap.size ≤ k_ := fun k_ hk_ => Nat.le_trans hC.size (hkk k_ hk_)
          have hrs : ∀ k_ ∈ rs49, w.heap.size ≤ k_ := fun k_ hk_ => Nat.le_trans hC.size (hrr k_ hk_)
          replace hC := hC.then_ hc49
          refine ⟨_, rfl, ?_⟩
          refine OL.pure (Pure.move rfl) rfl ?_
          refine OL.pure (Pure.extract (vs := [.pointer (some ⟨d, 0, none⟩), .pointer (some ⟨r, 0, none⟩), .bool true]) (i := 0) rfl rfl) rfl ?_
          refine OL.pure (Pure.extract (vs := [.pointer (some ⟨d, 0, none⟩), .pointer (some ⟨r, 0, none⟩), .bool true]) (i := 1) rfl rfl) rfl ?_
          refine OL.pure (Pure.extract (vs := [.pointer (some ⟨d, 0, none⟩), .pointer (some ⟨r, 0, none⟩), .bool true]) (i := 2) rfl rfl) rfl ?_
          refine OL.pure (Pure.assign rfl) rfl ?_
          refine OL.pure (Pure.assign rfl) rfl ?_
          refine OL.pure (Pure.assign rfl) rfl ?_
          refine OL.nil ?_
          refine TE.seq ?_
          refine TE.seq ?_
          refine TE.region ?_
          refine OL.pure (Pure.move rfl) rfl ?_
          refine OL.pure (Pure.not rfl) rfl ?_
          refine OL.nil ?_
          refine TE.condF rfl rfl ?_
          refine TE.skip ?_
          refine TE.seq ?_
          refine TE.seq ?_
          refine TE.region ?_
          refine OL.pure (Pure.move rfl) rfl ?_
          obtain ⟨mm, hmm⟩ : ∃ m, m = 131073 := ⟨_, rfl⟩
          refine OL.makeSlice (k := .i64) (k' := .i64) (m := mm) (c := mm) (v := .int .u8 0) (by rw [hmm]; rfl) (by rw [hmm]; rfl) Tryd.underlying34 info5 rfl rfl rfl (Nat.le_refl _) (by show 1 * mm ≤ _; omega) (by omega) rfl ?_
          intro gb w50 hb hc50 hg_gb
          have ge_gb : w.heap.size ≤ gb := by have := hC.size; omega
          replace hD := hD.chg0 hc50
          replace hR := hR.chg0 hc50
          replace hC := hC.then_ hc50
          replace hb : Blk w50 gb 5 (bv (List.replicate mm 0)) := by rw [bv_zeros]; exact hb
          have hml : (List.replicate mm (0 : UInt8)).length = mm := List.length_replicate
          refine OL.val (Run.toStr (bs := List.replicate mm 0) Tryd.underlying34 Tryd.underlying5 Tryd.underlying9 rfl hb hml (by rw [List.drop_zero]; exact List.take_of_length_le (by rw [bv_len, hml]; exact Nat.le_refl _))) rfl ?_
          refine OL.call rfl Tryd.call19 rfl (app_long d 20 0 3 8 r (by decide) (by decide) (by decide) (by decide) (by decide) (List.replicate mm 0) (by rw [hml]; omega) _ hD hR (hK.chg0 hC) (hF.chg0 hC)) ?_
          rintro _ w51 ⟨rfl, hc51⟩
          replace hD := hD.chg0 hc51
          replace hR := hR.chg0 hc51
          replace hb := hb.chg0 hc51
          replace hC := hC.then_ hc51
          refine ⟨_, rfl, ?_⟩
          refine OL.pure (Pure.move rfl) rfl ?_
          refine OL.pure (Pure.extract (vs := [.int .i64 0, .int .i64 5]) (i := 0) rfl rfl) rfl ?_
          refine OL.pure (Pure.extract (vs := [.int .i64 0, .int .i64 5]) (i := 1) rfl rfl) rfl ?_
          refine OL.pure (Pure.assign rfl) rfl ?_
          refine OL.pure (Pure.assign rfl) rfl ?_
          refine OL.nil ?_
          refine TE.seq ?_
          refine TE.region ?_
          refine OL.pure (Pure.move rfl) rfl ?_
          refine OL.pure (Pure.neq rfl rfl) rfl ?_
          refine OL.cast (.bool false) 153 rfl (rfl) ?_
          refine OL.nil ?_
          refine TE.condF rfl rfl ?_
          refine TE.skip ?_
          refine TE.seq ?_
          refine TE.region ?_
          refine OL.pure (Pure.assign rfl) rfl ?_
          refine OL.nil ?_
          refine TE.seq ?_
          refine TE.region ?_
          refine OL.pure (Pure.move rfl) rfl ?_
          refine OL.call rfl Tryd.call19 rfl (app_nil _ _) ?_
          rintro _ w52 ⟨rfl, hc52⟩
          replace hC := hC.then_ hc52
          refine ⟨_, rfl, ?_⟩
          refine OL.pure (Pure.move rfl) rfl ?_
          refine OL.pure (Pure.extract (vs := [.int .i64 0, .int .i64 1]) (i := 0) rfl rfl) rfl ?_
          refine OL.pure (Pure.extract (vs := [.int .i64 0, .int .i64 1]) (i := 1) rfl rfl) rfl ?_
          refine OL.pure (Pure.assign rfl) rfl ?_
          refine OL.pure (Pure.assign rfl) rfl ?_
          refine OL.nil ?_
          refine TE.seq ?_
          refine TE.region ?_
          refine OL.pure (Pure.move rfl) rfl ?_
          refine OL.pure (Pure.eql rfl rfl) rfl ?_
          refine OL.cast (.bool true) 160 rfl (rfl) ?_
          refine OL.pure (Pure.move rfl) rfl ?_
          refine OL.want rfl rfl rfl (Pure.move rfl _) rfl ?_
          refine OL.want rfl rfl rfl (Pure.eql rfl rfl _) rfl ?_
          refine OL.cast (.bool true) 163 rfl (rfl) ?_
          refine OL.pure (Pure.pickT rfl rfl) rfl ?_
          refine OL.pure (Pure.move rfl) rfl ?_
          refine OL.want rfl rfl rfl (Pure.move rfl _) rfl ?_
          refine OL.callG rfl rfl rfl rfl Tryd.call20 rfl (sync_nil _) ?_
          rintro _ w53 ⟨rfl, hc53⟩
          replace hC := hC.then_ hc53
          refine ⟨_, rfl, ?_⟩
          refine OL.want rfl rfl rfl (Pure.eql rfl rfl _) rfl ?_
          refine OL.cast (.bool true) 168 rfl (rfl) ?_
          refine OL.pure (Pure.pickT rfl rfl) rfl ?_
          refine OL.pure (Pure.move rfl) rfl ?_
          refine OL.want rfl rfl rfl (Pure.move rfl _) rfl ?_
          refine OL.want rfl rfl rfl (Pure.move rfl _) rfl ?_
          refine OL.callG rfl rfl rfl rfl Tryd.call25 rfl (trim_nil _ _) ?_
          rintro _ w54 ⟨rfl, hc54⟩
          replace hC := hC.then_ hc54
          refine ⟨_, rfl, ?_⟩
          refine OL.want rfl rfl rfl (Pure.eql rfl rfl _) rfl ?_
          refine OL.cast (.bool true) 174 rfl (rfl) ?_
          refine OL.pure (Pure.pickT rfl rfl) rfl ?_
          refine OL.pure (Pure.move rfl) rfl ?_
          refine OL.want rfl rfl rfl (Pure.move rfl _) rfl ?_
          refine OL.callG rfl rfl rfl rfl Tryd.call29 rfl (failed_nil _) ?_
          rintro _ _ ⟨rfl, rfl⟩
          refine ⟨_, rfl, ?_⟩
          refine OL.want rfl rfl rfl (Pure.eql rfl rfl _) rfl ?_
          refine OL.cast (.bool true) 179 rfl (rfl) ?_
          refine OL.pure (Pure.pickT rfl rfl) rfl ?_
          refine OL.pure (Pure.move rfl) rfl ?_
          refine OL.want rfl rfl rfl (Pure.move rfl _) rfl ?_
          refine OL.callG rfl rfl rfl rfl Tryd.call15 rfl (First_nil _) ?_
          rintro _ _ ⟨rfl, rfl⟩
          refine ⟨_, rfl, ?_⟩
          refine OL.want rfl rfl rfl (Pure.eql rfl rfl _) rfl ?_
          refine OL.cast (.bool true) 184 rfl (rfl) ?_
          refine OL.pure (Pure.pickT rfl rfl) rfl ?_
          refine OL.pure (Pure.move rfl) rfl ?_
          refine OL.want rfl rfl rfl (Pure.move rfl _) rfl ?_
          refine OL.callG rfl rfl rfl rfl Tryd.call16 rfl (next_nil _) ?_
          rintro _ _ ⟨rfl, rfl⟩
          refine ⟨_, rfl, ?_⟩
          refine OL.want rfl rfl rfl (Pure.eql rfl rfl _) rfl ?_
          refine OL.cast (.bool true) 189 rfl (rfl) ?_
          refine OL.pure (Pure.pickT rfl rfl) rfl ?_
          refine OL.pure (Pure.move rfl) rfl ?_
          refine OL.want rfl rfl rfl (Pure.move rfl _) rfl ?_
          refine OL.callG rfl rfl rfl rfl Tryd.call30 rfl (synced_nil _) ?_
          rintro _ _ ⟨rfl, rfl⟩
          refine ⟨_, rfl, ?_⟩
          refine OL.want rfl rfl rfl (Pure.eql rfl rfl _) rfl ?_
          refine OL.cast (.bool true) 194 rfl (rfl) ?_
          refine OL.pure (Pure.pickT rfl rfl) rfl ?_
          refine OL.pure (Pure.move rfl) rfl ?_
          refine OL.want rfl rfl rfl (Pure.move rfl _) rfl ?_
          refine OL.callG rfl rfl rfl rfl Tryd.call17 rfl (free_nil _) ?_
          rintro _ _ ⟨rfl, rfl⟩
          refine ⟨_, rfl, ?_⟩
          refine OL.want rfl rfl rfl (Pure.eql rfl rfl _) rfl ?_
          refine OL.cast (.bool true) 199 rfl (rfl) ?_
          refine OL.pure (Pure.pickT rfl rfl) rfl ?_
          refine OL.pure (Pure.move rfl) rfl ?_
          refine OL.want rfl rfl rfl (Pure.move rfl _) rfl ?_
          refine OL.callG rfl rfl rfl rfl Tryd.call31 rfl (generation_nil _) ?_
          rintro _ _ ⟨rfl, rfl⟩
          refine ⟨_, rfl, ?_⟩
          refine OL.want rfl rfl rfl (Pure.eql rfl rfl _) rfl ?_
          refine OL.cast (.bool true) 204 rfl (rfl) ?_
          refine OL.pure (Pure.pickT rfl rfl) rfl ?_
          refine OL.pure (Pure.assign rfl) rfl ?_
          refine OL.nil ?_
          exact TE.ret (vs := [.bool true]) Tryd.results7 (⟨rfl, trivial⟩) ⟨rfl, hC⟩

end Go.Proofs.YtcologcjhenmkaaDoor
