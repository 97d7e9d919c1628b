/- The law of beginnings, walked -/
import Derived.Test.YtigjmemoaapmgaaDoorProg
import Derived.Test.YtigjmemoaapmgaaDoorEng6
import Derived.Test.YtigjmemoaapmgaaDoorFrameSpec2
import Derived.Test.YtigjmemoaapmgaaDoorFrm1
import Derived.Test.YtigjmemoaapmgaaDoorFrm2
import Derived.Test.YtigjmemoaapmgaaDoorFrm3
import Derived.Test.YtigjmemoaapmgaaDoorFrm4
import Derived.Test.YtigjmemoaapmgaaDoorFrm5
import Derived.Test.YtigjmemoaapmgaaDoorFrm6
set_option linter.unusedVariables false
set_option maxRecDepth 4000
namespace Go.Proofs.YtigjmemoaapmgaaDoor
open Go.V Go.Sha Go.Frm
set_option maxHeartbeats 1000000 in
theorem prefixes_law_any {tK tF : TypeId} (f0 : Fr) (n : Nat) (hn : n ≤ 65535) (w : World) (hK : Blk w 1 tK (iv .u32 K)) (hF : Blk w 0 tF (iv .i64 fldL)) : Calls Tryd.prog 5 #[.agg (f0).cells.toArray, .int .u16 (n : Int)] w (RetC (.bool true) w) := by
  refine calls_of_TE (vs := [.agg (f0).cells.toArray, .int .u16 (n : Int)]) Tryd.func5 Tryd.ntmps5 rfl (by simp) ?_
  have hC : Chg [] w w := Chg.refl _ _
  have h0w : 1 < w.heap.size := hK.lt
  have h1w : 0 < w.heap.size := hF.lt
  have hsh := fun w => short_any f0 w
  have hfl : (Fr.short f0).payload.length ≤ 300 := by simp [Fr.short]; omega
  generalize Fr.short f0 = f at hsh hfl
  refine TE.seq ?_
  refine TE.region ?_
  refine OL.box rfl rfl ?_
  intro g2 w1 h2 hc1 hg_g2
  have lt_1_g2 : 1 < g2 := by have := hK.lt; omega
  have lt_0_g2 : 0 < g2 := by have := hF.lt; omega
  have ge_g2 : w.heap.size ≤ g2 := by have := hC.size; omega
  replace hK := hK.chg0 hc1
  replace hF := hF.chg0 hc1
  replace hC := hC.then_ hc1
  have h2 : Blk w1 g2 34 (f0.cells) := h2
  refine OL.pure (Pure.assign rfl) rfl ?_
  refine OL.nil ?_
  refine TE.seq ?_
  refine TE.region ?_
  refine OL.val (Run.loadAll rfl Tryd.underlying34 rfl h2 (rfl)) rfl ?_
  refine OL.call rfl Tryd.call18 rfl (hsh _) ?_
  rintro _ w2 ⟨rfl, hc2⟩
  replace hK := hK.chg0 hc2
  replace hF := hF.chg0 hc2
  replace h2 := h2.chg0 hc2
  replace hC := hC.then_ hc2
  refine ⟨_, rfl, ?_⟩
  refine OL.storeRow (vs := (f).cells) rfl rfl (rfl) (by simp [Fr.cells, Value.oneCell']) h2 (Nat.le_refl 4) ?_
  intro w3 hb3 hc3
  replace hK := hK.chg hc3 (by simp; omega)
  replace hF := hF.chg hc3 (by simp; omega)
  replace hC := hC.trans1 hc3 (by first | exact .inr (by omega) | exact .inl (by simp))
  replace h2 := hb3
  replace h2 := h2.all rfl
  refine OL.nil ?_
  refine TE.seq ?_
  refine TE.seq ?_
  refine TE.region ?_
  refine OL.call rfl Tryd.call15 rfl (known_any _ hK hF) ?_
  rintro _ w4 ⟨rfl, hc4⟩
  replace hK := hK.chg0 hc4
  replace hF := hF.chg0 hc4
  replace h2 := h2.chg0 hc4
  replace hC := hC.then_ hc4
  refine ⟨_, rfl, ?_⟩
  refine OL.pure (Pure.not rfl) rfl ?_
  refine OL.pure (Pure.move rfl) rfl ?_
  refine OL.want rfl rfl rfl (Run.loadAll rfl Tryd.underlying34 rfl h2 (rfl)) rfl ?_
  refine OL.callG rfl rfl rfl rfl Tryd.call19 rfl (rcheck_any f (by omega) _) ?_
  rintro _ w5 ⟨rfl, hc5⟩
  replace hK := hK.chg0 hc5
  replace hF := hF.chg0 hc5
  replace h2 := h2.chg0 hc5
  replace hC := hC.then_ hc5
  refine ⟨_, rfl, ?_⟩
  by_cases hok : check f = 0
  ·
    refine OL.want rfl rfl rfl (Pure.neq rfl rfl _) rfl ?_
    refine OL.cast (.bool false) 16 rfl (congrArg Value.bool (decide_eq_false (fun h => h hok))) ?_
    refine OL.pure (Pure.pickF rfl rfl) rfl ?_
    refine OL.nil ?_
    refine TE.condF rfl rfl ?_
    refine TE.skip ?_
    refine TE.seq ?_
    refine TE.region ?_
    refine OL.val (Run.loadAll rfl Tryd.underlying34 rfl h2 (rfl)) rfl ?_
    refine OL.call rfl Tryd.call20 rfl (rencode_any f hok _) ?_
    rintro _ w6 ⟨rfl, hc6⟩
    replace hK := hK.chg0 hc6
    replace hF := hF.chg0 hc6
    replace h2 := h2.chg0 hc6
    replace hC := hC.then_ hc6
    refine ⟨_, rfl, ?_⟩
    have hel := encode_len f
    obtain ⟨k, hk⟩ : ∃ k, k = n % (encode f).length := ⟨_, rfl⟩
    have hkl : k < (encode f).length := by rw [hk]; exact Nat.mod_lt _ (by omega)
    refine OL.pure (Pure.assign rfl) rfl ?_
    refine OL.nil ?_
    refine TE.seq ?_
    refine TE.region ?_
    refine OL.pure (Pure.move rfl) rfl ?_
    refine OL.pure (Pure.move rfl) rfl ?_
    refine OL.pure (Pure.conv Tryd.runUnderlying25 Tryd.runUnderlying3 rfl (i64in (by omega) (by omega))) rfl ?_
    refine OL.pure (Pure.move rfl) rfl ?_
    refine OL.pure (Pure.lenStr Tryd.runUnderlying9 rfl) rfl ?_
    refine OL.pure (Pure.rem rfl rfl (by omega) (by omega)) rfl ?_
    refine OL.cast (.int .i64 (k : Int)) 27 rfl (congrArg (Value.int .i64) (by rw [hk]; exact (Int.natCast_emod _ _).symm)) ?_
    refine OL.pure (Pure.sliceTo (l := (encode f)) (q := k) Tryd.underlying9 rfl rfl (by omega) (by omega)) rfl ?_
    refine OL.call rfl Tryd.call13 rfl (decode_any ((encode f).take k) (by simp; omega) Fr.zero 0 28 (decode_cut hok k hkl) _ hK hF) ?_
    rintro _ w7 ⟨rfl, hc7⟩
    replace hK := hK.chg0 hc7
    replace hF := hF.chg0 hc7
    replace h2 := h2.chg0 hc7
    replace hC := hC.then_ hc7
    refine ⟨_, rfl, ?_⟩
    refine OL.pure (Pure.move rfl) rfl ?_
    refine OL.pure (Pure.extract (vs := [.agg (Fr.zero).cells.toArray, .int .i64 ((0 : Nat) : Int), .int .i64 28]) (i := 0) rfl rfl) rfl ?_
    refine OL.pure (Pure.extract (vs := [.agg (Fr.zero).cells.toArray, .int .i64 ((0 : Nat) : Int), .int .i64 28]) (i := 1) rfl rfl) rfl ?_
    refine OL.pure (Pure.extract (vs := [.agg (Fr.zero).cells.toArray, .int .i64 ((0 : Nat) : Int), .int .i64 28]) (i := 2) rfl rfl) rfl ?_
    refine OL.alloc Tryd.zeroValue30 rfl ?_
    intro g6 w8 h6 hc8 hg_g6
    have lt_1_g6 : 1 < g6 := by have := hK.lt; omega
    have lt_0_g6 : 0 < g6 := by have := hF.lt; omega
    have lt_g2_g6 : g2 < g6 := by have := h2.lt; omega
    have ge_g6 : w.heap.size ≤ g6 := by have := hC.size; omega
    replace hK := hK.chg0 hc8
    replace hF := hF.chg0 hc8
    replace h2 := h2.chg0 hc8
    replace hC := hC.then_ hc8
    have h6 : Blk w8 g6 30 (Fr.zero.cells) := h6
    refine OL.storeRow (vs := (Fr.zero).cells) rfl rfl (rfl) (by simp [Fr.cells, Value.oneCell']) h6 (Nat.le_refl 4) ?_
    intro w9 hb9 hc9
    replace hK := hK.chg hc9 (by simp; omega)
    replace hF := hF.chg hc9 (by simp; omega)
    replace h2 := h2.chg hc9 (by simpa using h2.ne h6 (by decide))
    replace hC := hC.trans1 hc9 (by first | exact .inr (by omega) | exact .inl (by simp))
    replace h6 := hb9
    replace h6 := h6.all rfl
    refine OL.pure (Pure.assign rfl) rfl ?_
    refine OL.pure (Pure.assign rfl) rfl ?_
    refine OL.nil ?_
    refine TE.seq ?_
    refine TE.region ?_
    refine OL.val (Run.loadAll rfl Tryd.underlying30 rfl h6 (rfl)) rfl ?_
    refine OL.pure (Pure.build (cs := Fr.zero.cells) rfl (by kernel_rfl)) rfl ?_
    refine OL.pure (Pure.eqlStruct (t := 30) (by kernel_rfl) (by kernel_rfl) (by kernel_rfl) rfl rfl (frm_eq Fr.zero Fr.zero)) rfl ?_
    refine OL.cast (.bool true) 35 rfl (congrArg Value.bool (frSame_self _)) ?_
    refine OL.pure (Pure.move rfl) rfl ?_
    refine OL.want rfl rfl rfl (Pure.move rfl _) rfl ?_
    refine OL.want rfl rfl rfl (Pure.eql rfl rfl _) rfl ?_
    refine OL.cast (.bool true) 38 rfl (rfl) ?_
    refine OL.pure (Pure.pickT rfl rfl) rfl ?_
    refine OL.pure (Pure.move rfl) rfl ?_
    refine OL.want rfl rfl rfl (Pure.move rfl _) rfl ?_
    refine OL.want rfl rfl rfl (Pure.eql rfl rfl _) rfl ?_
    refine OL.cast (.bool true) 42 rfl (rfl) ?_
    refine OL.pure (Pure.pickT rfl rfl) rfl ?_
    refine OL.pure (Pure.assign rfl) rfl ?_
    refine OL.nil ?_
    exact TE.ret (vs := [.bool true]) Tryd.results5 (⟨rfl, trivial⟩) ⟨rfl, hC⟩
  ·
    refine OL.want rfl rfl rfl (Pure.neq rfl rfl _) rfl ?_
    refine OL.cast (.bool true) 16 rfl (congrArg Value.bool (decide_eq_true (hok))) ?_
    refine OL.pure (Pure.pickF rfl rfl) rfl ?_
    refine OL.nil ?_
    refine TE.condT rfl rfl ?_
    refine TE.seq ?_
    refine TE.region ?_
    refine OL.call rfl Tryd.call15 rfl (known_any _ hK hF) ?_
    rintro _ w10 ⟨rfl, hc10⟩
    replace hK := hK.chg0 hc10
    replace hF := hF.chg0 hc10
    replace h2 := h2.chg0 hc10
    replace hC := hC.then_ hc10
    refine ⟨_, rfl, ?_⟩
    refine OL.pure (Pure.assign rfl) rfl ?_
    refine OL.nil ?_
    exact TE.ret (vs := [.bool true]) Tryd.results5 (⟨rfl, trivial⟩) ⟨rfl, hC⟩

end Go.Proofs.YtigjmemoaapmgaaDoor
