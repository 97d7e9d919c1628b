/- Salvage of both, walked -/
import Derived.Test.YtigjmemoaapmgaaDoorProg
import Derived.Test.YtigjmemoaapmgaaDoorEng6
import Derived.Test.YtigjmemoaapmgaaDoorFrameSpec2
import Derived.Test.YtigjmemoaapmgaaDoorFrm1
import Derived.Test.YtigjmemoaapmgaaDoorFrm2
import Derived.Test.YtigjmemoaapmgaaDoorFrm3
import Derived.Test.YtigjmemoaapmgaaDoorFrm4
import Derived.Test.YtigjmemoaapmgaaDoorFrm5
import Derived.Test.YtigjmemoaapmgaaDoorFrm6
import Derived.Test.YtigjmemoaapmgaaDoorFrameSpec5
import Derived.Test.YtigjmemoaapmgaaDoorFrm13
set_option linter.unusedVariables false
set_option maxRecDepth 4000
namespace Go.Proofs.YtigjmemoaapmgaaDoor
open Go.V Go.Sha Go.Frm
theorem info64 : Tryd.prog.info? 64 = some Tryd.t64 := by kernel_rfl
theorem info66 : Tryd.prog.info? 66 = some Tryd.t66 := by kernel_rfl
set_option maxHeartbeats 1000000 in
theorem salvage_any {tK tF : TypeId} (s : List UInt8) (hl : s.length ≤ 1073741824) (w : World) (hK : Blk w 1 tK (iv .u32 K)) (hF : Blk w 0 tF (iv .i64 fldL)) : Calls Tryd.prog 27 #[.string (str s)] w (RetSalv 64 (salv' s 0) w) := by
  refine calls_of_TE (vs := [.string (str s)]) Tryd.func27 Tryd.ntmps27 rfl (by simp) ?_
  have hC : Chg [] w w := Chg.refl _ _
  have h0w : 1 < w.heap.size := hK.lt
  have h1w : 0 < w.heap.size := hF.lt
  refine TE.seq ?_
  refine TE.region ?_
  refine OL.pure (Pure.assign rfl) rfl ?_
  refine OL.nil ?_
  refine TE.seq ?_
  refine TE.region ?_
  refine OL.pure (Pure.assign rfl) rfl ?_
  refine OL.nil ?_
  refine TE.seq ?_
  refine TE.seq ?_
  refine TE.region ?_
  refine OL.pure (Pure.assign rfl) rfl ?_
  refine OL.nil ?_
  refine TE.block ?_
  refine TE.loopInv (σ := List (Nat × Fr) × Nat × Value) [0, 3, 4] (fun s_ w_ => match s_ with | (acc, a, v) => SalvInv s acc a ∧ Row w_ 64 5 v acc.length (pvs acc) ∧ Mine w.heap.size v ∧ Chg [] w w_ ∧ Blk w_ 1 tK (iv .u32 K) ∧ Blk w_ 0 tF (iv .i64 fldL)) (fun s_ => [(0, .string (str s)), (3, s_.2.2), (4, .int .i64 (↑s_.2.1))]) (fun s_ => s.length - s_.2.1) ([], 0, .slice none 0 0) ⟨SalvInv.start _, Row.nil _ _ _, Mine.nil _, hC, hK, hF⟩ rfl ?_
  rintro ⟨acc, a, v⟩ w1 ⟨hI, hv, hm_v, hC, hK, hF⟩ ih1
  try dsimp only
  have hI1 := hI.1
  have hI2 := hI.2.1
  refine TE.seq ?_
  refine TE.seq ?_
  refine TE.region ?_
  refine OL.pure (Pure.move rfl) rfl ?_
  refine OL.pure (Pure.move rfl) rfl ?_
  refine OL.pure (Pure.lenStr Tryd.runUnderlying9 rfl) rfl ?_
  refine OL.pure (Pure.lss rfl rfl) rfl ?_
  refine OL.nil ?_
  refine TE.ite rfl (fun hlt => ?_) (fun hlt => ?_)
  ·
    have hal : a < s.length := by omega
    obtain ⟨d, m, e, hd⟩ : ∃ d m e, Frm.decode (s.drop a) = (d, m, e) := ⟨_, _, _, rfl⟩
    refine TE.skip ?_
    refine TE.block ?_
    refine TE.seq ?_
    refine TE.region ?_
    refine OL.pure (Pure.move rfl) rfl ?_
    refine OL.pure (Pure.move rfl) rfl ?_
    refine OL.pure (Pure.sliceFrom (l := s) (p := a) Tryd.underlying9 rfl rfl (by omega) (by omega)) rfl ?_
    refine OL.call rfl Tryd.call13 rfl (decode_any (s.drop a) (by simp; omega) d m e hd _ hK hF) ?_
    rintro _ w2 ⟨rfl, hc2⟩
    replace hK := hK.chg0 hc2
    replace hF := hF.chg0 hc2
    replace hv := hv.chg0 hc2
    replace hC := hC.then_ hc2
    refine ⟨_, rfl, ?_⟩
    refine OL.pure (Pure.move rfl) rfl ?_
    refine OL.pure (Pure.extract (vs := [.agg (d).cells.toArray, .int .i64 ((m : Nat) : Int), .int .i64 e]) (i := 0) rfl rfl) rfl ?_
    refine OL.pure (Pure.extract (vs := [.agg (d).cells.toArray, .int .i64 ((m : Nat) : Int), .int .i64 e]) (i := 1) rfl rfl) rfl ?_
    refine OL.pure (Pure.extract (vs := [.agg (d).cells.toArray, .int .i64 ((m : Nat) : Int), .int .i64 e]) (i := 2) rfl rfl) rfl ?_
    refine OL.alloc Tryd.zeroValue30 rfl ?_
    intro gd w3 hg hc3 hg_gd
    have lt_1_gd : 1 < gd := by have := hK.lt; omega
    have lt_0_gd : 0 < gd := by have := hF.lt; omega
    have ge_gd : w.heap.size ≤ gd := by have := hC.size; omega
    replace hK := hK.chg0 hc3
    replace hF := hF.chg0 hc3
    replace hv := hv.chg0 hc3
    replace hC := hC.then_ hc3
    have hg : Blk w3 gd 30 (Fr.zero.cells) := hg
    refine OL.storeRow (vs := (d).cells) rfl rfl (rfl) (by simp [Fr.cells, Value.oneCell']) hg (Nat.le_refl 4) ?_
    intro w4 hb4 hc4
    replace hK := hK.chg hc4 (by simp; omega)
    replace hF := hF.chg hc4 (by simp; omega)
    replace hv := hv.chg hc4 (hv.apart hg (by decide))
    replace hC := hC.trans1 hc4 (by first | exact .inr (by omega) | exact .inl (by simp))
    replace hg := hb4
    replace hg := hg.all rfl
    by_cases he : e = 0
    ·
      obtain ⟨hN, hm1, hm2⟩ := hI.next hal hd he
      refine OL.pure (Pure.assign rfl) rfl ?_
      refine OL.pure (Pure.assign rfl) rfl ?_
      refine OL.nil ?_
      refine TE.seq ?_
      refine TE.seq ?_
      refine TE.region ?_
      refine OL.pure (Pure.move rfl) rfl ?_
      refine OL.pure (Pure.neq rfl rfl) rfl ?_
      refine OL.cast (.bool false) 21 rfl (congrArg Value.bool (decide_eq_false (fun h => h he))) ?_
      refine OL.nil ?_
      refine TE.condF rfl rfl ?_
      refine TE.skip ?_
      refine TE.seq ?_
      refine TE.region ?_
      refine OL.pure (Pure.move rfl) rfl ?_
      refine OL.pure (Pure.move rfl) rfl ?_
      refine OL.val (Run.loadAll rfl Tryd.underlying30 rfl hg (rfl)) rfl ?_
      refine OL.pure (Pure.build (cs := pcells (a, d)) rfl (by kernel_rfl)) rfl ?_
      refine OL.buildSlice (cs := pcells (a, d)) rfl Tryd.runUnderlying59 Tryd.sizeOf64 Tryd.zeroValue64 (by decide) (by decide) (by kernel_rfl) rfl ?_
      intro q w5 hq hc5 hg_q
      have lt_1_q : 1 < q := by have := hK.lt; omega
      have lt_0_q : 0 < q := by have := hF.lt; omega
      have lt_gd_q : gd < q := by have := hg.lt; omega
      have ge_q : w.heap.size ≤ q := by have := hC.size; omega
      replace hK := hK.chg0 hc5
      replace hF := hF.chg0 hc5
      replace hv := hv.chg0 hc5
      replace hg := hg.chg0 hc5
      replace hC := hC.then_ hc5
      refine OL.append (size := 5) (news := pcells (a, d)) (v := v) rfl rfl Tryd.underlying59 (.inl Tryd.underlying59) info64 rfl rfl rfl (by decide) rfl hv ((Src.of_blk hq rfl rfl)) (by simp [pcells, Fr.cells, Value.oneCell']) (by show _ * 48 ≤ _; omega) ?_
      intro v2 w6 hv2 hc6 ho_v2
      have hm_v2 : Mine w.heap.size v2 := Mine.step hm_v (by have := hC.size; omega) ho_v2
      replace hK := hK.chg hc6 (fun h_ => absurd (hm_v _ h_) (by omega))
      replace hF := hF.chg hc6 (fun h_ => absurd (hm_v _ h_) (by omega))
      replace hC := hC.own hc6 hm_v
      replace hv2 : Row w6 64 5 v2 (acc ++ [(a, d)]).length (pvs (acc ++ [(a, d)])) := by rw [pvs_snoc, List.length_append]; exact hv2
      refine OL.pure (Pure.assign rfl) rfl ?_
      refine OL.nil ?_
      refine TE.region ?_
      refine OL.pure (Pure.move rfl) rfl ?_
      refine OL.pure (Pure.move rfl) rfl ?_
      refine OL.pure (Pure.add rfl rfl (i64 (by omega) (by omega))) rfl ?_
      refine OL.pure (Pure.assign rfl) rfl ?_
      refine OL.nil ?_
      refine TE.inBlock ?_
      refine TE.cast (.int .i64 (((a + m : Nat) : Nat) : Int)) 4 rfl (congrArg (Value.int .i64) (by omega)) ?_
      exact TE.sub [0, 3, 4] rfl (ih1 (acc ++ [(a, d)], a + m, v2) _ ⟨hN, hv2, hm_v2, hC, hK, hF⟩ (by simp only []; omega))
    ·
      refine OL.pure (Pure.assign rfl) rfl ?_
      refine OL.pure (Pure.assign rfl) rfl ?_
      refine OL.nil ?_
      refine TE.seq ?_
      refine TE.seq ?_
      refine TE.region ?_
      refine OL.pure (Pure.move rfl) rfl ?_
      refine OL.pure (Pure.neq rfl rfl) rfl ?_
      refine OL.cast (.bool true) 21 rfl (congrArg Value.bool (decide_eq_true (he))) ?_
      refine OL.nil ?_
      refine TE.condT rfl rfl ?_
      refine TE.seq ?_
      refine TE.region ?_
      refine OL.pure (Pure.move rfl) rfl ?_
      refine OL.pure (Pure.add rfl rfl (i64 (by omega) (by omega))) rfl ?_
      refine OL.pure (Pure.assign rfl) rfl ?_
      refine OL.nil ?_
      refine TE.exit rfl ?_
      refine TE.cast (.int .i64 (((a + 1 : Nat) : Nat) : Int)) 4 rfl (congrArg (Value.int .i64) (by omega)) ?_
      exact TE.sub [0, 3, 4] rfl (ih1 (acc, a + 1, v) _ ⟨hI.skip hal hd he, hv, hm_v, hC, hK, hF⟩ (by simp only []; omega))
  ·
    rw [hI.fin (by omega)]
    refine TE.exit rfl ?_
    refine TE.seq ?_
    refine TE.region ?_
    refine OL.pure (Pure.move rfl) rfl ?_
    refine OL.pure (Pure.assign rfl) rfl ?_
    refine OL.nil ?_
    exact TE.ret (vs := [v]) Tryd.results27 (⟨rfl, trivial⟩) ⟨v, rfl, hv, hC, hm_v⟩

set_option maxHeartbeats 1000000 in
theorem rsalvage_any (s : List UInt8) (hl : s.length ≤ 1073741824) (w : World) : Calls Tryd.prog 28 #[.string (str s)] w (RetSalv 66 (salv' s 0) w) := by
  refine calls_of_TE (vs := [.string (str s)]) Tryd.func28 Tryd.ntmps28 rfl (by simp) ?_
  have hC : Chg [] w w := Chg.refl _ _
  refine TE.seq ?_
  refine TE.region ?_
  refine OL.pure (Pure.assign rfl) rfl ?_
  refine OL.nil ?_
  refine TE.seq ?_
  refine TE.region ?_
  refine OL.pure (Pure.assign rfl) rfl ?_
  refine OL.nil ?_
  refine TE.seq ?_
  refine TE.region ?_
  refine OL.pure (Pure.assign rfl) rfl ?_
  refine OL.nil ?_
  refine TE.seq ?_
  refine TE.block ?_
  refine TE.loopInv (σ := List (Nat × Fr) × Nat × Value) [0, 3, 4] (fun s_ w_ => match s_ with | (acc, a, v) => SalvInv s acc a ∧ Row w_ 66 5 v acc.length (pvs acc) ∧ Mine w.heap.size v ∧ Chg [] w w_) (fun s_ => [(0, .string (str s)), (3, s_.2.2), (4, .int .i64 (↑s_.2.1))]) (fun s_ => s.length - s_.2.1) ([], 0, .slice none 0 0) ⟨SalvInv.start _, Row.nil _ _ _, Mine.nil _, hC⟩ rfl ?_
  rintro ⟨acc, a, v⟩ w1 ⟨hI, hv, hm_v, hC⟩ ih1
  try dsimp only
  have hI1 := hI.1
  have hI2 := hI.2.1
  refine TE.seq ?_
  refine TE.seq ?_
  refine TE.region ?_
  refine OL.pure (Pure.move rfl) rfl ?_
  refine OL.pure (Pure.move rfl) rfl ?_
  refine OL.pure (Pure.lenStr Tryd.runUnderlying9 rfl) rfl ?_
  refine OL.pure (Pure.lss rfl rfl) rfl ?_
  refine OL.nil ?_
  refine TE.ite rfl (fun hlt => ?_) (fun hlt => ?_)
  ·
    have hal : a < s.length := by omega
    obtain ⟨d, m, e, hd⟩ : ∃ d m e, Frm.decode (s.drop a) = (d, m, e) := ⟨_, _, _, rfl⟩
    refine TE.skip ?_
    refine TE.block ?_
    refine TE.seq ?_
    refine TE.region ?_
    refine OL.pure (Pure.move rfl) rfl ?_
    refine OL.pure (Pure.move rfl) rfl ?_
    refine OL.pure (Pure.sliceFrom (l := s) (p := a) Tryd.underlying9 rfl rfl (by omega) (by omega)) rfl ?_
    refine OL.call rfl Tryd.call14 rfl (rdecode_any (s.drop a) (by simp; omega) d m e hd _) ?_
    rintro _ w2 ⟨rfl, hc2⟩
    replace hv := hv.chg0 hc2
    replace hC := hC.then_ hc2
    refine ⟨_, rfl, ?_⟩
    refine OL.pure (Pure.move rfl) rfl ?_
    refine OL.pure (Pure.extract (vs := [.agg (d).cells.toArray, .int .i64 ((m : Nat) : Int), .int .i64 e]) (i := 0) rfl rfl) rfl ?_
    refine OL.pure (Pure.extract (vs := [.agg (d).cells.toArray, .int .i64 ((m : Nat) : Int), .int .i64 e]) (i := 1) rfl rfl) rfl ?_
    refine OL.pure (Pure.extract (vs := [.agg (d).cells.toArray, .int .i64 ((m : Nat) : Int), .int .i64 e]) (i := 2) rfl rfl) rfl ?_
    refine OL.alloc Tryd.zeroValue34 rfl ?_
    intro gd w3 hg hc3 hg_gd
    have ge_gd : w.heap.size ≤ gd := by have := hC.size; omega
    replace hv := hv.chg0 hc3
    replace hC := hC.then_ hc3
    have hg : Blk w3 gd 34 (Fr.zero.cells) := hg
    refine OL.storeRow (vs := (d).cells) rfl rfl (rfl) (by simp [Fr.cells, Value.oneCell']) hg (Nat.le_refl 4) ?_
    intro w4 hb4 hc4
    replace hv := hv.chg hc4 (hv.apart hg (by decide))
    replace hC := hC.trans1 hc4 (by first | exact .inr (by omega) | exact .inl (by simp))
    replace hg := hb4
    replace hg := hg.all rfl
    by_cases he : e = 0
    ·
      obtain ⟨hN, hm1, hm2⟩ := hI.next hal hd he
      refine OL.pure (Pure.assign rfl) rfl ?_
      refine OL.pure (Pure.assign rfl) rfl ?_
      refine OL.nil ?_
      refine TE.seq ?_
      refine TE.seq ?_
      refine TE.region ?_
      refine OL.pure (Pure.move rfl) rfl ?_
      refine OL.pure (Pure.neq rfl rfl) rfl ?_
      refine OL.cast (.bool false) 21 rfl (congrArg Value.bool (decide_eq_false (fun h => h he))) ?_
      refine OL.nil ?_
      refine TE.condF rfl rfl ?_
      refine TE.skip ?_
      refine TE.seq ?_
      refine TE.region ?_
      refine OL.pure (Pure.move rfl) rfl ?_
      refine OL.pure (Pure.move rfl) rfl ?_
      refine OL.val (Run.loadAll rfl Tryd.underlying34 rfl hg (rfl)) rfl ?_
      refine OL.pure (Pure.build (cs := pcells (a, d)) rfl (by kernel_rfl)) rfl ?_
      refine OL.buildSlice (cs := pcells (a, d)) rfl Tryd.runUnderlying61 Tryd.sizeOf66 Tryd.zeroValue66 (by decide) (by decide) (by kernel_rfl) rfl ?_
      intro q w5 hq hc5 hg_q
      have lt_gd_q : gd < q := by have := hg.lt; omega
      have ge_q : w.heap.size ≤ q := by have := hC.size; omega
      replace hv := hv.chg0 hc5
      replace hg := hg.chg0 hc5
      replace hC := hC.then_ hc5
      refine OL.append (size := 5) (news := pcells (a, d)) (v := v) rfl rfl Tryd.underlying61 (.inl Tryd.underlying61) info66 rfl rfl rfl (by decide) rfl hv ((Src.of_blk hq rfl rfl)) (by simp [pcells, Fr.cells, Value.oneCell']) (by show _ * 48 ≤ _; omega) ?_
      intro v2 w6 hv2 hc6 ho_v2
      have hm_v2 : Mine w.heap.size v2 := Mine.step hm_v (by have := hC.size; omega) ho_v2
      replace hC := hC.own hc6 hm_v
      replace hv2 : Row w6 66 5 v2 (acc ++ [(a, d)]).length (pvs (acc ++ [(a, d)])) := by rw [pvs_snoc, List.length_append]; exact hv2
      refine OL.pure (Pure.assign rfl) rfl ?_
      refine OL.nil ?_
      refine TE.region ?_
      refine OL.pure (Pure.move rfl) rfl ?_
      refine OL.pure (Pure.move rfl) rfl ?_
      refine OL.pure (Pure.add rfl rfl (i64 (by omega) (by omega))) rfl ?_
      refine OL.pure (Pure.assign rfl) rfl ?_
      refine OL.nil ?_
      refine TE.inBlock ?_
      refine TE.cast (.int .i64 (((a + m : Nat) : Nat) : Int)) 4 rfl (congrArg (Value.int .i64) (by omega)) ?_
      exact TE.sub [0, 3, 4] rfl (ih1 (acc ++ [(a, d)], a + m, v2) _ ⟨hN, hv2, hm_v2, hC⟩ (by simp only []; omega))
    ·
      refine OL.pure (Pure.assign rfl) rfl ?_
      refine OL.pure (Pure.assign rfl) rfl ?_
      refine OL.nil ?_
      refine TE.seq ?_
      refine TE.seq ?_
      refine TE.region ?_
      refine OL.pure (Pure.move rfl) rfl ?_
      refine OL.pure (Pure.neq rfl rfl) rfl ?_
      refine OL.cast (.bool true) 21 rfl (congrArg Value.bool (decide_eq_true (he))) ?_
      refine OL.nil ?_
      refine TE.condT rfl rfl ?_
      refine TE.seq ?_
      refine TE.region ?_
      refine OL.pure (Pure.move rfl) rfl ?_
      refine OL.pure (Pure.add rfl rfl (i64 (by omega) (by omega))) rfl ?_
      refine OL.pure (Pure.assign rfl) rfl ?_
      refine OL.nil ?_
      refine TE.exit rfl ?_
      refine TE.cast (.int .i64 (((a + 1 : Nat) : Nat) : Int)) 4 rfl (congrArg (Value.int .i64) (by omega)) ?_
      exact TE.sub [0, 3, 4] rfl (ih1 (acc, a + 1, v) _ ⟨hI.skip hal hd he, hv, hm_v, hC⟩ (by simp only []; omega))
  ·
    rw [hI.fin (by omega)]
    refine TE.exit rfl ?_
    refine TE.seq ?_
    refine TE.region ?_
    refine OL.pure (Pure.move rfl) rfl ?_
    refine OL.pure (Pure.assign rfl) rfl ?_
    refine OL.nil ?_
    exact TE.ret (vs := [v]) Tryd.results28 (⟨rfl, trivial⟩) ⟨v, rfl, hv, hC, hm_v⟩

end Go.Proofs.YtigjmemoaapmgaaDoor
