/- The law of Scan, walked -/
import Derived.Test.YtigjmemoaapmgaaDoorProg
import Derived.Test.YtigjmemoaapmgaaDoorEng6
import Derived.Test.YtigjmemoaapmgaaDoorFrameSpec2
import Derived.Test.YtigjmemoaapmgaaDoorFrm1
import Derived.Test.YtigjmemoaapmgaaDoorFrm2
import Derived.Test.YtigjmemoaapmgaaDoorFrm3
import Derived.Test.YtigjmemoaapmgaaDoorFrm4
import Derived.Test.YtigjmemoaapmgaaDoorFrm5
import Derived.Test.YtigjmemoaapmgaaDoorFrm6
import Derived.Test.YtigjmemoaapmgaaDoorFrm11
import Derived.Test.YtigjmemoaapmgaaDoorFrm13
set_option linter.unusedVariables false
set_option maxRecDepth 4000
namespace Go.Proofs.YtigjmemoaapmgaaDoor
open Go.V Go.Sha Go.Frm
set_option maxHeartbeats 1000000 in
theorem scans_law_any {tK tF : TypeId} (st nb : Int) (A T B : Option Addr) (ca ct cb cut : Nat) (L : List (List UInt8)) (b a : List UInt8) (ts : List Int) (cs : List UInt8) (hts : ∀ z, z ∈ ts → 0 ≤ z ∧ z ≤ 65535) (hcut : cut ≤ 65535) (str_ nbr : Int) (hn1 : -9223372036854775808 ≤ nbr ∧ nbr ≤ 9223372036854775807) (w : World) (hK : Blk w 1 tK (iv .u32 K)) (hF : Blk w 0 tF (iv .i64 fldL)) (hA : Cells w A L) (hT : CellsI w .u16 T ts) (hB : CellsB w B cs) : Calls Tryd.prog 10 #[.agg (runCells st nb (.slice A L.length ca) b a (.slice T ts.length ct) (.slice B cs.length cb) cut).toArray, .int .i64 str_, .int .i64 nbr] w (RetC (.bool true) w) := by
  refine calls_of_TE (vs := [.agg (runCells st nb (.slice A L.length ca) b a (.slice T ts.length ct) (.slice B cs.length cb) cut).toArray, .int .i64 str_, .int .i64 nbr]) Tryd.func10 Tryd.ntmps10 rfl (by simp) ?_
  have hC : Chg [] w w := Chg.refl _ _
  have h0w : 1 < w.heap.size := hK.lt
  have h1w : 0 < w.heap.size := hF.lt
  refine TE.seq ?_
  refine TE.region ?_
  refine OL.box rfl rfl ?_
  intro g2 w1 h2 hc1 hg_g2
  have lt_1_g2 : 1 < g2 := by have := hK.lt; omega
  have lt_0_g2 : 0 < g2 := by have := hF.lt; omega
  have ge_g2 : w.heap.size ≤ g2 := by have := hC.size; omega
  replace hK := hK.chg0 hc1
  replace hF := hF.chg0 hc1
  replace hC := hC.then_ hc1
  have h2 : Blk w1 g2 27 (runCells st nb (.slice A L.length ca) b a (.slice T ts.length ct) (.slice B cs.length cb) cut) := h2
  replace hA := hA.chg0 hC
  replace hT := CellsI.chg0 hT hC
  replace hB := CellsB.chg0 hB hC
  refine OL.pure (Pure.assign rfl) rfl ?_
  refine OL.nil ?_
  refine TE.seq ?_
  refine TE.region ?_
  refine OL.val (Run.loadAll rfl Tryd.underlying27 rfl h2 (rfl)) rfl ?_
  refine OL.call rfl Tryd.call12 rfl (bytes_any st nb A T B ca ct cb cut L b a ts cs hts hcut _ hA hT hB) ?_
  rintro _ w2 ⟨s, rfl, hsl, hplain, hc2⟩
  replace hK := hK.chg0 hc2
  replace hF := hF.chg0 hc2
  replace h2 := h2.chg0 hc2
  replace hC := hC.then_ hc2
  refine ⟨_, rfl, ?_⟩
  obtain ⟨l, z, y, hp⟩ : ∃ l z y, scanL str_ nbr s = (l, z, y) := ⟨_, _, _, rfl⟩
  have hll : l.length ≤ 1000 := by have := scanL_len str_ nbr s; rw [hp] at this; exact Nat.le_trans this hsl
  have hq1 := fun w => scanL_any (tK := tK) (tF := tF) s (by omega) str_ nbr w
  rw [hp] at hq1
  refine OL.pure (Pure.assign rfl) rfl ?_
  refine OL.nil ?_
  refine TE.seq ?_
  refine TE.region ?_
  refine OL.pure (Pure.move rfl) rfl ?_
  refine OL.pure (Pure.move rfl) rfl ?_
  refine OL.pure (Pure.move rfl) rfl ?_
  refine OL.call rfl Tryd.call29 rfl (hq1 _ hK hF) ?_
  rintro _ w3 ⟨v1, rfl, hv1, hc3, hm_v1⟩
  replace hm_v1 : Mine w.heap.size v1 := fun k hk => Nat.le_trans hC.size (hm_v1 k hk)
  replace hK := hK.chg0 hc3
  replace hF := hF.chg0 hc3
  replace hC := hC.then_ hc3
  refine ⟨_, rfl, ?_⟩
  by_cases hnl : -4611686018427387904 ≤ nbr ∧ nbr ≤ 4611686018427387904
  ·
    have hq2 := fun w => rscan_any s (by omega) str_ nbr hnl w
    rw [hp] at hq2
    refine OL.pure (Pure.move rfl) rfl ?_
    refine OL.pure (Pure.extract (vs := [v1, .int .i64 ((l, z, y).2.1 : Int), .int .i64 (l, z, y).2.2]) (i := 0) rfl rfl) rfl ?_
    refine OL.pure (Pure.extract (vs := [v1, .int .i64 ((l, z, y).2.1 : Int), .int .i64 (l, z, y).2.2]) (i := 1) rfl rfl) rfl ?_
    refine OL.pure (Pure.extract (vs := [v1, .int .i64 ((l, z, y).2.1 : Int), .int .i64 (l, z, y).2.2]) (i := 2) rfl rfl) rfl ?_
    refine OL.pure (Pure.assign rfl) rfl ?_
    refine OL.pure (Pure.assign rfl) rfl ?_
    refine OL.pure (Pure.assign rfl) rfl ?_
    refine OL.nil ?_
    refine TE.seq ?_
    refine TE.region ?_
    refine OL.pure (Pure.move rfl) rfl ?_
    refine OL.pure (Pure.move rfl) rfl ?_
    refine OL.pure (Pure.move rfl) rfl ?_
    refine OL.call rfl Tryd.call30 rfl (hq2 _) ?_
    rintro _ w4 ⟨v2, rfl, hv2, hc4, hm_v2⟩
    replace hm_v2 : Mine w.heap.size v2 := fun k hk => Nat.le_trans hC.size (hm_v2 k hk)
    replace hK := hK.chg0 hc4
    replace hF := hF.chg0 hc4
    replace hv1 := hv1.chg0 hc4
    replace hC := hC.then_ hc4
    refine ⟨_, rfl, ?_⟩
    refine OL.pure (Pure.move rfl) rfl ?_
    refine OL.pure (Pure.extract (vs := [v2, .int .i64 ((l, z, y).2.1 : Int), .int .i64 (l, z, y).2.2]) (i := 0) rfl rfl) rfl ?_
    refine OL.pure (Pure.extract (vs := [v2, .int .i64 ((l, z, y).2.1 : Int), .int .i64 (l, z, y).2.2]) (i := 1) rfl rfl) rfl ?_
    refine OL.pure (Pure.extract (vs := [v2, .int .i64 ((l, z, y).2.1 : Int), .int .i64 (l, z, y).2.2]) (i := 2) rfl rfl) rfl ?_
    refine OL.pure (Pure.assign rfl) rfl ?_
    refine OL.pure (Pure.assign rfl) rfl ?_
    refine OL.pure (Pure.assign rfl) rfl ?_
    refine OL.nil ?_
    refine TE.seq ?_
    refine TE.region ?_
    refine OL.call rfl Tryd.call15 rfl (known_any _ hK hF) ?_
    rintro _ w5 ⟨rfl, hc5⟩
    replace hK := hK.chg0 hc5
    replace hF := hF.chg0 hc5
    replace hv1 := hv1.chg0 hc5
    replace hv2 := hv2.chg0 hc5
    replace hC := hC.then_ hc5
    refine ⟨_, rfl, ?_⟩
    refine OL.pure (Pure.move rfl) rfl ?_
    refine OL.want rfl rfl rfl (Pure.move rfl _) rfl ?_
    refine OL.want rfl rfl rfl (Pure.move rfl _) rfl ?_
    refine OL.callG rfl rfl rfl rfl Tryd.call31 rfl (same_any l (by omega) v1 v2 _ hv1 hv2) ?_
    rintro _ w6 ⟨rfl, hc6⟩
    replace hK := hK.chg0 hc6
    replace hF := hF.chg0 hc6
    replace hv1 := hv1.chg0 hc6
    replace hv2 := hv2.chg0 hc6
    replace hC := hC.then_ hc6
    refine ⟨_, rfl, ?_⟩
    refine OL.pure (Pure.pickT rfl rfl) rfl ?_
    refine OL.pure (Pure.move rfl) rfl ?_
    refine OL.want rfl rfl rfl (Pure.move rfl _) rfl ?_
    refine OL.want rfl rfl rfl (Pure.move rfl _) rfl ?_
    refine OL.want rfl rfl rfl (Pure.eql rfl rfl _) rfl ?_
    refine OL.cast (.bool true) 41 rfl (congrArg Value.bool (decide_eq_true (rfl))) ?_
    refine OL.pure (Pure.pickT rfl rfl) rfl ?_
    refine OL.pure (Pure.move rfl) rfl ?_
    refine OL.want rfl rfl rfl (Pure.move rfl _) rfl ?_
    refine OL.want rfl rfl rfl (Pure.move rfl _) rfl ?_
    refine OL.want rfl rfl rfl (Pure.eql rfl rfl _) rfl ?_
    refine OL.cast (.bool true) 46 rfl (congrArg Value.bool (decide_eq_true (rfl))) ?_
    refine OL.pure (Pure.pickT rfl rfl) rfl ?_
    refine OL.pure (Pure.assign rfl) rfl ?_
    refine OL.nil ?_
    exact TE.ret (vs := [.bool true]) Tryd.results10 (⟨rfl, trivial⟩) ⟨rfl, hC⟩
  ·
    have hq2 := fun w => rscan_far s str_ nbr (by omega) w
    rw [hp] at hq2
    refine OL.pure (Pure.move rfl) rfl ?_
    refine OL.pure (Pure.extract (vs := [v1, .int .i64 ((l, z, y).2.1 : Int), .int .i64 (l, z, y).2.2]) (i := 0) rfl rfl) rfl ?_
    refine OL.pure (Pure.extract (vs := [v1, .int .i64 ((l, z, y).2.1 : Int), .int .i64 (l, z, y).2.2]) (i := 1) rfl rfl) rfl ?_
    refine OL.pure (Pure.extract (vs := [v1, .int .i64 ((l, z, y).2.1 : Int), .int .i64 (l, z, y).2.2]) (i := 2) rfl rfl) rfl ?_
    refine OL.pure (Pure.assign rfl) rfl ?_
    refine OL.pure (Pure.assign rfl) rfl ?_
    refine OL.pure (Pure.assign rfl) rfl ?_
    refine OL.nil ?_
    refine TE.seq ?_
    refine TE.region ?_
    refine OL.pure (Pure.move rfl) rfl ?_
    refine OL.pure (Pure.move rfl) rfl ?_
    refine OL.pure (Pure.move rfl) rfl ?_
    refine OL.call rfl Tryd.call30 rfl (hq2 _) ?_
    rintro _ w7 ⟨v2, rfl, hv2, hc7, hm_v2⟩
    replace hm_v2 : Mine w.heap.size v2 := fun k hk => Nat.le_trans hC.size (hm_v2 k hk)
    replace hK := hK.chg0 hc7
    replace hF := hF.chg0 hc7
    replace hv1 := hv1.chg0 hc7
    replace hC := hC.then_ hc7
    refine ⟨_, rfl, ?_⟩
    refine OL.pure (Pure.move rfl) rfl ?_
    refine OL.pure (Pure.extract (vs := [v2, .int .i64 ((l, z, y).2.1 : Int), .int .i64 (l, z, y).2.2]) (i := 0) rfl rfl) rfl ?_
    refine OL.pure (Pure.extract (vs := [v2, .int .i64 ((l, z, y).2.1 : Int), .int .i64 (l, z, y).2.2]) (i := 1) rfl rfl) rfl ?_
    refine OL.pure (Pure.extract (vs := [v2, .int .i64 ((l, z, y).2.1 : Int), .int .i64 (l, z, y).2.2]) (i := 2) rfl rfl) rfl ?_
    refine OL.pure (Pure.assign rfl) rfl ?_
    refine OL.pure (Pure.assign rfl) rfl ?_
    refine OL.pure (Pure.assign rfl) rfl ?_
    refine OL.nil ?_
    refine TE.seq ?_
    refine TE.region ?_
    refine OL.call rfl Tryd.call15 rfl (known_any _ hK hF) ?_
    rintro _ w8 ⟨rfl, hc8⟩
    replace hK := hK.chg0 hc8
    replace hF := hF.chg0 hc8
    replace hv1 := hv1.chg0 hc8
    replace hv2 := hv2.chg0 hc8
    replace hC := hC.then_ hc8
    refine ⟨_, rfl, ?_⟩
    refine OL.pure (Pure.move rfl) rfl ?_
    refine OL.want rfl rfl rfl (Pure.move rfl _) rfl ?_
    refine OL.want rfl rfl rfl (Pure.move rfl _) rfl ?_
    refine OL.callG rfl rfl rfl rfl Tryd.call31 rfl (same_any l (by omega) v1 v2 _ hv1 hv2) ?_
    rintro _ w9 ⟨rfl, hc9⟩
    replace hK := hK.chg0 hc9
    replace hF := hF.chg0 hc9
    replace hv1 := hv1.chg0 hc9
    replace hv2 := hv2.chg0 hc9
    replace hC := hC.then_ hc9
    refine ⟨_, rfl, ?_⟩
    refine OL.pure (Pure.pickT rfl rfl) rfl ?_
    refine OL.pure (Pure.move rfl) rfl ?_
    refine OL.want rfl rfl rfl (Pure.move rfl _) rfl ?_
    refine OL.want rfl rfl rfl (Pure.move rfl _) rfl ?_
    refine OL.want rfl rfl rfl (Pure.eql rfl rfl _) rfl ?_
    refine OL.cast (.bool true) 41 rfl (congrArg Value.bool (decide_eq_true (rfl))) ?_
    refine OL.pure (Pure.pickT rfl rfl) rfl ?_
    refine OL.pure (Pure.move rfl) rfl ?_
    refine OL.want rfl rfl rfl (Pure.move rfl _) rfl ?_
    refine OL.want rfl rfl rfl (Pure.move rfl _) rfl ?_
    refine OL.want rfl rfl rfl (Pure.eql rfl rfl _) rfl ?_
    refine OL.cast (.bool true) 46 rfl (congrArg Value.bool (decide_eq_true (rfl))) ?_
    refine OL.pure (Pure.pickT rfl rfl) rfl ?_
    refine OL.pure (Pure.assign rfl) rfl ?_
    refine OL.nil ?_
    exact TE.ret (vs := [.bool true]) Tryd.results10 (⟨rfl, trivial⟩) ⟨rfl, hC⟩

end Go.Proofs.YtigjmemoaapmgaaDoor
