/- Compare and its reference, walked -/
import Derived.Test.YteghfhakdpcbaaaDoorProg
import Derived.Test.YteghfhakdpcbaaaDoorEng2
import Derived.Test.YteghfhakdpcbaaaDoorShaSpec2
import Derived.Test.YteghfhakdpcbaaaDoorAbc
import Derived.Test.YteghfhakdpcbaaaDoorSha1
import Derived.Test.YteghfhakdpcbaaaDoorSha2
import Derived.Test.YteghfhakdpcbaaaDoorSha3
import Derived.Test.YteghfhakdpcbaaaDoorSha4
import Derived.Test.YteghfhakdpcbaaaDoorSha5
set_option linter.unusedVariables false
set_option maxRecDepth 4000
namespace Go.Proofs.YteghfhakdpcbaaaDoor
open Go.V Go.Sha
theorem compare_any (a b : List Int) (ha : Dig a) (hb : Dig b) (w : World) : Calls Tryd.prog 19 #[.agg (iv .u8 a).toArray, .agg (iv .u8 b).toArray] w (RetC (.int .i64 (cmp a b)) w) := by
  refine calls_of_TE (vs := [.agg (iv .u8 a).toArray, .agg (iv .u8 b).toArray]) Tryd.func19 Tryd.ntmps19 rfl (by simp) ?_
  have hC : Chg [] w w := Chg.refl _ _
  refine TE.seq ?_
  refine TE.region ?_
  refine OL.box rfl rfl ?_
  intro ga w1 hga hc1 hg_ga
  have ge_ga : w.heap.size ≤ ga := by have := hC.size; omega
  replace hC := hC.then_ hc1
  have hga : Blk w1 ga 25 (iv .u8 a) := hga
  refine OL.box rfl rfl ?_
  intro gb w2 hgb hc2 hg_gb
  have lt_ga_gb : ga < gb := by have := hga.lt; omega
  have ge_gb : w.heap.size ≤ gb := by have := hC.size; omega
  replace hga := hga.chg0 hc2
  replace hC := hC.then_ hc2
  have hgb : Blk w2 gb 25 (iv .u8 b) := hgb
  refine OL.pure (Pure.assign rfl) rfl ?_
  refine OL.nil ?_
  refine TE.seq ?_
  refine TE.seq ?_
  refine TE.region ?_
  refine OL.pure (Pure.move rfl) rfl ?_
  refine OL.nil ?_
  refine TE.block ?_
  refine TE.loopInv (σ := Nat) [2, 3, 6] (fun s_ w_ => s_ ≤ 32 ∧ a.take s_ = b.take s_ ∧ Chg [] w w_ ∧ Blk w_ ga 25 (iv .u8 a) ∧ Blk w_ gb 25 (iv .u8 b)) (fun s_ => [(2, .pointer (some ⟨ga, 0, none⟩)), (3, .pointer (some ⟨gb, 0, none⟩)), (6, .int .i64 (↑s_))]) (fun s_ => 32 - s_) 0 ⟨by omega, rfl, hC, hga, hgb⟩ rfl ?_
  rintro t w3 ⟨ht, htk, hC, hga, hgb⟩ ih3
  have ha1 := ha.1
  have hb1 := hb.1
  refine TE.seq ?_
  refine TE.region ?_
  refine OL.pure (Pure.lss rfl rfl) rfl ?_
  refine OL.nil ?_
  refine TE.seq ?_
  refine TE.ite rfl (fun hlt => ?_) (fun hlt => ?_)
  ·
    refine TE.skip ?_
    refine TE.seq ?_
    refine TE.block ?_
    refine TE.seq ?_
    refine TE.region ?_
    refine OL.pure (Pure.move rfl) rfl ?_
    refine OL.pure (Pure.assign rfl) rfl ?_
    refine OL.nil ?_
    refine TE.seq ?_
    refine TE.seq ?_
    refine TE.planAll [(0, true), (1, true), (2, true), (3, true), (4, true), (5, true), (6, true)] (fun w_ => Chg [] w3 w_) rfl (by kernel_rfl) ?_
    have hS4 : Chg [] w3 w3.drew := Chg.drew _ _
    refine PL.takeP rfl (Pure.move rfl) rfl hS4 ?_
    refine PL.takeP rfl (Pure.indexAddrA (r := t) Tryd.runUnderlying25 Tryd.sizeOf5 rfl rfl (by omega) (by omega) (by omega)) rfl hS4 ?_
    refine PL.take rfl (fun w_ h_ => Run.load (i := t) rfl Tryd.isAgg5 (hga.chg0 h_) (by omega) (iv_get (by omega))) rfl hS4 ?_
    refine PL.takeP rfl (Pure.move rfl) rfl hS4 ?_
    refine PL.takeP rfl (Pure.indexAddrA (r := t) Tryd.runUnderlying25 Tryd.sizeOf5 rfl rfl (by omega) (by omega) (by omega)) rfl hS4 ?_
    refine PL.take rfl (fun w_ h_ => Run.load (i := t) rfl Tryd.isAgg5 (hgb.chg0 h_) (by omega) (iv_get (by omega))) rfl hS4 ?_
    refine PL.takeP rfl (Pure.lss rfl rfl) rfl hS4 ?_
    refine PL.nil ?_
    replace hga := hga.chg0 hS4
    replace hgb := hgb.chg0 hS4
    replace hC := hC.then_ hS4
    refine TE.ite rfl (fun h1 => ?_) (fun h1 => ?_)
    ·
      refine TE.seq ?_
      refine TE.region ?_
      refine OL.pure (Pure.assign rfl) rfl ?_
      refine OL.nil ?_
      exact TE.ret (vs := [.int .i64 (cmp a b)]) Tryd.results19 (⟨by rw [cmp_lt htk (by omega) (by omega) h1]; rfl, trivial⟩) ⟨rfl, hC⟩
    ·
      refine TE.skip ?_
      refine TE.seq ?_
      refine TE.planAll [(0, true), (1, true), (2, true), (3, true), (4, true), (5, true), (6, true)] (fun w_ => Chg [] w3.drew w_) rfl (by kernel_rfl) ?_
      have hS5 : Chg [] w3.drew w3.drew.drew := Chg.drew _ _
      refine PL.takeP rfl (Pure.move rfl) rfl hS5 ?_
      refine PL.takeP rfl (Pure.indexAddrA (r := t) Tryd.runUnderlying25 Tryd.sizeOf5 rfl rfl (by omega) (by omega) (by omega)) rfl hS5 ?_
      refine PL.take rfl (fun w_ h_ => Run.load (i := t) rfl Tryd.isAgg5 (hga.chg0 h_) (by omega) (iv_get (by omega))) rfl hS5 ?_
      refine PL.takeP rfl (Pure.move rfl) rfl hS5 ?_
      refine PL.takeP rfl (Pure.indexAddrA (r := t) Tryd.runUnderlying25 Tryd.sizeOf5 rfl rfl (by omega) (by omega) (by omega)) rfl hS5 ?_
      refine PL.take rfl (fun w_ h_ => Run.load (i := t) rfl Tryd.isAgg5 (hgb.chg0 h_) (by omega) (iv_get (by omega))) rfl hS5 ?_
      refine PL.takeP rfl (Pure.gtr rfl rfl) rfl hS5 ?_
      refine PL.nil ?_
      replace hga := hga.chg0 hS5
      replace hgb := hgb.chg0 hS5
      replace hC := hC.then_ hS5
      refine TE.ite rfl (fun h2 => ?_) (fun h2 => ?_)
      ·
        refine TE.seq ?_
        refine TE.region ?_
        refine OL.pure (Pure.assign rfl) rfl ?_
        refine OL.nil ?_
        exact TE.ret (vs := [.int .i64 (cmp a b)]) Tryd.results19 (⟨by rw [cmp_gt htk (by omega) (by omega) h2]; rfl, trivial⟩) ⟨rfl, hC⟩
      ·
        refine TE.skip ?_
        refine TE.inBlock ?_
        refine TE.region ?_
        refine OL.pure (Pure.add rfl rfl (i64 (by omega) (by omega))) rfl ?_
        refine OL.pure (Pure.move rfl) rfl ?_
        refine OL.nil ?_
        exact TE.sub [2, 3, 6] rfl (ih3 (t + 1) _ ⟨by omega, take_next htk (by omega) (by omega) (by omega), hC, hga, hgb⟩ (by omega))
  ·
    obtain rfl : t = 32 := by omega
    rw [List.take_of_length_le (by omega), List.take_of_length_le (by omega)] at htk
    refine TE.exit rfl ?_
    refine TE.seq ?_
    refine TE.region ?_
    refine OL.pure (Pure.assign rfl) rfl ?_
    refine OL.nil ?_
    exact TE.ret (vs := [.int .i64 (cmp a b)]) Tryd.results19 (⟨by rw [htk, cmp_self]; rfl, trivial⟩) ⟨rfl, hC⟩

theorem rcompare_any (a b : List Int) (ha : Dig a) (hb : Dig b) (w : World) : Calls Tryd.prog 20 #[.agg (iv .u8 a).toArray, .agg (iv .u8 b).toArray] w (RetC (.int .i64 (cmp a b)) w) := by
  refine calls_of_TE (vs := [.agg (iv .u8 a).toArray, .agg (iv .u8 b).toArray]) Tryd.func20 Tryd.ntmps20 rfl (by simp) ?_
  have hC : Chg [] w w := Chg.refl _ _
  refine TE.seq ?_
  refine TE.region ?_
  refine OL.box rfl rfl ?_
  intro ga w1 hga hc1 hg_ga
  have ge_ga : w.heap.size ≤ ga := by have := hC.size; omega
  replace hC := hC.then_ hc1
  have hga : Blk w1 ga 24 (iv .u8 a) := hga
  refine OL.box rfl rfl ?_
  intro gb w2 hgb hc2 hg_gb
  have lt_ga_gb : ga < gb := by have := hga.lt; omega
  have ge_gb : w.heap.size ≤ gb := by have := hC.size; omega
  replace hga := hga.chg0 hc2
  replace hC := hC.then_ hc2
  have hgb : Blk w2 gb 24 (iv .u8 b) := hgb
  refine OL.pure (Pure.assign rfl) rfl ?_
  refine OL.nil ?_
  refine TE.seq ?_
  refine TE.seq ?_
  refine TE.region ?_
  refine OL.pure (Pure.assign rfl) rfl ?_
  refine OL.nil ?_
  refine TE.block ?_
  refine TE.loopInv (σ := Nat) [2, 3, 5] (fun s_ w_ => s_ ≤ 32 ∧ a.take s_ = b.take s_ ∧ Chg [] w w_ ∧ Blk w_ ga 24 (iv .u8 a) ∧ Blk w_ gb 24 (iv .u8 b)) (fun s_ => [(2, .pointer (some ⟨ga, 0, none⟩)), (3, .pointer (some ⟨gb, 0, none⟩)), (5, .int .i64 (↑s_))]) (fun s_ => 32 - s_) 0 ⟨by omega, rfl, hC, hga, hgb⟩ rfl ?_
  rintro t w3 ⟨ht, htk, hC, hga, hgb⟩ ih3
  have ha1 := ha.1
  have hb1 := hb.1
  refine TE.seq ?_
  refine TE.seq ?_
  refine TE.region ?_
  refine OL.pure (Pure.move rfl) rfl ?_
  refine OL.pure (Pure.lss rfl rfl) rfl ?_
  refine OL.nil ?_
  refine TE.ite rfl (fun hlt => ?_) (fun hlt => ?_)
  ·
    refine TE.skip ?_
    refine TE.seq ?_
    refine TE.block ?_
    refine TE.seq ?_
    refine TE.seq ?_
    refine TE.planAll [(0, true), (1, true), (2, true), (3, true), (4, true), (5, true), (6, true)] (fun w_ => Chg [] w3 w_) rfl (by kernel_rfl) ?_
    have hS4 : Chg [] w3 w3.drew := Chg.drew _ _
    refine PL.takeP rfl (Pure.move rfl) rfl hS4 ?_
    refine PL.takeP rfl (Pure.indexAddrA (r := t) Tryd.runUnderlying24 Tryd.sizeOf5 rfl rfl (by omega) (by omega) (by omega)) rfl hS4 ?_
    refine PL.take rfl (fun w_ h_ => Run.load (i := t) rfl Tryd.isAgg5 (hga.chg0 h_) (by omega) (iv_get (by omega))) rfl hS4 ?_
    refine PL.takeP rfl (Pure.move rfl) rfl hS4 ?_
    refine PL.takeP rfl (Pure.indexAddrA (r := t) Tryd.runUnderlying24 Tryd.sizeOf5 rfl rfl (by omega) (by omega) (by omega)) rfl hS4 ?_
    refine PL.take rfl (fun w_ h_ => Run.load (i := t) rfl Tryd.isAgg5 (hgb.chg0 h_) (by omega) (iv_get (by omega))) rfl hS4 ?_
    refine PL.takeP rfl (Pure.lss rfl rfl) rfl hS4 ?_
    refine PL.nil ?_
    replace hga := hga.chg0 hS4
    replace hgb := hgb.chg0 hS4
    replace hC := hC.then_ hS4
    refine TE.ite rfl (fun h1 => ?_) (fun h1 => ?_)
    ·
      refine TE.seq ?_
      refine TE.region ?_
      refine OL.pure (Pure.assign rfl) rfl ?_
      refine OL.nil ?_
      exact TE.ret (vs := [.int .i64 (cmp a b)]) Tryd.results20 (⟨by rw [cmp_lt htk (by omega) (by omega) h1]; rfl, trivial⟩) ⟨rfl, hC⟩
    ·
      refine TE.skip ?_
      refine TE.seq ?_
      refine TE.planAll [(0, true), (1, true), (2, true), (3, true), (4, true), (5, true), (6, true)] (fun w_ => Chg [] w3.drew w_) rfl (by kernel_rfl) ?_
      have hS5 : Chg [] w3.drew w3.drew.drew := Chg.drew _ _
      refine PL.takeP rfl (Pure.move rfl) rfl hS5 ?_
      refine PL.takeP rfl (Pure.indexAddrA (r := t) Tryd.runUnderlying24 Tryd.sizeOf5 rfl rfl (by omega) (by omega) (by omega)) rfl hS5 ?_
      refine PL.take rfl (fun w_ h_ => Run.load (i := t) rfl Tryd.isAgg5 (hga.chg0 h_) (by omega) (iv_get (by omega))) rfl hS5 ?_
      refine PL.takeP rfl (Pure.move rfl) rfl hS5 ?_
      refine PL.takeP rfl (Pure.indexAddrA (r := t) Tryd.runUnderlying24 Tryd.sizeOf5 rfl rfl (by omega) (by omega) (by omega)) rfl hS5 ?_
      refine PL.take rfl (fun w_ h_ => Run.load (i := t) rfl Tryd.isAgg5 (hgb.chg0 h_) (by omega) (iv_get (by omega))) rfl hS5 ?_
      refine PL.takeP rfl (Pure.gtr rfl rfl) rfl hS5 ?_
      refine PL.nil ?_
      replace hga := hga.chg0 hS5
      replace hgb := hgb.chg0 hS5
      replace hC := hC.then_ hS5
      refine TE.ite rfl (fun h2 => ?_) (fun h2 => ?_)
      ·
        refine TE.seq ?_
        refine TE.region ?_
        refine OL.pure (Pure.assign rfl) rfl ?_
        refine OL.nil ?_
        exact TE.ret (vs := [.int .i64 (cmp a b)]) Tryd.results20 (⟨by rw [cmp_gt htk (by omega) (by omega) h2]; rfl, trivial⟩) ⟨rfl, hC⟩
      ·
        refine TE.skip ?_
        refine TE.inBlock ?_
        refine TE.region ?_
        refine OL.pure (Pure.move rfl) rfl ?_
        refine OL.pure (Pure.add rfl rfl (i64 (by omega) (by omega))) rfl ?_
        refine OL.pure (Pure.assign rfl) rfl ?_
        refine OL.nil ?_
        exact TE.sub [2, 3, 5] rfl (ih3 (t + 1) _ ⟨by omega, take_next htk (by omega) (by omega) (by omega), hC, hga, hgb⟩ (by omega))
  ·
    obtain rfl : t = 32 := by omega
    rw [List.take_of_length_le (by omega), List.take_of_length_le (by omega)] at htk
    refine TE.exit rfl ?_
    refine TE.seq ?_
    refine TE.region ?_
    refine OL.pure (Pure.assign rfl) rfl ?_
    refine OL.nil ?_
    exact TE.ret (vs := [.int .i64 (cmp a b)]) Tryd.results20 (⟨by rw [htk, cmp_self]; rfl, trivial⟩) ⟨rfl, hC⟩

end Go.Proofs.YteghfhakdpcbaaaDoor
