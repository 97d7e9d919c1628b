/- The law of clones, walked -/
import Derived.Test.YteghfhakdpcbaaaDoorProg
import Derived.Test.YteghfhakdpcbaaaDoorEng5
import Derived.Test.YteghfhakdpcbaaaDoorShaSpec6
import Derived.Test.YteghfhakdpcbaaaDoorSha16
set_option linter.unusedVariables false
set_option maxRecDepth 4000
namespace Go.Proofs.YteghfhakdpcbaaaDoor
open Go.V Go.Sha
set_option maxHeartbeats 1000000 in
theorem clones_law_any {tK : TypeId} (s0 t0 : List UInt8) (w : World) (hK : Blk w 0 tK (iv .u32 K)) : Calls Tryd.prog 12 #[.string (str s0), .string (str t0)] w (RetC (.bool true) w) := by
  refine calls_of_TE (vs := [.string (str s0), .string (str t0)]) Tryd.func12 Tryd.ntmps12 rfl (by simp) ?_
  have hC : Chg [] w w := Chg.refl _ _
  have h0w : 0 < w.heap.size := hK.lt
  have hsh_s := fun w => short_any s0 300 w
  have hl_s : (s0.take 300).length ≤ 300 := by simp; omega
  generalize s0.take 300 = s at hsh_s hl_s
  have hsh_t := fun w => short_any t0 300 w
  have hl_t : (t0.take 300).length ≤ 300 := by simp; omega
  generalize t0.take 300 = t at hsh_t hl_t
  refine TE.seq ?_
  refine TE.region ?_
  refine OL.pure (Pure.assign rfl) rfl ?_
  refine OL.nil ?_
  refine TE.seq ?_
  refine TE.region ?_
  refine OL.pure (Pure.move rfl) rfl ?_
  refine OL.call rfl Tryd.call13 rfl (hsh_s _) ?_
  rintro _ _ ⟨rfl, rfl⟩
  refine ⟨_, rfl, ?_⟩
  refine OL.pure (Pure.move rfl) rfl ?_
  refine OL.call rfl Tryd.call13 rfl (hsh_t _) ?_
  rintro _ _ ⟨rfl, rfl⟩
  refine ⟨_, rfl, ?_⟩
  refine OL.pure (Pure.assign rfl) rfl ?_
  refine OL.pure (Pure.assign rfl) rfl ?_
  refine OL.nil ?_
  refine TE.seq ?_
  refine TE.region ?_
  refine OL.alloc Tryd.zeroValue66 rfl ?_
  intro gh w1 hh hc1 hg_gh
  have lt_0_gh : 0 < gh := by have := hK.lt; omega
  have ge_gh : w.heap.size ≤ gh := by have := hC.size; omega
  replace hK := hK.chg0 hc1
  replace hC := hC.then_ hc1
  have hh : Blk w1 gh 66 (hashCells []) := hh
  refine OL.nil ?_
  refine TE.seq ?_
  refine TE.region ?_
  refine OL.pure (Pure.assign rfl) rfl ?_
  refine OL.nil ?_
  refine TE.seq ?_
  refine TE.seq ?_
  refine TE.region ?_
  refine OL.call rfl Tryd.call14 rfl (known_any _ hK) ?_
  rintro _ w2 ⟨rfl, hc2⟩
  replace hK := hK.chg0 hc2
  replace hh := hh.chg0 hc2
  replace hC := hC.then_ hc2
  refine ⟨_, rfl, ?_⟩
  refine OL.pure (Pure.not rfl) rfl ?_
  refine OL.pure (Pure.move rfl) rfl ?_
  refine OL.want rfl rfl rfl (Pure.move rfl _) rfl ?_
  refine OL.want rfl rfl rfl (Pure.move rfl _) rfl ?_
  refine OL.callG rfl rfl rfl rfl Tryd.call25 rfl (write_nil s _) ?_
  rintro _ _ ⟨rfl, rfl⟩
  refine ⟨_, rfl, ?_⟩
  refine OL.want rfl rfl rfl (Pure.neq rfl rfl _) rfl ?_
  refine OL.cast (.bool false) 18 rfl (rfl) ?_
  refine OL.pure (Pure.pickF rfl rfl) rfl ?_
  refine OL.pure (Pure.move rfl) rfl ?_
  refine OL.want rfl rfl rfl (Pure.move rfl _) rfl ?_
  refine OL.callG rfl rfl rfl rfl Tryd.call26 rfl (reset_nil _) ?_
  rintro _ _ ⟨rfl, rfl⟩
  refine ⟨_, rfl, ?_⟩
  refine OL.want rfl rfl rfl (Pure.neq rfl rfl _) rfl ?_
  refine OL.cast (.bool false) 23 rfl (rfl) ?_
  refine OL.pure (Pure.pickF rfl rfl) rfl ?_
  refine OL.pure (Pure.move rfl) rfl ?_
  refine OL.want rfl rfl rfl (Pure.move rfl _) rfl ?_
  refine OL.callG rfl rfl rfl rfl Tryd.call27 rfl (sum_nil _) ?_
  rintro _ w3 ⟨rfl, hc3⟩
  replace hK := hK.chg0 hc3
  replace hh := hh.chg0 hc3
  replace hC := hC.then_ hc3
  refine ⟨_, rfl, ?_⟩
  refine OL.want rfl rfl rfl (Pure.build (cs := iv .u8 (List.replicate 32 0)) rfl (by kernel_rfl) _) rfl ?_
  refine OL.want rfl rfl rfl (Pure.neqArr (xs := List.replicate 32 0) (ys := List.replicate 32 0) Tryd.underlying25 Tryd.underlying5 info5 (by kernel_rfl) Tryd.eqGuardType25 rfl rfl (rfl) (rfl) _) rfl ?_
  refine OL.cast (.bool false) 29 rfl (congrArg Value.bool (decide_eq_false (fun h => h rfl))) ?_
  refine OL.pure (Pure.pickF rfl rfl) rfl ?_
  refine OL.pure (Pure.move rfl) rfl ?_
  refine OL.want rfl rfl rfl (Pure.move rfl _) rfl ?_
  refine OL.callG rfl rfl rfl rfl Tryd.call28 rfl (len_nil _) ?_
  rintro _ _ ⟨rfl, rfl⟩
  refine ⟨_, rfl, ?_⟩
  refine OL.want rfl rfl rfl (Pure.neq rfl rfl _) rfl ?_
  refine OL.cast (.bool false) 34 rfl (rfl) ?_
  refine OL.pure (Pure.pickF rfl rfl) rfl ?_
  refine OL.pure (Pure.move rfl) rfl ?_
  refine OL.want rfl rfl rfl (Pure.move rfl _) rfl ?_
  refine OL.callG rfl rfl rfl rfl Tryd.call36 rfl (clone_nil _) ?_
  rintro _ _ ⟨rfl, rfl⟩
  refine ⟨_, rfl, ?_⟩
  refine OL.want rfl rfl rfl (Pure.neqNil Tryd.underlying44 rfl rfl _) rfl ?_
  refine OL.pure (Pure.pickF rfl rfl) rfl ?_
  refine OL.pure (Pure.move rfl) rfl ?_
  refine OL.want rfl rfl rfl (Pure.move rfl _) rfl ?_
  refine OL.callG rfl rfl rfl rfl Tryd.call37 rfl (equal_nil _) ?_
  rintro _ _ ⟨rfl, rfl⟩
  refine ⟨_, rfl, ?_⟩
  refine OL.want rfl rfl rfl (Pure.not rfl _) rfl ?_
  refine OL.pure (Pure.pickF rfl rfl) rfl ?_
  refine OL.pure (Pure.move rfl) rfl ?_
  refine OL.want rfl rfl rfl (Pure.move rfl _) rfl ?_
  refine OL.callG rfl rfl rfl rfl Tryd.call37 rfl (equal_nil1 gh _) ?_
  rintro _ _ ⟨rfl, rfl⟩
  refine ⟨_, rfl, ?_⟩
  refine OL.pure (Pure.pickF rfl rfl) rfl ?_
  refine OL.pure (Pure.move rfl) rfl ?_
  refine OL.want rfl rfl rfl (Pure.move rfl _) rfl ?_
  refine OL.callG rfl rfl rfl rfl Tryd.call37 rfl (equal_nil2 gh _) ?_
  rintro _ _ ⟨rfl, rfl⟩
  refine ⟨_, rfl, ?_⟩
  refine OL.pure (Pure.pickF rfl rfl) rfl ?_
  refine OL.nil ?_
  refine TE.condF rfl rfl ?_
  refine TE.skip ?_
  refine TE.seq ?_
  refine TE.region ?_
  refine OL.pure (Pure.move rfl) rfl ?_
  refine OL.call rfl Tryd.call25 rfl (write_any [] s (by simp; omega) gh (by omega) _ hK hh) ?_
  rintro _ w4 ⟨rfl, hc4, hx_hc4⟩
  replace hK := hK.chg hc4 (by simp; omega)
  replace hC := hC.trans1 hc4 (by first | exact .inr (by omega) | exact .inl (by simp))
  replace hh : Blk w4 gh 66 (hashCells s) := hx_hc4
  refine ⟨_, rfl, ?_⟩
  refine OL.nil ?_
  refine TE.seq ?_
  refine TE.region ?_
  refine OL.call rfl Tryd.call36 rfl (clone_any s gh _ hh) ?_
  rintro _ w5 ⟨gc, rfl, hc, hc5, hg_gc⟩
  have lt_0_gc : 0 < gc := by have := hK.lt; omega
  have lt_gh_gc : gh < gc := by have := hh.lt; omega
  have ge_gc : w.heap.size ≤ gc := by have := hC.size; omega
  replace hK := hK.chg0 hc5
  replace hh := hh.chg0 hc5
  replace hC := hC.then_ hc5
  refine ⟨_, rfl, ?_⟩
  refine OL.pure (Pure.assign rfl) rfl ?_
  refine OL.nil ?_
  refine TE.seq ?_
  refine TE.seq ?_
  refine TE.region ?_
  refine OL.pure (Pure.move rfl) rfl ?_
  refine OL.pure (Pure.eqlNil Tryd.underlying44 rfl rfl) rfl ?_
  refine OL.pure (Pure.move rfl) rfl ?_
  refine OL.want rfl rfl rfl (Pure.move rfl _) rfl ?_
  refine OL.callG rfl rfl rfl rfl Tryd.call37 rfl (equal_any s s gc gh _ hc hh) ?_
  rintro _ w6 ⟨rfl, hc6⟩
  replace hK := hK.chg0 hc6
  replace hh := hh.chg0 hc6
  replace hc := hc.chg0 hc6
  replace hC := hC.then_ hc6
  refine ⟨_, rfl, ?_⟩
  refine OL.cast (.bool true) 61 rfl (congrArg Value.bool (hashSame_self s)) ?_
  refine OL.want rfl rfl rfl (Pure.not rfl _) rfl ?_
  refine OL.pure (Pure.pickF rfl rfl) rfl ?_
  refine OL.nil ?_
  refine TE.condF rfl rfl ?_
  refine TE.skip ?_
  refine TE.seq ?_
  refine TE.region ?_
  refine OL.pure (Pure.move rfl) rfl ?_
  refine OL.pure (Pure.move rfl) rfl ?_
  refine OL.call rfl Tryd.call25 rfl (write_any s t (by omega) gc (by omega) _ hK hc) ?_
  rintro _ w7 ⟨rfl, hc7, hx_hc7⟩
  replace hK := hK.chg hc7 (by simp; omega)
  replace hh := hh.chg hc7 (by simp; omega)
  replace hC := hC.trans1 hc7 (by first | exact .inr (by omega) | exact .inl (by simp))
  replace hc : Blk w7 gc 66 (hashCells (s ++ t)) := hx_hc7
  refine ⟨_, rfl, ?_⟩
  have hst : (s ++ t).length ≤ 600 := by rw [List.length_append]; omega
  refine OL.nil ?_
  refine TE.seq ?_
  refine TE.region ?_
  refine OL.call rfl Tryd.call27 rfl (hsum_any s (by omega) gh _ hK hh) ?_
  rintro _ w8 ⟨rfl, hc8⟩
  replace hK := hK.chg0 hc8
  replace hh := hh.chg0 hc8
  replace hc := hc.chg0 hc8
  replace hC := hC.then_ hc8
  refine ⟨_, rfl, ?_⟩
  refine OL.pure (Pure.move rfl) rfl ?_
  refine OL.call rfl Tryd.call16 rfl (rsum_any s (by omega) _) ?_
  rintro _ w9 ⟨rfl, hc9⟩
  replace hK := hK.chg0 hc9
  replace hh := hh.chg0 hc9
  replace hc := hc.chg0 hc9
  replace hC := hC.then_ hc9
  refine ⟨_, rfl, ?_⟩
  refine OL.pure (Pure.eqlArr (xs := sum s) (ys := sum s) Tryd.underlying24 Tryd.underlying5 info5 (by kernel_rfl) Tryd.eqGuardType24 rfl rfl (rfl) (rfl)) rfl ?_
  refine OL.cast (.bool true) 70 rfl (congrArg Value.bool (decide_eq_true rfl)) ?_
  refine OL.pure (Pure.move rfl) rfl ?_
  refine OL.want rfl rfl rfl (Pure.move rfl _) rfl ?_
  refine OL.callG rfl rfl rfl rfl Tryd.call27 rfl (hsum_any (s ++ t) (by omega) gc _ hK hc) ?_
  rintro _ w10 ⟨rfl, hc10⟩
  replace hK := hK.chg0 hc10
  replace hh := hh.chg0 hc10
  replace hc := hc.chg0 hc10
  replace hC := hC.then_ hc10
  refine ⟨_, rfl, ?_⟩
  refine OL.want rfl rfl rfl (Pure.move rfl _) rfl ?_
  refine OL.want rfl rfl rfl (Pure.move rfl _) rfl ?_
  refine OL.want rfl rfl rfl (Pure.strAdd (l := s) (m := t) rfl rfl (by omega) _) rfl ?_
  refine OL.callG rfl rfl rfl rfl Tryd.call16 rfl (rsum_any (s ++ t) (by omega) _) ?_
  rintro _ w11 ⟨rfl, hc11⟩
  replace hK := hK.chg0 hc11
  replace hh := hh.chg0 hc11
  replace hc := hc.chg0 hc11
  replace hC := hC.then_ hc11
  refine ⟨_, rfl, ?_⟩
  refine OL.want rfl rfl rfl (Pure.eqlArr (xs := sum (s ++ t)) (ys := sum (s ++ t)) Tryd.underlying24 Tryd.underlying5 info5 (by kernel_rfl) Tryd.eqGuardType24 rfl rfl (rfl) (rfl) _) rfl ?_
  refine OL.cast (.bool true) 78 rfl (congrArg Value.bool (decide_eq_true rfl)) ?_
  refine OL.pure (Pure.pickT rfl rfl) rfl ?_
  refine OL.pure (Pure.move rfl) rfl ?_
  refine OL.want rfl rfl rfl (Pure.move rfl _) rfl ?_
  refine OL.callG rfl rfl rfl rfl Tryd.call37 rfl (equal_any (s ++ t) s gc gh _ hc hh) ?_
  rintro _ w12 ⟨rfl, hc12⟩
  replace hK := hK.chg0 hc12
  replace hh := hh.chg0 hc12
  replace hc := hc.chg0 hc12
  replace hC := hC.then_ hc12
  refine ⟨_, rfl, ?_⟩
  refine OL.want rfl rfl rfl (Pure.move rfl _) rfl ?_
  refine OL.want rfl rfl rfl (Pure.strEql (l := t) (m := []) rfl rfl _) rfl ?_
  refine OL.want rfl rfl rfl (Pure.eqlBool' Tryd.underlying4 rfl rfl _) rfl ?_
  refine OL.cast (.bool true) 85 rfl (congrArg Value.bool (by rw [hashSame_longer]; simp)) ?_
  refine OL.pure (Pure.pickT rfl rfl) rfl ?_
  refine OL.pure (Pure.move rfl) rfl ?_
  refine OL.want rfl rfl rfl (Pure.move rfl _) rfl ?_
  refine OL.callG rfl rfl rfl rfl Tryd.call37 rfl (equal_any s (s ++ t) gh gc _ hh hc) ?_
  rintro _ w13 ⟨rfl, hc13⟩
  replace hK := hK.chg0 hc13
  replace hh := hh.chg0 hc13
  replace hc := hc.chg0 hc13
  replace hC := hC.then_ hc13
  refine ⟨_, rfl, ?_⟩
  refine OL.want rfl rfl rfl (Pure.move rfl _) rfl ?_
  refine OL.want rfl rfl rfl (Pure.strEql (l := t) (m := []) rfl rfl _) rfl ?_
  refine OL.want rfl rfl rfl (Pure.eqlBool' Tryd.underlying4 rfl rfl _) rfl ?_
  refine OL.cast (.bool true) 92 rfl (congrArg Value.bool (by rw [hashSame_longer']; simp)) ?_
  refine OL.pure (Pure.pickT rfl rfl) rfl ?_
  refine OL.pure (Pure.assign rfl) rfl ?_
  refine OL.nil ?_
  exact TE.ret (vs := [.bool true]) Tryd.results12 (⟨rfl, trivial⟩) ⟨rfl, hC⟩

end Go.Proofs.YteghfhakdpcbaaaDoor
