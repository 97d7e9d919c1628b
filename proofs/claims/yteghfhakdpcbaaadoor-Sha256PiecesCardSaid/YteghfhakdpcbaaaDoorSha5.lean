/- String, known and the first law, walked -/
import Derived.Test.YteghfhakdpcbaaaDoorProg
import Derived.Test.YteghfhakdpcbaaaDoorEng2
import Derived.Test.YteghfhakdpcbaaaDoorShaSpec2
import Derived.Test.YteghfhakdpcbaaaDoorAbc
import Derived.Test.YteghfhakdpcbaaaDoorSha1
import Derived.Test.YteghfhakdpcbaaaDoorSha2
import Derived.Test.YteghfhakdpcbaaaDoorSha3
import Derived.Test.YteghfhakdpcbaaaDoorSha4
set_option linter.unusedVariables false
set_option maxRecDepth 4000
namespace Go.Proofs.YteghfhakdpcbaaaDoor
open Go.V Go.Sha
theorem string_any (d : List Int) (hd : Dig d) (w : World) : Calls Tryd.prog 18 #[.agg (iv .u8 d).toArray] w (RetC (.string (str (hexOf d))) w) := by
  refine calls_of_TE (vs := [.agg (iv .u8 d).toArray]) Tryd.func18 Tryd.ntmps18 rfl (by simp) ?_
  have hC : Chg [] w w := Chg.refl _ _
  refine TE.seq ?_
  refine TE.region ?_
  refine OL.box rfl rfl ?_
  intro g1 w1 h1 hc1 hg_g1
  have ge_g1 : w.heap.size ≤ g1 := by have := hC.size; omega
  replace hC := hC.then_ hc1
  have h1 : Blk w1 g1 25 (iv .u8 d) := h1
  refine OL.pure (Pure.assign rfl) rfl ?_
  refine OL.nil ?_
  refine TE.seq ?_
  refine TE.region ?_
  refine OL.pure (Pure.assign rfl) rfl ?_
  refine OL.nil ?_
  refine TE.seq ?_
  refine TE.seq ?_
  refine TE.region ?_
  refine OL.val (Run.loadAll rfl Tryd.underlying25 rfl h1 (by rw [iv_len, hd.1]; rfl)) rfl ?_
  refine OL.pure (Pure.move rfl) rfl ?_
  refine OL.nil ?_
  refine TE.block ?_
  refine TE.loopInv (σ := Nat × Value) [3, 6, 7] (fun s_ w_ => match s_ with | (t, v) => t ≤ 32 ∧ Row w_ 5 1 v (2 * t) (bv (hexOf (d.take t))) ∧ Mine w.heap.size v ∧ Chg [] w w_) (fun s_ => [(3, s_.2), (6, .agg (iv .u8 d).toArray), (7, .int .i64 (↑s_.1))]) (fun s_ => 32 - s_.1) (0, .slice none 0 0) ⟨by omega, Row.nil _ _ _, Mine.nil _, hC⟩ rfl ?_
  rintro ⟨t, v⟩ w2 ⟨ht, hv, hm_v, hC⟩ ih2
  try dsimp only
  have hdt := hd.at_ t
  refine TE.seq ?_
  refine TE.region ?_
  refine OL.pure (Pure.lss rfl rfl) rfl ?_
  refine OL.nil ?_
  refine TE.seq ?_
  refine TE.ite rfl (fun hlt => ?_) (fun hlt => ?_)
  ·
    refine TE.skip ?_
    refine TE.seq ?_
    refine TE.block ?_
    refine TE.seq ?_
    refine TE.region ?_
    refine OL.pure (Pure.indexAgg (cs := iv .u8 d) (j := t) (v := .int .u8 (d.getD t 0)) Tryd.runUnderlying25 Tryd.sizeOf5 Tryd.isAgg5 rfl rfl rfl (by omega) (iv_get (show t < d.length by rw [hd.1]; omega))) rfl ?_
    refine OL.pure (Pure.assign rfl) rfl ?_
    refine OL.nil ?_
    refine TE.planAll [(0, true), (1, true), (2, true), (3, true), (4, true), (5, true), (6, true), (7, false), (8, false), (9, true)] (fun _ => True) rfl (by kernel_rfl) ?_
    have hS3 : Chg [] w2 w2.drew := Chg.drew _ _
    replace hv := hv.chg0 hS3
    replace hC := hC.then_ hS3
    refine PL.takeP rfl (Pure.move rfl) rfl trivial ?_
    refine PL.takeP rfl (Pure.move rfl) rfl trivial ?_
    refine PL.takeP rfl (Pure.shr (p := 16) rfl rfl (by decide) (by decide)) rfl trivial ?_
    refine PL.takeP rfl (Pure.indexStr (l := hex) (j := (d.getD t 0 / 16).toNat) Tryd.runUnderlying9 rfl rfl (by omega) (by show _ < 16; omega)) rfl trivial ?_
    refine PL.takeP rfl (Pure.move rfl) rfl trivial ?_
    refine PL.takeP rfl (Pure.bits rfl rfl rfl) rfl trivial ?_
    refine PL.cast (.int .u8 (d.getD t 0 % 16)) 15 rfl (congrArg _ (and15 _ hdt.1 hdt.2)) ?_
    refine PL.takeP rfl (Pure.indexStr (l := hex) (j := (d.getD t 0 % 16).toNat) Tryd.runUnderlying9 rfl rfl (by omega) (by show _ < 16; omega)) rfl trivial ?_
    refine PL.buildSlice (cs := bv (hex2 (d.getD t 0))) rfl rfl Tryd.runUnderlying29 Tryd.sizeOf5 Tryd.zeroValue5 (by decide) (by decide) (by kernel_rfl) rfl (fun _ => trivial) ?_
    intro q w4 hq hc4 hg_q
    have ge_q : w.heap.size ≤ q := by have := hC.size; omega
    replace hv := hv.chg0 hc4
    replace hC := hC.then_ hc4
    refine PL.append (size := 1) (news := bv (hex2 (d.getD t 0))) (v := v) rfl rfl rfl Tryd.underlying29 (.inl Tryd.underlying29) info5 rfl rfl rfl (by decide) rfl hv ((Src.of_blk hq rfl rfl)) (by intro u hu; simp only [bv, List.mem_map] at hu; obtain ⟨b, _, rfl⟩ := hu; rfl) (by show _ * 1 ≤ _; omega) (fun _ => trivial) ?_
    intro v2 w5 hv2 hc5 ho_v2
    have hm_v2 : Mine w.heap.size v2 := Mine.step hm_v (by have := hC.size; omega) ho_v2
    replace hC := hC.own hc5 hm_v
    replace hv2 : Row w5 5 1 v2 (2 * (t + 1)) (bv (hexOf (d.take (t + 1)))) := by rw [hexOf_succ (by rw [hd.1]; omega), ← bv_append]; exact hv2
    refine PL.takeP rfl (Pure.assign rfl) rfl trivial ?_
    refine PL.nil ?_
    refine TE.inBlock ?_
    refine TE.region ?_
    refine OL.pure (Pure.add rfl rfl (i64 (by omega) (by omega))) rfl ?_
    refine OL.pure (Pure.move rfl) rfl ?_
    refine OL.nil ?_
    exact TE.sub [3, 6, 7] rfl (ih2 (t + 1, v2) _ ⟨by omega, hv2, hm_v2, hC⟩ (by simp only []; omega))
  ·
    obtain rfl : t = 32 := by omega
    rw [List.take_of_length_le (by rw [hd.1]; omega)] at hv
    refine TE.exit rfl ?_
    refine TE.seq ?_
    refine TE.region ?_
    refine OL.pure (Pure.move rfl) rfl ?_
    refine OL.val (Run.rowStr Tryd.underlying29 Tryd.underlying5 Tryd.underlying9 rfl hv) rfl ?_
    refine OL.pure (Pure.assign rfl) rfl ?_
    refine OL.nil ?_
    exact TE.ret (vs := [.string (str (hexOf d))]) Tryd.results18 (⟨rfl, trivial⟩) ⟨rfl, hC⟩

theorem short_any (l : List UInt8) (n : Nat) (w : World) : Calls Tryd.prog 13 #[.string (str l), .int .i64 (n : Int)] w (Ret (.string (str (l.take n))) w) := by
  refine calls_of_TE (vs := [.string (str l), .int .i64 (n : Int)]) Tryd.func13 Tryd.ntmps13 rfl (by simp) ?_
  refine TE.seq ?_
  refine TE.region ?_
  refine OL.pure (Pure.assign rfl) rfl ?_
  refine OL.nil ?_
  refine TE.seq ?_
  refine TE.region ?_
  refine OL.pure (Pure.move rfl) rfl ?_
  refine OL.pure (Pure.move rfl) rfl ?_
  refine OL.pure (Pure.lenStr Tryd.runUnderlying9 rfl) rfl ?_
  refine OL.pure (Pure.move rfl) rfl ?_
  refine OL.pure (Pure.min rfl rfl) rfl ?_
  refine OL.pure (Pure.sliceTo (l := l) (q := min l.length n) Tryd.underlying9 rfl rfl (by omega) (by omega)) rfl ?_
  refine OL.pure (Pure.assign rfl) rfl ?_
  refine OL.nil ?_
  exact TE.ret (vs := [.string (str (l.take (min l.length n)))]) Tryd.results13 (⟨rfl, trivial⟩) ⟨by rw [take_min]; rfl, rfl⟩

theorem known_any {tK : TypeId} (w : World) (hK : Blk w 0 tK (iv .u32 K)) : Calls Tryd.prog 14 #[] w (RetC (.bool true) w) := by
  refine calls_of_TE (vs := []) Tryd.func14 Tryd.ntmps14 rfl (by simp) ?_
  have hC : Chg [] w w := Chg.refl _ _
  have hs := sum_any [97, 98, 99] (by decide) w hK
  have h0 := abc_first
  have h31 := abc_last
  have hd := sum_ok [97, 98, 99]
  generalize sum [97, 98, 99] = D at hs h0 h31 hd
  refine TE.seq ?_
  refine TE.region ?_
  refine OL.pure (Pure.assign rfl) rfl ?_
  refine OL.nil ?_
  refine TE.seq ?_
  refine TE.region ?_
  refine OL.call rfl Tryd.call15 rfl (hs) ?_
  rintro _ w1 ⟨rfl, hc1⟩
  replace hK := hK.chg0 hc1
  replace hC := hC.then_ hc1
  refine ⟨_, rfl, ?_⟩
  refine OL.alloc Tryd.zeroValue25 rfl ?_
  intro gd w2 hx hc2 hg_gd
  have lt_0_gd : 0 < gd := by have := hK.lt; omega
  have ge_gd : w.heap.size ≤ gd := by have := hC.size; omega
  replace hK := hK.chg0 hc2
  replace hC := hC.then_ hc2
  have hx : Blk w2 gd 25 (iv .u8 (List.replicate 32 0)) := hx
  refine OL.storeRow (vs := iv .u8 D) rfl rfl (by rw [iv_len, hd.1]; rfl) (by simp only [iv, List.mem_map]; rintro _ ⟨x, _, rfl⟩; rfl) hx (by rw [iv_len, hd.1]; exact Nat.le_refl 32) ?_
  intro w3 hb3 hc3
  replace hK := hK.chg hc3 (by simp; omega)
  replace hC := hC.trans1 hc3 (by first | exact .inr (by omega) | exact .inl (by simp))
  replace hx := hb3
  replace hx := hx.all (by rw [iv_len, iv_len, hd.1]; rfl)
  refine OL.nil ?_
  refine TE.seq ?_
  refine TE.region ?_
  refine OL.pure (Pure.indexAddrA (r := 0) Tryd.runUnderlying25 Tryd.sizeOf5 rfl rfl (by omega) (by omega) (by omega)) rfl ?_
  refine OL.val (Run.load (i := 0) rfl Tryd.isAgg5 hx (by omega) (iv_get (by rw [hd.1]; decide))) rfl ?_
  refine OL.pure (Pure.eql rfl rfl) rfl ?_
  refine OL.cast (.bool true) 5 rfl (congrArg Value.bool (decide_eq_true h0)) ?_
  refine OL.pure (Pure.move rfl) rfl ?_
  refine OL.want rfl rfl rfl (Pure.indexAddrA (r := 31) Tryd.runUnderlying25 Tryd.sizeOf5 rfl rfl (by omega) (by omega) (by omega) _) rfl ?_
  refine OL.want rfl rfl rfl (Run.load (i := 31) rfl Tryd.isAgg5 hx (by omega) (iv_get (by rw [hd.1]; decide))) rfl ?_
  refine OL.want rfl rfl rfl (Pure.eql rfl rfl _) rfl ?_
  refine OL.cast (.bool true) 9 rfl (congrArg Value.bool (decide_eq_true h31)) ?_
  refine OL.pure (Pure.pickT rfl rfl) rfl ?_
  refine OL.pure (Pure.move rfl) rfl ?_
  refine OL.want rfl rfl rfl (Run.loadAll rfl Tryd.underlying25 rfl hx (by rw [iv_len, hd.1]; rfl)) rfl ?_
  refine OL.callG rfl rfl rfl rfl Tryd.call18 rfl (string_any D hd _) ?_
  rintro _ w4 ⟨rfl, hc4⟩
  replace hK := hK.chg0 hc4
  replace hx := hx.chg0 hc4
  replace hC := hC.then_ hc4
  refine ⟨_, rfl, ?_⟩
  refine OL.want rfl rfl rfl (Pure.lenStr Tryd.runUnderlying9 rfl _) rfl ?_
  refine OL.want rfl rfl rfl (Pure.eql rfl rfl _) rfl ?_
  refine OL.cast (.bool true) 15 rfl (congrArg Value.bool (decide_eq_true (by rw [hexOf_len, hd.1]; rfl))) ?_
  refine OL.pure (Pure.pickT rfl rfl) rfl ?_
  refine OL.pure (Pure.assign rfl) rfl ?_
  refine OL.nil ?_
  exact TE.ret (vs := [.bool true]) Tryd.results14 (⟨rfl, trivial⟩) ⟨rfl, hC⟩

theorem sums_law_any {tK : TypeId} (l : List UInt8) (w : World) (hK : Blk w 0 tK (iv .u32 K)) : Calls Tryd.prog 3 #[.string (str l)] w (RetC (.bool true) w) := by
  refine calls_of_TE (vs := [.string (str l)]) Tryd.func3 Tryd.ntmps3 rfl (by simp) ?_
  have hC : Chg [] w w := Chg.refl _ _
  refine TE.seq ?_
  refine TE.region ?_
  refine OL.pure (Pure.assign rfl) rfl ?_
  refine OL.nil ?_
  refine TE.seq ?_
  refine TE.region ?_
  refine OL.pure (Pure.move rfl) rfl ?_
  refine OL.call rfl Tryd.call13 rfl (short_any l 1000 _) ?_
  rintro _ _ ⟨rfl, rfl⟩
  refine ⟨_, rfl, ?_⟩
  refine OL.pure (Pure.assign rfl) rfl ?_
  refine OL.nil ?_
  refine TE.seq ?_
  refine TE.region ?_
  refine OL.call rfl Tryd.call14 rfl (known_any _ hK) ?_
  rintro _ w1 ⟨rfl, hc1⟩
  replace hK := hK.chg0 hc1
  replace hC := hC.then_ hc1
  refine ⟨_, rfl, ?_⟩
  have hl : (l.take 1000).length ≤ 4294967296 := by simp; omega
  refine OL.pure (Pure.move rfl) rfl ?_
  refine OL.want rfl rfl rfl (Pure.move rfl _) rfl ?_
  refine OL.callG rfl rfl rfl rfl Tryd.call15 rfl (sum_any _ hl _ hK) ?_
  rintro _ w2 ⟨rfl, hc2⟩
  replace hK := hK.chg0 hc2
  replace hC := hC.then_ hc2
  refine ⟨_, rfl, ?_⟩
  refine OL.want rfl rfl rfl (Pure.move rfl _) rfl ?_
  refine OL.callG rfl rfl rfl rfl Tryd.call16 rfl (rsum_any _ hl _) ?_
  rintro _ w3 ⟨rfl, hc3⟩
  replace hK := hK.chg0 hc3
  replace hC := hC.then_ hc3
  refine ⟨_, rfl, ?_⟩
  refine OL.want rfl rfl rfl (Pure.eqlArr (xs := sum (l.take 1000)) (ys := sum (l.take 1000)) Tryd.underlying24 Tryd.underlying5 info5 (by kernel_rfl) Tryd.eqGuardType24 rfl rfl (rfl) (rfl) _) rfl ?_
  refine OL.cast (.bool true) 11 rfl (congrArg Value.bool (decide_eq_true rfl)) ?_
  refine OL.pure (Pure.pickT rfl rfl) rfl ?_
  refine OL.pure (Pure.assign rfl) rfl ?_
  refine OL.nil ?_
  exact TE.ret (vs := [.bool true]) Tryd.results3 (⟨rfl, trivial⟩) ⟨rfl, hC⟩

end Go.Proofs.YteghfhakdpcbaaaDoor
