/- The law of Join and Tagged, walked -/
import Derived.Test.YteghfhakdpcbaaaDoorProg
import Derived.Test.YteghfhakdpcbaaaDoorEng4
import Derived.Test.YteghfhakdpcbaaaDoorShaSpec4
import Derived.Test.YteghfhakdpcbaaaDoorSha10
set_option linter.unusedVariables false
set_option maxRecDepth 4000
namespace Go.Proofs.YteghfhakdpcbaaaDoor
open Go.V Go.Sha
theorem joins_law_any {tK : TypeId} (t : UInt8) (A : Option Addr) (cap : Nat) (L : List (List UInt8)) (w : World) (hK : Blk w 0 tK (iv .u32 K)) (hA : Cells w A L) : Calls Tryd.prog 8 #[.int .u8 ((t.toNat : Nat) : Int), .slice A L.length cap] w (RetC (.bool true) w) := by
  refine calls_of_TE (vs := [.int .u8 ((t.toNat : Nat) : Int), .slice A L.length cap]) Tryd.func8 Tryd.ntmps8 rfl (by simp) ?_
  have hC : Chg [] w w := Chg.refl _ _
  have hl_M := cutL_len L
  have hm_M := cutL_mem L
  have hb_M := cutL_bound L
  have hlist_M := fun w hA => list_any A cap L w hA
  generalize cutL L = M at hl_M hm_M hb_M hlist_M
  refine TE.seq ?_
  refine TE.region ?_
  refine OL.pure (Pure.assign rfl) rfl ?_
  refine OL.nil ?_
  refine TE.seq ?_
  refine TE.region ?_
  refine OL.pure (Pure.move rfl) rfl ?_
  refine OL.call rfl Tryd.call21 rfl (hlist_M _ hA) ?_
  rintro _ w1 ⟨_, rfl, hv_A1, hc1, _⟩
  obtain ⟨A1, cap1, rfl, hA1⟩ := hv_A1.cells rfl
  replace hK := hK.chg0 hc1
  replace hA := hA.chg0 hc1
  replace hC := hC.then_ hc1
  refine ⟨_, rfl, ?_⟩
  have hjl : (join t M).length ≤ 4294967296 := by rw [join_len]; omega
  refine OL.pure (Pure.assign rfl) rfl ?_
  refine OL.nil ?_
  refine TE.seq ?_
  refine TE.region ?_
  refine OL.pure (Pure.move rfl) rfl ?_
  refine OL.pure (Pure.move rfl) rfl ?_
  refine OL.call rfl Tryd.call22 rfl (join_any t A1 cap1 M (by omega) (by omega) _ hA1) ?_
  rintro _ w2 ⟨rfl, hc2⟩
  replace hK := hK.chg0 hc2
  replace hA1 := hA1.chg0 hc2
  replace hC := hC.then_ hc2
  refine ⟨_, rfl, ?_⟩
  refine OL.pure (Pure.move rfl) rfl ?_
  refine OL.pure (Pure.extract (vs := [.string (str (join t M)), .int .i64 0]) (i := 0) rfl rfl) rfl ?_
  refine OL.pure (Pure.extract (vs := [.string (str (join t M)), .int .i64 0]) (i := 1) rfl rfl) rfl ?_
  refine OL.pure (Pure.assign rfl) rfl ?_
  refine OL.pure (Pure.assign rfl) rfl ?_
  refine OL.nil ?_
  refine TE.seq ?_
  refine TE.region ?_
  refine OL.pure (Pure.move rfl) rfl ?_
  refine OL.pure (Pure.move rfl) rfl ?_
  refine OL.call rfl Tryd.call29 rfl (tagged_any t A1 cap1 M (by omega) (by omega) _ hK hA1) ?_
  rintro _ w3 ⟨rfl, hc3⟩
  replace hK := hK.chg0 hc3
  replace hA1 := hA1.chg0 hc3
  replace hC := hC.then_ hc3
  refine ⟨_, rfl, ?_⟩
  refine OL.pure (Pure.move rfl) rfl ?_
  refine OL.pure (Pure.extract (vs := [.agg (iv .u8 (sum (join t M))).toArray, .int .i64 0]) (i := 0) rfl rfl) rfl ?_
  refine OL.pure (Pure.extract (vs := [.agg (iv .u8 (sum (join t M))).toArray, .int .i64 0]) (i := 1) rfl rfl) rfl ?_
  refine OL.alloc Tryd.zeroValue25 rfl ?_
  intro gd w4 hd hc4 hg_gd
  have lt_0_gd : 0 < gd := by have := hK.lt; omega
  have nb_hA1_gd := hA1.fresh (g := gd) (by omega)
  have ge_gd : w.heap.size ≤ gd := by have := hC.size; omega
  replace hK := hK.chg0 hc4
  replace hA1 := hA1.chg0 hc4
  replace hC := hC.then_ hc4
  have hd : Blk w4 gd 25 (iv .u8 (List.replicate 32 0)) := hd
  refine OL.storeRow (vs := iv .u8 (sum (join t M))) rfl rfl (rfl) (by simp only [iv, List.mem_map]; rintro _ ⟨x, _, rfl⟩; rfl) hd (Nat.le_refl 32) ?_
  intro w5 hb5 hc5
  replace hK := hK.chg hc5 (by simp; omega)
  replace hA1 := hA1.chg hc5 nb_hA1_gd
  replace hC := hC.trans1 hc5 (by first | exact .inr (by omega) | exact .inl (by simp))
  replace hd := hb5
  replace hd := hd.all rfl
  refine OL.pure (Pure.assign rfl) rfl ?_
  refine OL.nil ?_
  refine TE.seq ?_
  refine TE.region ?_
  refine OL.pure (Pure.move rfl) rfl ?_
  refine OL.pure (Pure.move rfl) rfl ?_
  refine OL.call rfl Tryd.call30 rfl (rjoin_any t A1 cap1 M (by omega) (by omega) _ hA1) ?_
  rintro _ w6 ⟨rfl, hc6⟩
  replace hK := hK.chg0 hc6
  replace hA1 := hA1.chg0 hc6
  replace hd := hd.chg0 hc6
  replace hC := hC.then_ hc6
  refine ⟨_, rfl, ?_⟩
  refine OL.pure (Pure.move rfl) rfl ?_
  refine OL.pure (Pure.extract (vs := [.string (str (join t M)), .int .i64 0]) (i := 0) rfl rfl) rfl ?_
  refine OL.pure (Pure.extract (vs := [.string (str (join t M)), .int .i64 0]) (i := 1) rfl rfl) rfl ?_
  refine OL.pure (Pure.assign rfl) rfl ?_
  refine OL.pure (Pure.assign rfl) rfl ?_
  refine OL.nil ?_
  refine TE.seq ?_
  refine TE.planAll [(0, false), (1, true), (2, true), (3, true), (4, true), (5, true), (6, true), (7, true), (8, true), (9, true), (10, true), (11, true), (12, true), (13, true), (14, true), (15, true), (16, true), (17, false), (18, true), (19, true), (20, true)] (fun w_ => Chg [] w6 w_) rfl (by kernel_rfl) ?_
  have hS7 : Chg [] w6 w6.drew := Chg.drew _ _
  replace hK := hK.chg0 hS7
  replace hd := hd.chg0 hS7
  replace hC := hC.then_ hS7
  refine PL.call rfl rfl Tryd.call14 rfl (known_any _ hK) ?_
  rintro _ w8 ⟨rfl, hc8⟩
  have hc8s := hS7.then_ hc8
  replace hK := hK.chg0 hc8
  replace hd := hd.chg0 hc8
  replace hC := hC.then_ hc8
  refine ⟨_, rfl, hc8s, ?_⟩
  refine PL.takeP rfl (Pure.move rfl) rfl hc8s ?_
  refine PL.takeG (fun w_ => Chg [] w8 w_) (fun _ h_ => hc8s.then_ h_) rfl rfl rfl rfl (fun w_ h_ => Pure.move rfl _) rfl (Chg.refl _ _) ?_
  have hP9 : Chg [] w8 w8 := Chg.refl _ _
  refine PL.takeG (fun w_ => Chg [] w8 w_) (fun _ h_ => hP9.then_ h_) rfl rfl rfl rfl (fun w_ h_ => Pure.eql rfl rfl _) rfl (Chg.refl _ _) ?_
  have hP10 : Chg [] w8 w8 := Chg.refl _ _
  refine PL.cast (.bool true) 34 rfl (rfl) ?_
  refine PL.takeP rfl (Pure.pickT rfl rfl) rfl hP10 ?_
  refine PL.takeP rfl (Pure.move rfl) rfl hP10 ?_
  refine PL.takeG (fun w_ => Chg [] w8 w_) (fun _ h_ => hP10.then_ h_) rfl rfl rfl rfl (fun w_ h_ => Pure.move rfl _) rfl (Chg.refl _ _) ?_
  have hP11 : Chg [] w8 w8 := Chg.refl _ _
  refine PL.takeG (fun w_ => Chg [] w8 w_) (fun _ h_ => hP11.then_ h_) rfl rfl rfl rfl (fun w_ h_ => Pure.eql rfl rfl _) rfl (Chg.refl _ _) ?_
  have hP12 : Chg [] w8 w8 := Chg.refl _ _
  refine PL.cast (.bool true) 38 rfl (rfl) ?_
  refine PL.takeP rfl (Pure.pickT rfl rfl) rfl hP12 ?_
  refine PL.takeP rfl (Pure.move rfl) rfl hP12 ?_
  refine PL.takeG (fun w_ => Chg [] w8 w_) (fun _ h_ => hP12.then_ h_) rfl rfl rfl rfl (fun w_ h_ => Pure.move rfl _) rfl (Chg.refl _ _) ?_
  have hP13 : Chg [] w8 w8 := Chg.refl _ _
  refine PL.takeG (fun w_ => Chg [] w8 w_) (fun _ h_ => hP13.then_ h_) rfl rfl rfl rfl (fun w_ h_ => Pure.move rfl _) rfl (Chg.refl _ _) ?_
  have hP14 : Chg [] w8 w8 := Chg.refl _ _
  refine PL.takeG (fun w_ => Chg [] w8 w_) (fun _ h_ => hP14.then_ h_) rfl rfl rfl rfl (fun w_ h_ => Pure.strEql (l := (join t M)) (m := (join t M)) rfl rfl _) rfl (Chg.refl _ _) ?_
  have hP15 : Chg [] w8 w8 := Chg.refl _ _
  refine PL.cast (.bool true) 43 rfl (congrArg Value.bool (decide_eq_true rfl)) ?_
  refine PL.takeP rfl (Pure.pickT rfl rfl) rfl hP15 ?_
  refine PL.takeP rfl (Pure.move rfl) rfl hP15 ?_
  refine PL.takeG (fun w_ => Chg [] w8 w_) (fun _ h_ => hP15.then_ h_) rfl rfl rfl rfl (fun w_ h_ => Run.loadAll rfl Tryd.underlying25 rfl (hd.chg0 h_) (rfl)) rfl (Chg.refl _ _) ?_
  have hP16 : Chg [] w8 w8 := Chg.refl _ _
  refine PL.takeG (fun w_ => Chg [] w8 w_) (fun _ h_ => hP16.then_ h_) rfl rfl rfl rfl (fun w_ h_ => Pure.move rfl _) rfl (Chg.refl _ _) ?_
  have hP17 : Chg [] w8 w8 := Chg.refl _ _
  refine PL.callG rfl rfl rfl rfl rfl Tryd.call16 rfl (rsum_any _ hjl _) ?_
  rintro _ w18 ⟨rfl, hc18⟩
  have hc18s := hP17.then_ hc18
  replace hK := hK.chg0 hc18
  replace hd := hd.chg0 hc18
  replace hC := hC.then_ hc18
  refine ⟨_, rfl, hc18s, ?_⟩
  refine PL.takeG (fun w_ => Chg [] w18 w_) (fun _ h_ => hc18s.then_ h_) rfl rfl rfl rfl (fun w_ h_ => Pure.eqlArr (xs := sum (join t M)) (ys := sum (join t M)) Tryd.underlying24 Tryd.underlying5 info5 (by kernel_rfl) Tryd.eqGuardType24 rfl rfl (rfl) (rfl) _) rfl (Chg.refl _ _) ?_
  have hP19 : Chg [] w18 w18 := Chg.refl _ _
  refine PL.cast (.bool true) 49 rfl (congrArg Value.bool (decide_eq_true rfl)) ?_
  refine PL.takeP rfl (Pure.pickT rfl rfl) rfl hP19 ?_
  refine PL.takeP rfl (Pure.assign rfl) rfl hP19 ?_
  refine PL.nil ?_
  exact TE.ret (vs := [.bool true]) Tryd.results8 (⟨rfl, trivial⟩) ⟨rfl, hC⟩

end Go.Proofs.YteghfhakdpcbaaaDoor
