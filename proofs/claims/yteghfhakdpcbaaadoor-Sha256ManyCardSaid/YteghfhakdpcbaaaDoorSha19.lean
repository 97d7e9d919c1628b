/- The law of many empty texts, walked -/
import Derived.Test.YteghfhakdpcbaaaDoorProg
import Derived.Test.YteghfhakdpcbaaaDoorEng5
import Derived.Test.YteghfhakdpcbaaaDoorShaSpec4
import Derived.Test.YteghfhakdpcbaaaDoorSha10
set_option linter.unusedVariables false
set_option maxRecDepth 4000
namespace Go.Proofs.YteghfhakdpcbaaaDoor
open Go.V Go.Sha
set_option maxHeartbeats 1000000 in
theorem many_law_any {tK : TypeId} (t : UInt8) (n : Nat) (hn : n ≤ 255) (w : World) (hK : Blk w 0 tK (iv .u32 K)) : Calls Tryd.prog 9 #[.int .u8 ((t.toNat : Nat) : Int), .int .u8 (n : Int)] w (RetC (.bool true) w) := by
  refine calls_of_TE (vs := [.int .u8 ((t.toNat : Nat) : Int), .int .u8 (n : Int)]) Tryd.func9 Tryd.ntmps9 rfl (by simp) ?_
  have hC : Chg [] w w := Chg.refl _ _
  have h0w : 0 < w.heap.size := hK.lt
  obtain ⟨N, hN⟩ : ∃ N : Nat, N = 258 - n % 8 := ⟨_, rfl⟩
  obtain ⟨L, hL⟩ : ∃ L : List (List UInt8), L = List.replicate N [] := ⟨_, rfl⟩
  have hLl : L.length = N := by rw [hL, List.length_replicate]
  have htv : List.replicate N (Value.string (str [])) = tv L := by rw [hL]; simp [tv]
  have hjp : (jparts L).length = 4 * L.length := by rw [hL]; exact jparts_empty N
  refine TE.seq ?_
  refine TE.region ?_
  refine OL.pure (Pure.assign rfl) rfl ?_
  refine OL.nil ?_
  refine TE.seq ?_
  refine TE.region ?_
  refine OL.pure (Pure.move rfl) rfl ?_
  refine OL.pure (Pure.conv Tryd.runUnderlying5 Tryd.runUnderlying3 rfl (i64in (by omega) (by omega))) rfl ?_
  refine OL.pure (Pure.rem rfl rfl (by omega) (by omega)) rfl ?_
  refine OL.pure (Pure.sub rfl rfl (i64 (by omega) (by omega))) rfl ?_
  refine OL.cast (.int .i64 (N : Int)) 13 rfl (congrArg (Value.int .i64) (by omega)) ?_
  refine OL.makeSlice (v := .string (str [])) rfl rfl Tryd.underlying37 info9 rfl rfl rfl (Nat.le_refl _) (by show 16 * _ ≤ _; omega) (by omega) rfl ?_
  intro gl w1 hl hc1 hg_gl
  have lt_0_gl : 0 < gl := by have := hK.lt; omega
  have ge_gl : w.heap.size ≤ gl := by have := hC.size; omega
  replace hK := hK.chg0 hc1
  replace hC := hC.then_ hc1
  rw [htv] at hl
  have hA := Cells.of_blk hl
  refine OL.cast (.slice (some ⟨gl, 0, none⟩) L.length N) 14 rfl (by rw [hLl]) ?_
  by_cases hbig : 255 < N
  ·
    refine OL.pure (Pure.assign rfl) rfl ?_
    refine OL.nil ?_
    refine TE.seq ?_
    refine TE.region ?_
    refine OL.pure (Pure.move rfl) rfl ?_
    refine OL.pure (Pure.move rfl) rfl ?_
    refine OL.call rfl Tryd.call22 rfl (join_big t _ N L (by omega) _) ?_
    rintro _ w2 ⟨rfl, hc2⟩
    replace hK := hK.chg0 hc2
    replace hA := hA.chg0 hc2
    replace hC := hC.then_ hc2
    refine ⟨_, rfl, ?_⟩
    refine OL.pure (Pure.move rfl) rfl ?_
    refine OL.pure (Pure.extract (vs := [.string (str []), .int .i64 9]) (i := 0) rfl rfl) rfl ?_
    refine OL.pure (Pure.extract (vs := [.string (str []), .int .i64 9]) (i := 1) rfl rfl) rfl ?_
    refine OL.pure (Pure.assign rfl) rfl ?_
    refine OL.pure (Pure.assign rfl) rfl ?_
    refine OL.nil ?_
    refine TE.seq ?_
    refine TE.region ?_
    refine OL.pure (Pure.move rfl) rfl ?_
    refine OL.pure (Pure.move rfl) rfl ?_
    refine OL.call rfl Tryd.call29 rfl (tagged_big t _ N L (by omega) _ hK hA) ?_
    rintro _ w3 ⟨rfl, hc3⟩
    replace hK := hK.chg0 hc3
    replace hA := hA.chg0 hc3
    replace hC := hC.then_ hc3
    refine ⟨_, rfl, ?_⟩
    refine OL.pure (Pure.move rfl) rfl ?_
    refine OL.pure (Pure.extract (vs := [.agg (iv .u8 (List.replicate 32 0)).toArray, .int .i64 9]) (i := 0) rfl rfl) rfl ?_
    refine OL.pure (Pure.extract (vs := [.agg (iv .u8 (List.replicate 32 0)).toArray, .int .i64 9]) (i := 1) rfl rfl) rfl ?_
    refine OL.alloc Tryd.zeroValue25 rfl ?_
    intro gd w4 hd hc4 hg_gd
    have lt_0_gd : 0 < gd := by have := hK.lt; omega
    have nb_hA_gd := hA.fresh (g := gd) (by omega)
    have ge_gd : w.heap.size ≤ gd := by have := hC.size; omega
    replace hK := hK.chg0 hc4
    replace hA := hA.chg0 hc4
    replace hC := hC.then_ hc4
    have hd : Blk w4 gd 25 (iv .u8 (List.replicate 32 0)) := hd
    refine OL.storeRow (vs := iv .u8 (List.replicate 32 0)) rfl rfl (rfl) (by simp only [iv, List.mem_map]; rintro _ ⟨x, _, rfl⟩; rfl) hd (Nat.le_refl 32) ?_
    intro w5 hb5 hc5
    replace hK := hK.chg hc5 (by simp; omega)
    replace hA := hA.chg hc5 nb_hA_gd
    replace hC := hC.trans1 hc5 (by first | exact .inr (by omega) | exact .inl (by simp))
    replace hd := hb5
    replace hd := hd.all rfl
    refine OL.pure (Pure.assign rfl) rfl ?_
    refine OL.nil ?_
    refine TE.seq ?_
    refine TE.seq ?_
    refine TE.region ?_
    refine OL.pure (Pure.move rfl) rfl ?_
    refine OL.pure (Pure.lenSlice Tryd.runUnderlying37 rfl) rfl ?_
    refine OL.pure (Pure.gtr rfl rfl) rfl ?_
    refine OL.cast (.bool true) 29 rfl (congrArg Value.bool (decide_eq_true (by omega))) ?_
    refine OL.nil ?_
    refine TE.condT rfl rfl ?_
    refine TE.seq ?_
    refine TE.region ?_
    refine OL.call rfl Tryd.call14 rfl (known_any _ hK) ?_
    rintro _ w6 ⟨rfl, hc6⟩
    replace hK := hK.chg0 hc6
    replace hA := hA.chg0 hc6
    replace hd := hd.chg0 hc6
    replace hC := hC.then_ hc6
    refine ⟨_, rfl, ?_⟩
    refine OL.pure (Pure.move rfl) rfl ?_
    refine OL.want rfl rfl rfl (Pure.move rfl _) rfl ?_
    refine OL.want rfl rfl rfl (Pure.strEql (l := []) (m := []) rfl rfl _) rfl ?_
    refine OL.cast (.bool true) 33 rfl (congrArg Value.bool (decide_eq_true rfl)) ?_
    refine OL.pure (Pure.pickT rfl rfl) rfl ?_
    refine OL.pure (Pure.move rfl) rfl ?_
    refine OL.want rfl rfl rfl (Pure.move rfl _) rfl ?_
    refine OL.want rfl rfl rfl (Pure.eql rfl rfl _) rfl ?_
    refine OL.cast (.bool true) 37 rfl (rfl) ?_
    refine OL.pure (Pure.pickT rfl rfl) rfl ?_
    refine OL.pure (Pure.move rfl) rfl ?_
    refine OL.want rfl rfl rfl (Run.loadAll rfl Tryd.underlying25 rfl hd (rfl)) rfl ?_
    refine OL.want rfl rfl rfl (Pure.build (cs := iv .u8 (List.replicate 32 0)) rfl (by kernel_rfl) _) rfl ?_
    refine OL.want rfl rfl rfl (Pure.eqlArr (xs := List.replicate 32 0) (ys := List.replicate 32 0) Tryd.underlying25 Tryd.underlying5 info5 (by kernel_rfl) Tryd.eqGuardType25 rfl rfl (rfl) (rfl) _) rfl ?_
    refine OL.cast (.bool true) 42 rfl (congrArg Value.bool (decide_eq_true rfl)) ?_
    refine OL.pure (Pure.pickT rfl rfl) rfl ?_
    refine OL.pure (Pure.move rfl) rfl ?_
    refine OL.want rfl rfl rfl (Pure.move rfl _) rfl ?_
    refine OL.want rfl rfl rfl (Pure.eql rfl rfl _) rfl ?_
    refine OL.cast (.bool true) 46 rfl (rfl) ?_
    refine OL.pure (Pure.pickT rfl rfl) rfl ?_
    refine OL.pure (Pure.assign rfl) rfl ?_
    refine OL.nil ?_
    exact TE.ret (vs := [.bool true]) Tryd.results9 (⟨rfl, trivial⟩) ⟨rfl, hC⟩
  ·
    refine OL.pure (Pure.assign rfl) rfl ?_
    refine OL.nil ?_
    refine TE.seq ?_
    refine TE.region ?_
    refine OL.pure (Pure.move rfl) rfl ?_
    refine OL.pure (Pure.move rfl) rfl ?_
    refine OL.call rfl Tryd.call22 rfl (join_any t _ N L (by omega) (by omega) _ hA) ?_
    rintro _ w7 ⟨rfl, hc7⟩
    replace hK := hK.chg0 hc7
    replace hA := hA.chg0 hc7
    replace hC := hC.then_ hc7
    refine ⟨_, rfl, ?_⟩
    refine OL.pure (Pure.move rfl) rfl ?_
    refine OL.pure (Pure.extract (vs := [.string (str (join t L)), .int .i64 0]) (i := 0) rfl rfl) rfl ?_
    refine OL.pure (Pure.extract (vs := [.string (str (join t L)), .int .i64 0]) (i := 1) rfl rfl) rfl ?_
    refine OL.pure (Pure.assign rfl) rfl ?_
    refine OL.pure (Pure.assign rfl) rfl ?_
    refine OL.nil ?_
    refine TE.seq ?_
    refine TE.region ?_
    refine OL.pure (Pure.move rfl) rfl ?_
    refine OL.pure (Pure.move rfl) rfl ?_
    refine OL.call rfl Tryd.call29 rfl (tagged_any t _ N L (by omega) (by omega) _ hK hA) ?_
    rintro _ w8 ⟨rfl, hc8⟩
    replace hK := hK.chg0 hc8
    replace hA := hA.chg0 hc8
    replace hC := hC.then_ hc8
    refine ⟨_, rfl, ?_⟩
    refine OL.pure (Pure.move rfl) rfl ?_
    refine OL.pure (Pure.extract (vs := [.agg (iv .u8 (sum (join t L))).toArray, .int .i64 0]) (i := 0) rfl rfl) rfl ?_
    refine OL.pure (Pure.extract (vs := [.agg (iv .u8 (sum (join t L))).toArray, .int .i64 0]) (i := 1) rfl rfl) rfl ?_
    refine OL.alloc Tryd.zeroValue25 rfl ?_
    intro gd w9 hd hc9 hg_gd
    have lt_0_gd : 0 < gd := by have := hK.lt; omega
    have nb_hA_gd := hA.fresh (g := gd) (by omega)
    have ge_gd : w.heap.size ≤ gd := by have := hC.size; omega
    replace hK := hK.chg0 hc9
    replace hA := hA.chg0 hc9
    replace hC := hC.then_ hc9
    have hd : Blk w9 gd 25 (iv .u8 (List.replicate 32 0)) := hd
    refine OL.storeRow (vs := iv .u8 (sum (join t L))) rfl rfl (rfl) (by simp only [iv, List.mem_map]; rintro _ ⟨x, _, rfl⟩; rfl) hd (Nat.le_refl 32) ?_
    intro w10 hb10 hc10
    replace hK := hK.chg hc10 (by simp; omega)
    replace hA := hA.chg hc10 nb_hA_gd
    replace hC := hC.trans1 hc10 (by first | exact .inr (by omega) | exact .inl (by simp))
    replace hd := hb10
    replace hd := hd.all rfl
    refine OL.pure (Pure.assign rfl) rfl ?_
    refine OL.nil ?_
    refine TE.seq ?_
    refine TE.seq ?_
    refine TE.region ?_
    refine OL.pure (Pure.move rfl) rfl ?_
    refine OL.pure (Pure.lenSlice Tryd.runUnderlying37 rfl) rfl ?_
    refine OL.pure (Pure.gtr rfl rfl) rfl ?_
    refine OL.cast (.bool false) 29 rfl (congrArg Value.bool (decide_eq_false (by omega))) ?_
    refine OL.nil ?_
    refine TE.condF rfl rfl ?_
    refine TE.skip ?_
    refine TE.seq ?_
    refine TE.planAll [(0, false), (1, true), (2, true), (3, true), (4, true), (5, true), (6, true), (7, true), (8, true), (9, true), (10, true), (11, true), (12, true), (13, true), (14, true), (15, true), (16, true), (17, true), (18, true), (19, true), (20, true), (21, true), (22, false), (23, true), (24, true), (25, true)] (fun w_ => Chg [] w10 w_) rfl (by kernel_rfl) ?_
    have hS11 : Chg [] w10 w10.drew := Chg.drew _ _
    replace hK := hK.chg0 hS11
    replace hA := hA.chg0 hS11
    replace hd := hd.chg0 hS11
    replace hC := hC.then_ hS11
    refine PL.call rfl rfl Tryd.call14 rfl (known_any _ hK) ?_
    rintro _ w12 ⟨rfl, hc12⟩
    have hc12s := hS11.then_ hc12
    replace hK := hK.chg0 hc12
    replace hA := hA.chg0 hc12
    replace hd := hd.chg0 hc12
    replace hC := hC.then_ hc12
    refine ⟨_, rfl, hc12s, ?_⟩
    refine PL.takeP rfl (Pure.move rfl) rfl hc12s ?_
    refine PL.takeG (fun w_ => Chg [] w12 w_) (fun _ h_ => hc12s.then_ h_) rfl rfl rfl rfl (fun w_ h_ => Pure.move rfl _) rfl (Chg.refl _ _) ?_
    have hP13 : Chg [] w12 w12 := Chg.refl _ _
    refine PL.takeG (fun w_ => Chg [] w12 w_) (fun _ h_ => hP13.then_ h_) rfl rfl rfl rfl (fun w_ h_ => Pure.eql rfl rfl _) rfl (Chg.refl _ _) ?_
    have hP14 : Chg [] w12 w12 := Chg.refl _ _
    refine PL.cast (.bool true) 51 rfl (rfl) ?_
    refine PL.takeP rfl (Pure.pickT rfl rfl) rfl hP14 ?_
    refine PL.takeP rfl (Pure.move rfl) rfl hP14 ?_
    refine PL.takeG (fun w_ => Chg [] w12 w_) (fun _ h_ => hP14.then_ h_) rfl rfl rfl rfl (fun w_ h_ => Pure.move rfl _) rfl (Chg.refl _ _) ?_
    have hP15 : Chg [] w12 w12 := Chg.refl _ _
    refine PL.takeG (fun w_ => Chg [] w12 w_) (fun _ h_ => hP15.then_ h_) rfl rfl rfl rfl (fun w_ h_ => Pure.eql rfl rfl _) rfl (Chg.refl _ _) ?_
    have hP16 : Chg [] w12 w12 := Chg.refl _ _
    refine PL.cast (.bool true) 55 rfl (rfl) ?_
    refine PL.takeP rfl (Pure.pickT rfl rfl) rfl hP16 ?_
    refine PL.takeP rfl (Pure.move rfl) rfl hP16 ?_
    refine PL.takeG (fun w_ => Chg [] w12 w_) (fun _ h_ => hP16.then_ h_) rfl rfl rfl rfl (fun w_ h_ => Pure.move rfl _) rfl (Chg.refl _ _) ?_
    have hP17 : Chg [] w12 w12 := Chg.refl _ _
    refine PL.takeG (fun w_ => Chg [] w12 w_) (fun _ h_ => hP17.then_ h_) rfl rfl rfl rfl (fun w_ h_ => Pure.lenStr Tryd.runUnderlying9 rfl _) rfl (Chg.refl _ _) ?_
    have hP18 : Chg [] w12 w12 := Chg.refl _ _
    refine PL.takeG (fun w_ => Chg [] w12 w_) (fun _ h_ => hP18.then_ h_) rfl rfl rfl rfl (fun w_ h_ => Pure.move rfl _) rfl (Chg.refl _ _) ?_
    have hP19 : Chg [] w12 w12 := Chg.refl _ _
    refine PL.takeG (fun w_ => Chg [] w12 w_) (fun _ h_ => hP19.then_ h_) rfl rfl rfl rfl (fun w_ h_ => Pure.lenSlice Tryd.runUnderlying37 rfl _) rfl (Chg.refl _ _) ?_
    have hP20 : Chg [] w12 w12 := Chg.refl _ _
    refine PL.takeG (fun w_ => Chg [] w12 w_) (fun _ h_ => hP20.then_ h_) rfl rfl rfl rfl (fun w_ h_ => Pure.mul rfl rfl (i64 (by omega) (by omega)) _) rfl (Chg.refl _ _) ?_
    have hP21 : Chg [] w12 w12 := Chg.refl _ _
    refine PL.takeG (fun w_ => Chg [] w12 w_) (fun _ h_ => hP21.then_ h_) rfl rfl rfl rfl (fun w_ h_ => Pure.add rfl rfl (i64 (by omega) (by omega)) _) rfl (Chg.refl _ _) ?_
    have hP22 : Chg [] w12 w12 := Chg.refl _ _
    refine PL.takeG (fun w_ => Chg [] w12 w_) (fun _ h_ => hP22.then_ h_) rfl rfl rfl rfl (fun w_ h_ => Pure.eql rfl rfl _) rfl (Chg.refl _ _) ?_
    have hP23 : Chg [] w12 w12 := Chg.refl _ _
    refine PL.cast (.bool true) 64 rfl (congrArg Value.bool (decide_eq_true (by have := join_len t L; omega))) ?_
    refine PL.takeP rfl (Pure.pickT rfl rfl) rfl hP23 ?_
    refine PL.takeP rfl (Pure.move rfl) rfl hP23 ?_
    refine PL.takeG (fun w_ => Chg [] w12 w_) (fun _ h_ => hP23.then_ h_) rfl rfl rfl rfl (fun w_ h_ => Run.loadAll rfl Tryd.underlying25 rfl (hd.chg0 h_) (rfl)) rfl (Chg.refl _ _) ?_
    have hP24 : Chg [] w12 w12 := Chg.refl _ _
    refine PL.takeG (fun w_ => Chg [] w12 w_) (fun _ h_ => hP24.then_ h_) rfl rfl rfl rfl (fun w_ h_ => Pure.move rfl _) rfl (Chg.refl _ _) ?_
    have hP25 : Chg [] w12 w12 := Chg.refl _ _
    refine PL.takeG (fun w_ => Chg [] w12 w_) (fun _ h_ => hP25.then_ h_) rfl rfl rfl rfl (fun w_ h_ => Pure.move rfl _) rfl (Chg.refl _ _) ?_
    have hP26 : Chg [] w12 w12 := Chg.refl _ _
    refine PL.callG rfl rfl rfl rfl rfl Tryd.call31 rfl (rtagged_any t _ N L (by omega) (by omega) _ hA) ?_
    rintro _ w27 ⟨rfl, hc27⟩
    have hc27s := hP26.then_ hc27
    replace hK := hK.chg0 hc27
    replace hA := hA.chg0 hc27
    replace hd := hd.chg0 hc27
    replace hC := hC.then_ hc27
    refine ⟨_, rfl, hc27s, ?_⟩
    refine PL.takeG (fun w_ => Chg [] w27 w_) (fun _ h_ => hc27s.then_ h_) rfl rfl rfl rfl (fun w_ h_ => Pure.eqlArr (xs := sum (join t L)) (ys := sum (join t L)) Tryd.underlying24 Tryd.underlying5 info5 (by kernel_rfl) Tryd.eqGuardType24 rfl rfl (rfl) (rfl) _) rfl (Chg.refl _ _) ?_
    have hP28 : Chg [] w27 w27 := Chg.refl _ _
    refine PL.cast (.bool true) 71 rfl (congrArg Value.bool (decide_eq_true rfl)) ?_
    refine PL.takeP rfl (Pure.pickT rfl rfl) rfl hP28 ?_
    refine PL.takeP rfl (Pure.assign rfl) rfl hP28 ?_
    refine PL.nil ?_
    exact TE.ret (vs := [.bool true]) Tryd.results9 (⟨rfl, trivial⟩) ⟨rfl, hC⟩

end Go.Proofs.YteghfhakdpcbaaaDoor
