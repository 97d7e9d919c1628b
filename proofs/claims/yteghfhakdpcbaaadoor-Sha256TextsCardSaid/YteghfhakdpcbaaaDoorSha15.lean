/- The law of the texts of digests, walked -/
import Derived.Test.YteghfhakdpcbaaaDoorProg
import Derived.Test.YteghfhakdpcbaaaDoorEng4
import Derived.Test.YteghfhakdpcbaaaDoorShaSpec5
import Derived.Test.YteghfhakdpcbaaaDoorSha13
set_option linter.unusedVariables false
set_option maxRecDepth 4000
namespace Go.Proofs.YteghfhakdpcbaaaDoor
open Go.V Go.Sha
theorem texts_law_any {tK : TypeId} (d : List Int) (hd : Dig d) (w : World) (hK : Blk w 0 tK (iv .u32 K)) : Calls Tryd.prog 11 #[.agg (iv .u8 d).toArray] w (RetC (.bool true) w) := by
  refine calls_of_TE (vs := [.agg (iv .u8 d).toArray]) Tryd.func11 Tryd.ntmps11 rfl (by simp) ?_
  have hC : Chg [] w w := Chg.refl _ _
  have hdl := hd.1
  have hxl : (hexOf d).length ≤ 4294967296 := by rw [hexOf_len, hdl]; decide
  refine TE.seq ?_
  refine TE.region ?_
  refine OL.box rfl rfl ?_
  intro g1 w1 h1 hc1 hg_g1
  have lt_0_g1 : 0 < g1 := by have := hK.lt; omega
  have ge_g1 : w.heap.size ≤ g1 := by have := hC.size; omega
  replace hK := hK.chg0 hc1
  replace hC := hC.then_ hc1
  have h1 : Blk w1 g1 24 (iv .u8 d) := h1
  refine OL.pure (Pure.assign rfl) rfl ?_
  refine OL.nil ?_
  refine TE.seq ?_
  refine TE.region ?_
  refine OL.val (Run.loadAll rfl Tryd.underlying24 rfl h1 (by rw [iv_len, hdl]; rfl)) rfl ?_
  refine OL.call rfl Tryd.call18 rfl (string_any d hd _) ?_
  rintro _ w2 ⟨rfl, hc2⟩
  replace hK := hK.chg0 hc2
  replace h1 := h1.chg0 hc2
  replace hC := hC.then_ hc2
  refine ⟨_, rfl, ?_⟩
  refine OL.pure (Pure.assign rfl) rfl ?_
  refine OL.nil ?_
  refine TE.seq ?_
  refine TE.region ?_
  refine OL.pure (Pure.move rfl) rfl ?_
  refine OL.call rfl Tryd.call32 rfl (parse_any _ hxl d 0 0 (parse_text hd) _) ?_
  rintro _ w3 ⟨rfl, hc3⟩
  replace hK := hK.chg0 hc3
  replace h1 := h1.chg0 hc3
  replace hC := hC.then_ hc3
  refine ⟨_, rfl, ?_⟩
  refine OL.pure (Pure.move rfl) rfl ?_
  refine OL.pure (Pure.extract (vs := [.agg (iv .u8 d).toArray, .int .i64 ((0 : Nat) : Int), .int .i64 0]) (i := 0) rfl rfl) rfl ?_
  refine OL.pure (Pure.extract (vs := [.agg (iv .u8 d).toArray, .int .i64 ((0 : Nat) : Int), .int .i64 0]) (i := 1) rfl rfl) rfl ?_
  refine OL.pure (Pure.extract (vs := [.agg (iv .u8 d).toArray, .int .i64 ((0 : Nat) : Int), .int .i64 0]) (i := 2) rfl rfl) rfl ?_
  refine OL.alloc Tryd.zeroValue25 rfl ?_
  intro g2 w4 h2 hc4 hg_g2
  have lt_0_g2 : 0 < g2 := by have := hK.lt; omega
  have lt_g1_g2 : g1 < g2 := by have := h1.lt; omega
  have ge_g2 : w.heap.size ≤ g2 := by have := hC.size; omega
  replace hK := hK.chg0 hc4
  replace h1 := h1.chg0 hc4
  replace hC := hC.then_ hc4
  have h2 : Blk w4 g2 25 (iv .u8 (List.replicate 32 0)) := h2
  refine OL.storeRow (vs := iv .u8 d) rfl rfl (by rw [iv_len, hdl]; rfl) (by simp only [iv, List.mem_map]; rintro _ ⟨x, _, rfl⟩; rfl) h2 (by rw [iv_len, hdl]; exact Nat.le_refl 32) ?_
  intro w5 hb5 hc5
  replace hK := hK.chg hc5 (by simp; omega)
  replace h1 := h1.chg hc5 (by simpa using h1.ne h2 (by decide))
  replace hC := hC.trans1 hc5 (by first | exact .inr (by omega) | exact .inl (by simp))
  replace h2 := hb5
  replace h2 := h2.all (by rw [iv_len, iv_len, hdl]; rfl)
  refine OL.pure (Pure.assign rfl) rfl ?_
  refine OL.pure (Pure.assign rfl) rfl ?_
  refine OL.nil ?_
  refine TE.seq ?_
  refine TE.planAll [(0, false), (1, true), (2, true), (3, true), (4, false), (5, true), (6, true), (7, true), (8, true), (9, true), (10, true), (11, true), (12, true), (13, true), (14, true), (15, true), (16, true), (17, true), (18, true), (19, true), (20, true), (21, true), (23, true), (24, true), (25, true), (22, false), (26, true), (27, true), (28, true)] (fun w_ => Chg [] w5 w_) rfl (by kernel_rfl) ?_
  have hS6 : Chg [] w5 w5.drew := Chg.drew _ _
  replace hK := hK.chg0 hS6
  replace h1 := h1.chg0 hS6
  replace h2 := h2.chg0 hS6
  replace hC := hC.then_ hS6
  refine PL.call rfl rfl Tryd.call14 rfl (known_any _ hK) ?_
  rintro _ w7 ⟨rfl, hc7⟩
  have hc7s := hS6.then_ hc7
  replace hK := hK.chg0 hc7
  replace h1 := h1.chg0 hc7
  replace h2 := h2.chg0 hc7
  replace hC := hC.then_ hc7
  refine ⟨_, rfl, hc7s, ?_⟩
  refine PL.takeP rfl (Pure.move rfl) rfl hc7s ?_
  refine PL.takeG (fun w_ => Chg [] w7 w_) (fun _ h_ => hc7s.then_ h_) rfl rfl rfl rfl (fun w_ h_ => Pure.move rfl _) rfl (Chg.refl _ _) ?_
  have hP8 : Chg [] w7 w7 := Chg.refl _ _
  refine PL.takeG (fun w_ => Chg [] w7 w_) (fun _ h_ => hP8.then_ h_) rfl rfl rfl rfl (fun w_ h_ => Run.loadAll rfl Tryd.underlying24 rfl (h1.chg0 h_) (by rw [iv_len, hdl]; rfl)) rfl (Chg.refl _ _) ?_
  have hP9 : Chg [] w7 w7 := Chg.refl _ _
  refine PL.callG rfl rfl rfl rfl rfl Tryd.call34 rfl (text_any d hd _) ?_
  rintro _ w10 ⟨rfl, hc10⟩
  have hc10s := hP9.then_ hc10
  replace hK := hK.chg0 hc10
  replace h1 := h1.chg0 hc10
  replace h2 := h2.chg0 hc10
  replace hC := hC.then_ hc10
  refine ⟨_, rfl, hc10s, ?_⟩
  refine PL.takeG (fun w_ => Chg [] w10 w_) (fun _ h_ => hc10s.then_ h_) rfl rfl rfl rfl (fun w_ h_ => Pure.strEql (l := (hexOf d)) (m := (hexOf d)) rfl rfl _) rfl (Chg.refl _ _) ?_
  have hP11 : Chg [] w10 w10 := Chg.refl _ _
  refine PL.cast (.bool true) 20 rfl (congrArg Value.bool (decide_eq_true rfl)) ?_
  refine PL.takeP rfl (Pure.pickT rfl rfl) rfl hP11 ?_
  refine PL.takeP rfl (Pure.move rfl) rfl hP11 ?_
  refine PL.takeG (fun w_ => Chg [] w10 w_) (fun _ h_ => hP11.then_ h_) rfl rfl rfl rfl (fun w_ h_ => Run.loadAll rfl Tryd.underlying25 rfl (h2.chg0 h_) (by rw [iv_len, hdl]; rfl)) rfl (Chg.refl _ _) ?_
  have hP12 : Chg [] w10 w10 := Chg.refl _ _
  refine PL.takeG (fun w_ => Chg [] w10 w_) (fun _ h_ => hP12.then_ h_) rfl rfl rfl rfl (fun w_ h_ => Run.loadAll rfl Tryd.underlying24 rfl (h1.chg0 h_) (by rw [iv_len, hdl]; rfl)) rfl (Chg.refl _ _) ?_
  have hP13 : Chg [] w10 w10 := Chg.refl _ _
  refine PL.takeG (fun w_ => Chg [] w10 w_) (fun _ h_ => hP13.then_ h_) rfl rfl rfl rfl (fun w_ h_ => Pure.eqlArr (xs := d) (ys := d) Tryd.underlying24 Tryd.underlying5 info5 (by kernel_rfl) Tryd.eqGuardType24 rfl rfl (hdl) (hdl) _) rfl (Chg.refl _ _) ?_
  have hP14 : Chg [] w10 w10 := Chg.refl _ _
  refine PL.cast (.bool true) 25 rfl (congrArg Value.bool (decide_eq_true rfl)) ?_
  refine PL.takeP rfl (Pure.pickT rfl rfl) rfl hP14 ?_
  refine PL.takeP rfl (Pure.move rfl) rfl hP14 ?_
  refine PL.takeG (fun w_ => Chg [] w10 w_) (fun _ h_ => hP14.then_ h_) rfl rfl rfl rfl (fun w_ h_ => Pure.move rfl _) rfl (Chg.refl _ _) ?_
  have hP15 : Chg [] w10 w10 := Chg.refl _ _
  refine PL.takeG (fun w_ => Chg [] w10 w_) (fun _ h_ => hP15.then_ h_) rfl rfl rfl rfl (fun w_ h_ => Pure.eql rfl rfl _) rfl (Chg.refl _ _) ?_
  have hP16 : Chg [] w10 w10 := Chg.refl _ _
  refine PL.cast (.bool true) 29 rfl (rfl) ?_
  refine PL.takeP rfl (Pure.pickT rfl rfl) rfl hP16 ?_
  refine PL.takeP rfl (Pure.move rfl) rfl hP16 ?_
  refine PL.takeG (fun w_ => Chg [] w10 w_) (fun _ h_ => hP16.then_ h_) rfl rfl rfl rfl (fun w_ h_ => Pure.move rfl _) rfl (Chg.refl _ _) ?_
  have hP17 : Chg [] w10 w10 := Chg.refl _ _
  refine PL.takeG (fun w_ => Chg [] w10 w_) (fun _ h_ => hP17.then_ h_) rfl rfl rfl rfl (fun w_ h_ => Pure.eql rfl rfl _) rfl (Chg.refl _ _) ?_
  have hP18 : Chg [] w10 w10 := Chg.refl _ _
  refine PL.cast (.bool true) 33 rfl (rfl) ?_
  refine PL.takeP rfl (Pure.pickT rfl rfl) rfl hP18 ?_
  refine PL.takeP rfl (Pure.move rfl) rfl hP18 ?_
  refine PL.takeG (fun w_ => Chg [] w10 w_) (fun _ h_ => hP18.then_ h_) rfl rfl rfl rfl (fun w_ h_ => Run.loadAll rfl Tryd.underlying24 rfl (h1.chg0 h_) (by rw [iv_len, hdl]; rfl)) rfl (Chg.refl _ _) ?_
  have hP19 : Chg [] w10 w10 := Chg.refl _ _
  refine PL.takeG (fun w_ => Chg [] w10 w_) (fun _ h_ => hP19.then_ h_) rfl rfl rfl rfl (fun w_ h_ => Run.loadAll rfl Tryd.underlying24 rfl (h1.chg0 h_) (by rw [iv_len, hdl]; rfl)) rfl (Chg.refl _ _) ?_
  have hP20 : Chg [] w10 w10 := Chg.refl _ _
  refine PL.takeG (fun w_ => Chg [] w10 w_) (fun _ h_ => hP20.then_ h_) rfl rfl rfl rfl (fun w_ h_ => Pure.build (cs := iv .u8 zeros32) rfl (by kernel_rfl) _) rfl (Chg.refl _ _) ?_
  have hP21 : Chg [] w10 w10 := Chg.refl _ _
  refine PL.takeG (fun w_ => Chg [] w10 w_) (fun _ h_ => hP21.then_ h_) rfl rfl rfl rfl (fun w_ h_ => Pure.eqlArr (xs := d) (ys := zeros32) Tryd.underlying24 Tryd.underlying5 info5 (by kernel_rfl) Tryd.eqGuardType24 rfl rfl (hdl) (rfl) _) rfl (Chg.refl _ _) ?_
  have hP22 : Chg [] w10 w10 := Chg.refl _ _
  refine PL.callG rfl rfl rfl rfl rfl Tryd.call35 rfl (iszero_any d hd _) ?_
  rintro _ w23 ⟨rfl, hc23⟩
  have hc23s := hP22.then_ hc23
  replace hK := hK.chg0 hc23
  replace h1 := h1.chg0 hc23
  replace h2 := h2.chg0 hc23
  replace hC := hC.then_ hc23
  refine ⟨_, rfl, hc23s, ?_⟩
  refine PL.takeG (fun w_ => Chg [] w23 w_) (fun _ h_ => hc23s.then_ h_) rfl rfl rfl rfl (fun w_ h_ => Pure.eqlBool' Tryd.underlying4 rfl rfl _) rfl (Chg.refl _ _) ?_
  have hP24 : Chg [] w23 w23 := Chg.refl _ _
  refine PL.cast (.bool true) 41 rfl (congrArg Value.bool (by simp)) ?_
  refine PL.takeP rfl (Pure.pickT rfl rfl) rfl hP24 ?_
  refine PL.takeP rfl (Pure.assign rfl) rfl hP24 ?_
  refine PL.nil ?_
  exact TE.ret (vs := [.bool true]) Tryd.results11 (⟨rfl, trivial⟩) ⟨rfl, hC⟩

end Go.Proofs.YteghfhakdpcbaaaDoor
