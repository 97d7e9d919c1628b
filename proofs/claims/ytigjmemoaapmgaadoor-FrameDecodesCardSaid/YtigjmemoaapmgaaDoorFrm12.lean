/- The law of Decode, walked -/
import Derived.Test.YtigjmemoaapmgaaDoorProg
import Derived.Test.YtigjmemoaapmgaaDoorEng6
import Derived.Test.YtigjmemoaapmgaaDoorFrameSpec2
import Derived.Test.YtigjmemoaapmgaaDoorFrm1
import Derived.Test.YtigjmemoaapmgaaDoorFrm2
import Derived.Test.YtigjmemoaapmgaaDoorFrm3
import Derived.Test.YtigjmemoaapmgaaDoorFrm4
import Derived.Test.YtigjmemoaapmgaaDoorFrm5
import Derived.Test.YtigjmemoaapmgaaDoorFrm6
import Derived.Test.YtigjmemoaapmgaaDoorFrm11
set_option linter.unusedVariables false
set_option maxRecDepth 4000
namespace Go.Proofs.YtigjmemoaapmgaaDoor
open Go.V Go.Sha Go.Frm
set_option maxHeartbeats 1000000 in
theorem decodes_law_any {tK tF : TypeId} (st nb : Int) (A T B : Option Addr) (ca ct cb cut : Nat) (L : List (List UInt8)) (b a : List UInt8) (ts : List Int) (cs : List UInt8) (hts : ∀ z, z ∈ ts → 0 ≤ z ∧ z ≤ 65535) (hcut : cut ≤ 65535) (r : List UInt8) (w : World) (hK : Blk w 1 tK (iv .u32 K)) (hF : Blk w 0 tF (iv .i64 fldL)) (hA : Cells w A L) (hT : CellsI w .u16 T ts) (hB : CellsB w B cs) : Calls Tryd.prog 3 #[.agg (runCells st nb (.slice A L.length ca) b a (.slice T ts.length ct) (.slice B cs.length cb) cut).toArray, .string (str r)] w (RetC (.bool true) w) := by
  refine calls_of_TE (vs := [.agg (runCells st nb (.slice A L.length ca) b a (.slice T ts.length ct) (.slice B cs.length cb) cut).toArray, .string (str r)]) Tryd.func3 Tryd.ntmps3 rfl (by simp) ?_
  have hC : Chg [] w w := Chg.refl _ _
  have h0w : 1 < w.heap.size := hK.lt
  have h1w : 0 < w.heap.size := hF.lt
  refine TE.seq ?_
  refine TE.region ?_
  refine OL.box rfl rfl ?_
  intro g2 w1 h2 hc1 hg_g2
  have lt_1_g2 : 1 < g2 := by have := hK.lt; omega
  have lt_0_g2 : 0 < g2 := by have := hF.lt; omega
  have ge_g2 : w.heap.size ≤ g2 := by have := hC.size; omega
  replace hK := hK.chg0 hc1
  replace hF := hF.chg0 hc1
  replace hC := hC.then_ hc1
  have h2 : Blk w1 g2 27 (runCells st nb (.slice A L.length ca) b a (.slice T ts.length ct) (.slice B cs.length cb) cut) := h2
  replace hA := hA.chg0 hC
  replace hT := CellsI.chg0 hT hC
  replace hB := CellsB.chg0 hB hC
  refine OL.pure (Pure.assign rfl) rfl ?_
  refine OL.nil ?_
  refine TE.seq ?_
  refine TE.region ?_
  refine OL.pure (Pure.move rfl) rfl ?_
  refine OL.pure (Pure.move rfl) rfl ?_
  refine OL.pure (Pure.lenStr Tryd.runUnderlying9 rfl) rfl ?_
  refine OL.pure (Pure.min rfl rfl) rfl ?_
  refine OL.pure (Pure.sliceTo (l := r) (q := min r.length 200) Tryd.underlying9 rfl rfl (by omega) (by omega)) rfl ?_
  obtain ⟨r1, hr1⟩ : ∃ r1, r1 = r.take (min r.length 200) := ⟨_, rfl⟩
  refine OL.cast (.string (str r1)) 22 rfl (by rw [hr1]) ?_
  have hrl : r1.length ≤ 200 := by rw [hr1]; simp; omega
  refine OL.pure (Pure.assign rfl) rfl ?_
  refine OL.nil ?_
  refine TE.seq ?_
  refine TE.region ?_
  refine OL.val (Run.loadAll rfl Tryd.underlying27 rfl h2 (rfl)) rfl ?_
  refine OL.call rfl Tryd.call12 rfl (bytes_any st nb A T B ca ct cb cut L b a ts cs hts hcut _ hA hT hB) ?_
  rintro _ w2 ⟨s, rfl, hsl, hplain, hc2⟩
  replace hK := hK.chg0 hc2
  replace hF := hF.chg0 hc2
  replace h2 := h2.chg0 hc2
  replace hC := hC.then_ hc2
  refine ⟨_, rfl, ?_⟩
  obtain ⟨d, m, e, hd⟩ : ∃ d m e, Frm.decode s = (d, m, e) := ⟨_, _, _, rfl⟩
  refine OL.pure (Pure.assign rfl) rfl ?_
  refine OL.nil ?_
  refine TE.seq ?_
  refine TE.region ?_
  refine OL.pure (Pure.move rfl) rfl ?_
  refine OL.call rfl Tryd.call13 rfl (decode_any s (by omega) d m e hd _ hK hF) ?_
  rintro _ w3 ⟨rfl, hc3⟩
  replace hK := hK.chg0 hc3
  replace hF := hF.chg0 hc3
  replace hC := hC.then_ hc3
  refine ⟨_, rfl, ?_⟩
  refine OL.pure (Pure.move rfl) rfl ?_
  refine OL.pure (Pure.extract (vs := [.agg (d).cells.toArray, .int .i64 ((m : Nat) : Int), .int .i64 e]) (i := 0) rfl rfl) rfl ?_
  refine OL.pure (Pure.extract (vs := [.agg (d).cells.toArray, .int .i64 ((m : Nat) : Int), .int .i64 e]) (i := 1) rfl rfl) rfl ?_
  refine OL.pure (Pure.extract (vs := [.agg (d).cells.toArray, .int .i64 ((m : Nat) : Int), .int .i64 e]) (i := 2) rfl rfl) rfl ?_
  refine OL.alloc Tryd.zeroValue30 rfl ?_
  intro g6 w4 h6 hc4 hg_g6
  have lt_1_g6 : 1 < g6 := by have := hK.lt; omega
  have lt_0_g6 : 0 < g6 := by have := hF.lt; omega
  have ge_g6 : w.heap.size ≤ g6 := by have := hC.size; omega
  replace hK := hK.chg0 hc4
  replace hF := hF.chg0 hc4
  replace hC := hC.then_ hc4
  have h6 : Blk w4 g6 30 (Fr.zero.cells) := h6
  refine OL.storeRow (vs := (d).cells) rfl rfl (rfl) (by simp [Fr.cells, Value.oneCell']) h6 (Nat.le_refl 4) ?_
  intro w5 hb5 hc5
  replace hK := hK.chg hc5 (by simp; omega)
  replace hF := hF.chg hc5 (by simp; omega)
  replace hC := hC.trans1 hc5 (by first | exact .inr (by omega) | exact .inl (by simp))
  replace h6 := hb5
  replace h6 := h6.all rfl
  refine OL.pure (Pure.assign rfl) rfl ?_
  refine OL.pure (Pure.assign rfl) rfl ?_
  refine OL.nil ?_
  refine TE.seq ?_
  refine TE.region ?_
  refine OL.pure (Pure.move rfl) rfl ?_
  refine OL.call rfl Tryd.call14 rfl (rdecode_any s (by omega) d m e hd _) ?_
  rintro _ w6 ⟨rfl, hc6⟩
  replace hK := hK.chg0 hc6
  replace hF := hF.chg0 hc6
  replace h6 := h6.chg0 hc6
  replace hC := hC.then_ hc6
  refine ⟨_, rfl, ?_⟩
  refine OL.pure (Pure.move rfl) rfl ?_
  refine OL.pure (Pure.extract (vs := [.agg (d).cells.toArray, .int .i64 ((m : Nat) : Int), .int .i64 e]) (i := 0) rfl rfl) rfl ?_
  refine OL.pure (Pure.extract (vs := [.agg (d).cells.toArray, .int .i64 ((m : Nat) : Int), .int .i64 e]) (i := 1) rfl rfl) rfl ?_
  refine OL.pure (Pure.extract (vs := [.agg (d).cells.toArray, .int .i64 ((m : Nat) : Int), .int .i64 e]) (i := 2) rfl rfl) rfl ?_
  refine OL.alloc Tryd.zeroValue34 rfl ?_
  intro g9 w7 h9 hc7 hg_g9
  have lt_1_g9 : 1 < g9 := by have := hK.lt; omega
  have lt_0_g9 : 0 < g9 := by have := hF.lt; omega
  have lt_g6_g9 : g6 < g9 := by have := h6.lt; omega
  have ge_g9 : w.heap.size ≤ g9 := by have := hC.size; omega
  replace hK := hK.chg0 hc7
  replace hF := hF.chg0 hc7
  replace h6 := h6.chg0 hc7
  replace hC := hC.then_ hc7
  have h9 : Blk w7 g9 34 (Fr.zero.cells) := h9
  refine OL.storeRow (vs := (d).cells) rfl rfl (rfl) (by simp [Fr.cells, Value.oneCell']) h9 (Nat.le_refl 4) ?_
  intro w8 hb8 hc8
  replace hK := hK.chg hc8 (by simp; omega)
  replace hF := hF.chg hc8 (by simp; omega)
  replace h6 := h6.chg hc8 (by simpa using h6.ne h9 (by decide))
  replace hC := hC.trans1 hc8 (by first | exact .inr (by omega) | exact .inl (by simp))
  replace h9 := hb8
  replace h9 := h9.all rfl
  obtain ⟨d2, m2, e2, hd2⟩ : ∃ d m e, Frm.decode r1 = (d, m, e) := ⟨_, _, _, rfl⟩
  refine OL.pure (Pure.assign rfl) rfl ?_
  refine OL.pure (Pure.assign rfl) rfl ?_
  refine OL.nil ?_
  refine TE.seq ?_
  refine TE.region ?_
  refine OL.pure (Pure.move rfl) rfl ?_
  refine OL.call rfl Tryd.call13 rfl (decode_any r1 (by omega) d2 m2 e2 hd2 _ hK hF) ?_
  rintro _ w9 ⟨rfl, hc9⟩
  replace hK := hK.chg0 hc9
  replace hF := hF.chg0 hc9
  replace h6 := h6.chg0 hc9
  replace h9 := h9.chg0 hc9
  replace hC := hC.then_ hc9
  refine ⟨_, rfl, ?_⟩
  refine OL.pure (Pure.move rfl) rfl ?_
  refine OL.pure (Pure.extract (vs := [.agg (d2).cells.toArray, .int .i64 ((m2 : Nat) : Int), .int .i64 e2]) (i := 0) rfl rfl) rfl ?_
  refine OL.pure (Pure.extract (vs := [.agg (d2).cells.toArray, .int .i64 ((m2 : Nat) : Int), .int .i64 e2]) (i := 1) rfl rfl) rfl ?_
  refine OL.pure (Pure.extract (vs := [.agg (d2).cells.toArray, .int .i64 ((m2 : Nat) : Int), .int .i64 e2]) (i := 2) rfl rfl) rfl ?_
  refine OL.alloc Tryd.zeroValue30 rfl ?_
  intro g12 w10 h12 hc10 hg_g12
  have lt_1_g12 : 1 < g12 := by have := hK.lt; omega
  have lt_0_g12 : 0 < g12 := by have := hF.lt; omega
  have lt_g6_g12 : g6 < g12 := by have := h6.lt; omega
  have lt_g9_g12 : g9 < g12 := by have := h9.lt; omega
  have ge_g12 : w.heap.size ≤ g12 := by have := hC.size; omega
  replace hK := hK.chg0 hc10
  replace hF := hF.chg0 hc10
  replace h6 := h6.chg0 hc10
  replace h9 := h9.chg0 hc10
  replace hC := hC.then_ hc10
  have h12 : Blk w10 g12 30 (Fr.zero.cells) := h12
  refine OL.storeRow (vs := (d2).cells) rfl rfl (rfl) (by simp [Fr.cells, Value.oneCell']) h12 (Nat.le_refl 4) ?_
  intro w11 hb11 hc11
  replace hK := hK.chg hc11 (by simp; omega)
  replace hF := hF.chg hc11 (by simp; omega)
  replace h6 := h6.chg hc11 (by simp; omega)
  replace h9 := h9.chg hc11 (by simpa using h9.ne h12 (by decide))
  replace hC := hC.trans1 hc11 (by first | exact .inr (by omega) | exact .inl (by simp))
  replace h12 := hb11
  replace h12 := h12.all rfl
  refine OL.pure (Pure.assign rfl) rfl ?_
  refine OL.pure (Pure.assign rfl) rfl ?_
  refine OL.nil ?_
  refine TE.seq ?_
  refine TE.region ?_
  refine OL.pure (Pure.move rfl) rfl ?_
  refine OL.call rfl Tryd.call14 rfl (rdecode_any r1 (by omega) d2 m2 e2 hd2 _) ?_
  rintro _ w12 ⟨rfl, hc12⟩
  replace hK := hK.chg0 hc12
  replace hF := hF.chg0 hc12
  replace h6 := h6.chg0 hc12
  replace h9 := h9.chg0 hc12
  replace h12 := h12.chg0 hc12
  replace hC := hC.then_ hc12
  refine ⟨_, rfl, ?_⟩
  refine OL.pure (Pure.move rfl) rfl ?_
  refine OL.pure (Pure.extract (vs := [.agg (d2).cells.toArray, .int .i64 ((m2 : Nat) : Int), .int .i64 e2]) (i := 0) rfl rfl) rfl ?_
  refine OL.pure (Pure.extract (vs := [.agg (d2).cells.toArray, .int .i64 ((m2 : Nat) : Int), .int .i64 e2]) (i := 1) rfl rfl) rfl ?_
  refine OL.pure (Pure.extract (vs := [.agg (d2).cells.toArray, .int .i64 ((m2 : Nat) : Int), .int .i64 e2]) (i := 2) rfl rfl) rfl ?_
  refine OL.alloc Tryd.zeroValue34 rfl ?_
  intro g15 w13 h15 hc13 hg_g15
  have lt_1_g15 : 1 < g15 := by have := hK.lt; omega
  have lt_0_g15 : 0 < g15 := by have := hF.lt; omega
  have lt_g6_g15 : g6 < g15 := by have := h6.lt; omega
  have lt_g9_g15 : g9 < g15 := by have := h9.lt; omega
  have lt_g12_g15 : g12 < g15 := by have := h12.lt; omega
  have ge_g15 : w.heap.size ≤ g15 := by have := hC.size; omega
  replace hK := hK.chg0 hc13
  replace hF := hF.chg0 hc13
  replace h6 := h6.chg0 hc13
  replace h9 := h9.chg0 hc13
  replace h12 := h12.chg0 hc13
  replace hC := hC.then_ hc13
  have h15 : Blk w13 g15 34 (Fr.zero.cells) := h15
  refine OL.storeRow (vs := (d2).cells) rfl rfl (rfl) (by simp [Fr.cells, Value.oneCell']) h15 (Nat.le_refl 4) ?_
  intro w14 hb14 hc14
  replace hK := hK.chg hc14 (by simp; omega)
  replace hF := hF.chg hc14 (by simp; omega)
  replace h6 := h6.chg hc14 (by simpa using h6.ne h15 (by decide))
  replace h9 := h9.chg hc14 (by simp; omega)
  replace h12 := h12.chg hc14 (by simpa using h12.ne h15 (by decide))
  replace hC := hC.trans1 hc14 (by first | exact .inr (by omega) | exact .inl (by simp))
  replace h15 := hb14
  replace h15 := h15.all rfl
  refine OL.pure (Pure.assign rfl) rfl ?_
  refine OL.pure (Pure.assign rfl) rfl ?_
  refine OL.nil ?_
  refine TE.seq ?_
  refine TE.planAll (.cons (0, false) (.cons (1, true) (.cons (2, true) (.cons (4, true) (.cons (3, false) (.cons (5, true) (.cons (6, true) (.cons (7, true) (.cons (8, true) (.cons (9, true) (.cons (10, true) (.cons (11, true) (.cons (12, true) (.cons (13, true) (.cons (14, true) (.cons (15, true) (.cons (16, true) (.cons (17, true) (.cons (18, true) (.cons (20, true) (.cons (19, false) (.cons (21, true) (.cons (22, true) (.cons (23, true) (.cons (24, true) (.cons (25, true) (.cons (26, true) (.cons (27, true) (.cons (28, true) (.cons (29, true) (.cons (30, true) (.cons (31, true) (.cons (32, true) (.cons (33, true) .nil)))))))))))))))))))))))))))))))))) (fun w_ => Chg [] w14 w_) rfl (by kernel_rfl) ?_
  have hS15 : Chg [] w14 w14.drew := Chg.drew _ _
  replace hK := hK.chg0 hS15
  replace hF := hF.chg0 hS15
  replace h6 := h6.chg0 hS15
  replace h9 := h9.chg0 hS15
  replace h12 := h12.chg0 hS15
  replace h15 := h15.chg0 hS15
  replace hC := hC.then_ hS15
  refine PL.call rfl rfl Tryd.call15 rfl (known_any _ hK hF) ?_
  rintro _ w16 ⟨rfl, hc16⟩
  have hc16s := hS15.then_ hc16
  replace hK := hK.chg0 hc16
  replace hF := hF.chg0 hc16
  replace h6 := h6.chg0 hc16
  replace h9 := h9.chg0 hc16
  replace h12 := h12.chg0 hc16
  replace h15 := h15.chg0 hc16
  replace hC := hC.then_ hc16
  refine ⟨_, rfl, hc16s, ?_⟩
  refine PL.takeP rfl (Pure.move rfl) rfl hc16s ?_
  refine PL.takeG (fun w_ => Chg [] w16 w_) (fun _ h_ => hc16s.then_ h_) rfl rfl rfl rfl (fun w_ h_ => Run.loadAll rfl Tryd.underlying30 rfl (h6.chg0 h_) (rfl)) rfl (Chg.refl _ _) ?_
  have hP17 : Chg [] w16 w16 := Chg.refl _ _
  refine PL.takeG (fun w_ => Chg [] w16 w_) (fun _ h_ => hP17.then_ h_) rfl rfl rfl rfl (fun w_ h_ => Run.loadAll rfl Tryd.underlying34 rfl (h9.chg0 h_) (rfl)) rfl (Chg.refl _ _) ?_
  have hP18 : Chg [] w16 w16 := Chg.refl _ _
  refine PL.callG rfl rfl rfl rfl rfl Tryd.call16 rfl (back_any d _) ?_
  rintro _ w19 ⟨rfl, hc19⟩
  have hc19s := hP18.then_ hc19
  replace hK := hK.chg0 hc19
  replace hF := hF.chg0 hc19
  replace h6 := h6.chg0 hc19
  replace h9 := h9.chg0 hc19
  replace h12 := h12.chg0 hc19
  replace h15 := h15.chg0 hc19
  replace hC := hC.then_ hc19
  refine ⟨_, rfl, hc19s, ?_⟩
  refine PL.takeG (fun w_ => Chg [] w19 w_) (fun _ h_ => hc19s.then_ h_) rfl rfl rfl rfl (fun w_ h_ => Pure.eqlStruct (t := 34) (by kernel_rfl) (by kernel_rfl) (by kernel_rfl) rfl rfl (ref_eq d d) _) rfl (Chg.refl _ _) ?_
  have hP20 : Chg [] w19 w19 := Chg.refl _ _
  refine PL.cast (.bool true) 54 rfl (congrArg Value.bool (frSame_self d)) ?_
  refine PL.takeP rfl (Pure.pickT rfl rfl) rfl hP20 ?_
  refine PL.takeP rfl (Pure.move rfl) rfl hP20 ?_
  refine PL.takeG (fun w_ => Chg [] w19 w_) (fun _ h_ => hP20.then_ h_) rfl rfl rfl rfl (fun w_ h_ => Pure.move rfl _) rfl (Chg.refl _ _) ?_
  have hP21 : Chg [] w19 w19 := Chg.refl _ _
  refine PL.takeG (fun w_ => Chg [] w19 w_) (fun _ h_ => hP21.then_ h_) rfl rfl rfl rfl (fun w_ h_ => Pure.move rfl _) rfl (Chg.refl _ _) ?_
  have hP22 : Chg [] w19 w19 := Chg.refl _ _
  refine PL.takeG (fun w_ => Chg [] w19 w_) (fun _ h_ => hP22.then_ h_) rfl rfl rfl rfl (fun w_ h_ => Pure.eql rfl rfl _) rfl (Chg.refl _ _) ?_
  have hP23 : Chg [] w19 w19 := Chg.refl _ _
  refine PL.cast (.bool true) 59 rfl (congrArg Value.bool (decide_eq_true (rfl))) ?_
  refine PL.takeP rfl (Pure.pickT rfl rfl) rfl hP23 ?_
  refine PL.takeP rfl (Pure.move rfl) rfl hP23 ?_
  refine PL.takeG (fun w_ => Chg [] w19 w_) (fun _ h_ => hP23.then_ h_) rfl rfl rfl rfl (fun w_ h_ => Pure.move rfl _) rfl (Chg.refl _ _) ?_
  have hP24 : Chg [] w19 w19 := Chg.refl _ _
  refine PL.takeG (fun w_ => Chg [] w19 w_) (fun _ h_ => hP24.then_ h_) rfl rfl rfl rfl (fun w_ h_ => Pure.move rfl _) rfl (Chg.refl _ _) ?_
  have hP25 : Chg [] w19 w19 := Chg.refl _ _
  refine PL.takeG (fun w_ => Chg [] w19 w_) (fun _ h_ => hP25.then_ h_) rfl rfl rfl rfl (fun w_ h_ => Pure.eql rfl rfl _) rfl (Chg.refl _ _) ?_
  have hP26 : Chg [] w19 w19 := Chg.refl _ _
  refine PL.cast (.bool true) 64 rfl (congrArg Value.bool (decide_eq_true (rfl))) ?_
  refine PL.takeP rfl (Pure.pickT rfl rfl) rfl hP26 ?_
  refine PL.takeP rfl (Pure.move rfl) rfl hP26 ?_
  refine PL.takeG (fun w_ => Chg [] w19 w_) (fun _ h_ => hP26.then_ h_) rfl rfl rfl rfl (fun w_ h_ => Run.loadAll rfl Tryd.underlying30 rfl (h12.chg0 h_) (rfl)) rfl (Chg.refl _ _) ?_
  have hP27 : Chg [] w19 w19 := Chg.refl _ _
  refine PL.takeG (fun w_ => Chg [] w19 w_) (fun _ h_ => hP27.then_ h_) rfl rfl rfl rfl (fun w_ h_ => Run.loadAll rfl Tryd.underlying34 rfl (h15.chg0 h_) (rfl)) rfl (Chg.refl _ _) ?_
  have hP28 : Chg [] w19 w19 := Chg.refl _ _
  refine PL.callG rfl rfl rfl rfl rfl Tryd.call16 rfl (back_any d2 _) ?_
  rintro _ w29 ⟨rfl, hc29⟩
  have hc29s := hP28.then_ hc29
  replace hK := hK.chg0 hc29
  replace hF := hF.chg0 hc29
  replace h6 := h6.chg0 hc29
  replace h9 := h9.chg0 hc29
  replace h12 := h12.chg0 hc29
  replace h15 := h15.chg0 hc29
  replace hC := hC.then_ hc29
  refine ⟨_, rfl, hc29s, ?_⟩
  refine PL.takeG (fun w_ => Chg [] w29 w_) (fun _ h_ => hc29s.then_ h_) rfl rfl rfl rfl (fun w_ h_ => Pure.eqlStruct (t := 34) (by kernel_rfl) (by kernel_rfl) (by kernel_rfl) rfl rfl (ref_eq d2 d2) _) rfl (Chg.refl _ _) ?_
  have hP30 : Chg [] w29 w29 := Chg.refl _ _
  refine PL.cast (.bool true) 70 rfl (congrArg Value.bool (frSame_self d2)) ?_
  refine PL.takeP rfl (Pure.pickT rfl rfl) rfl hP30 ?_
  refine PL.takeP rfl (Pure.move rfl) rfl hP30 ?_
  refine PL.takeG (fun w_ => Chg [] w29 w_) (fun _ h_ => hP30.then_ h_) rfl rfl rfl rfl (fun w_ h_ => Pure.move rfl _) rfl (Chg.refl _ _) ?_
  have hP31 : Chg [] w29 w29 := Chg.refl _ _
  refine PL.takeG (fun w_ => Chg [] w29 w_) (fun _ h_ => hP31.then_ h_) rfl rfl rfl rfl (fun w_ h_ => Pure.move rfl _) rfl (Chg.refl _ _) ?_
  have hP32 : Chg [] w29 w29 := Chg.refl _ _
  refine PL.takeG (fun w_ => Chg [] w29 w_) (fun _ h_ => hP32.then_ h_) rfl rfl rfl rfl (fun w_ h_ => Pure.eql rfl rfl _) rfl (Chg.refl _ _) ?_
  have hP33 : Chg [] w29 w29 := Chg.refl _ _
  refine PL.cast (.bool true) 75 rfl (congrArg Value.bool (decide_eq_true (rfl))) ?_
  refine PL.takeP rfl (Pure.pickT rfl rfl) rfl hP33 ?_
  refine PL.takeP rfl (Pure.move rfl) rfl hP33 ?_
  refine PL.takeG (fun w_ => Chg [] w29 w_) (fun _ h_ => hP33.then_ h_) rfl rfl rfl rfl (fun w_ h_ => Pure.move rfl _) rfl (Chg.refl _ _) ?_
  have hP34 : Chg [] w29 w29 := Chg.refl _ _
  refine PL.takeG (fun w_ => Chg [] w29 w_) (fun _ h_ => hP34.then_ h_) rfl rfl rfl rfl (fun w_ h_ => Pure.move rfl _) rfl (Chg.refl _ _) ?_
  have hP35 : Chg [] w29 w29 := Chg.refl _ _
  refine PL.takeG (fun w_ => Chg [] w29 w_) (fun _ h_ => hP35.then_ h_) rfl rfl rfl rfl (fun w_ h_ => Pure.eql rfl rfl _) rfl (Chg.refl _ _) ?_
  have hP36 : Chg [] w29 w29 := Chg.refl _ _
  refine PL.cast (.bool true) 80 rfl (congrArg Value.bool (decide_eq_true (rfl))) ?_
  refine PL.takeP rfl (Pure.pickT rfl rfl) rfl hP36 ?_
  refine PL.takeP rfl (Pure.assign rfl) rfl hP36 ?_
  refine PL.nil ?_
  exact TE.ret (vs := [.bool true]) Tryd.results3 (⟨rfl, trivial⟩) ⟨rfl, hC⟩

end Go.Proofs.YtigjmemoaapmgaaDoor
