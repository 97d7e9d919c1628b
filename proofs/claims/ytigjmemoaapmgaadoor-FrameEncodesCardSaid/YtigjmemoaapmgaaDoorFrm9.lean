/- The law of Encode, walked -/
import Derived.Test.YtigjmemoaapmgaaDoorProg
import Derived.Test.YtigjmemoaapmgaaDoorEng6
import Derived.Test.YtigjmemoaapmgaaDoorFrameSpec2
import Derived.Test.YtigjmemoaapmgaaDoorFrm1
import Derived.Test.YtigjmemoaapmgaaDoorFrm2
import Derived.Test.YtigjmemoaapmgaaDoorFrm3
import Derived.Test.YtigjmemoaapmgaaDoorFrm4
import Derived.Test.YtigjmemoaapmgaaDoorFrm5
import Derived.Test.YtigjmemoaapmgaaDoorFrm6
set_option linter.unusedVariables false
set_option maxRecDepth 4000
namespace Go.Proofs.YtigjmemoaapmgaaDoor
open Go.V Go.Sha Go.Frm
set_option maxHeartbeats 1000000 in
theorem encodes_law_any {tK tF : TypeId} (f0 : Fr) (r : List UInt8) (w : World) (hK : Blk w 1 tK (iv .u32 K)) (hF : Blk w 0 tF (iv .i64 fldL)) : Calls Tryd.prog 7 #[.agg (f0).cells.toArray, .string (str r)] w (RetC (.bool true) w) := by
  refine calls_of_TE (vs := [.agg (f0).cells.toArray, .string (str r)]) Tryd.func7 Tryd.ntmps7 rfl (by simp) ?_
  have hC : Chg [] w w := Chg.refl _ _
  have h0w : 1 < w.heap.size := hK.lt
  have h1w : 0 < w.heap.size := hF.lt
  have hsh := fun w => short_any f0 w
  have hfl : (Fr.short f0).payload.length ≤ 300 := by simp [Fr.short]; omega
  generalize Fr.short f0 = f at hsh hfl
  refine TE.seq ?_
  refine TE.region ?_
  refine OL.box rfl rfl ?_
  intro g2 w1 h2 hc1 hg_g2
  have lt_1_g2 : 1 < g2 := by have := hK.lt; omega
  have lt_0_g2 : 0 < g2 := by have := hF.lt; omega
  have ge_g2 : w.heap.size ≤ g2 := by have := hC.size; omega
  replace hK := hK.chg0 hc1
  replace hF := hF.chg0 hc1
  replace hC := hC.then_ hc1
  have h2 : Blk w1 g2 34 (f0.cells) := h2
  refine OL.pure (Pure.assign rfl) rfl ?_
  refine OL.nil ?_
  refine TE.seq ?_
  refine TE.planAll (.cons (2, true) (.cons (3, true) (.cons (4, true) (.cons (5, true) (.cons (6, true) (.cons (0, false) (.cons (1, false) (.cons (7, false) (.cons (8, true) .nil))))))))) (fun _ => True) rfl (by kernel_rfl) ?_
  have hS2 : Chg [] w1 w1.drew := Chg.drew _ _
  replace hK := hK.chg0 hS2
  replace hF := hF.chg0 hS2
  replace h2 := h2.chg0 hS2
  replace hC := hC.then_ hS2
  refine PL.takeP rfl (Pure.move rfl) rfl trivial ?_
  refine PL.takeP rfl (Pure.move rfl) rfl trivial ?_
  refine PL.takeP rfl (Pure.lenStr Tryd.runUnderlying9 rfl) rfl trivial ?_
  refine PL.takeP rfl (Pure.min rfl rfl) rfl trivial ?_
  refine PL.takeP rfl (Pure.sliceTo (l := r) (q := min r.length 50) Tryd.underlying9 rfl rfl (by omega) (by omega)) rfl trivial ?_
  refine PL.val rfl (Run.loadAll rfl Tryd.underlying34 rfl h2 (rfl)) rfl trivial ?_
  refine PL.call rfl rfl Tryd.call18 rfl (hsh _) ?_
  rintro _ w3 ⟨rfl, hc3⟩
  replace hK := hK.chg0 hc3
  replace hF := hF.chg0 hc3
  replace h2 := h2.chg0 hc3
  replace hC := hC.then_ hc3
  refine ⟨_, rfl, trivial, ?_⟩
  refine PL.storeRow (vs := (f).cells) rfl rfl rfl (rfl) (by simp [Fr.cells, Value.oneCell']) h2 (Nat.le_refl 4) (fun _ _ => trivial) ?_
  intro w4 hb4 hc4
  replace hK := hK.chg hc4 (by simp; omega)
  replace hF := hF.chg hc4 (by simp; omega)
  replace hC := hC.trans1 hc4 (by first | exact .inr (by omega) | exact .inl (by simp))
  replace h2 := hb4
  replace h2 := h2.all rfl
  refine PL.takeP rfl (Pure.assign rfl) rfl trivial ?_
  refine PL.nil ?_
  refine TE.seq ?_
  refine TE.region ?_
  refine OL.val (Run.loadAll rfl Tryd.underlying34 rfl h2 (rfl)) rfl ?_
  refine OL.call rfl Tryd.call24 rfl (own_any f _) ?_
  rintro _ w5 ⟨rfl, hc5⟩
  replace hK := hK.chg0 hc5
  replace hF := hF.chg0 hc5
  replace h2 := h2.chg0 hc5
  replace hC := hC.then_ hc5
  refine ⟨_, rfl, ?_⟩
  by_cases hok : check f = 0
  ·
    refine OL.call rfl Tryd.call23 rfl (encode_any f hok _ hK hF) ?_
    rintro _ w6 ⟨rfl, hc6⟩
    replace hK := hK.chg0 hc6
    replace hF := hF.chg0 hc6
    replace h2 := h2.chg0 hc6
    replace hC := hC.then_ hc6
    refine ⟨_, rfl, ?_⟩
    refine OL.pure (Pure.move rfl) rfl ?_
    refine OL.pure (Pure.extract (vs := [.string (str (encode f)), .int .i64 0]) (i := 0) rfl rfl) rfl ?_
    refine OL.pure (Pure.extract (vs := [.string (str (encode f)), .int .i64 0]) (i := 1) rfl rfl) rfl ?_
    refine OL.pure (Pure.assign rfl) rfl ?_
    refine OL.pure (Pure.assign rfl) rfl ?_
    refine OL.nil ?_
    refine TE.seq ?_
    refine TE.region ?_
    refine OL.val (Run.loadAll rfl Tryd.underlying34 rfl h2 (rfl)) rfl ?_
    refine OL.call rfl Tryd.call19 rfl (rcheck_any f (by omega) _) ?_
    rintro _ w7 ⟨rfl, hc7⟩
    replace hK := hK.chg0 hc7
    replace hF := hF.chg0 hc7
    replace h2 := h2.chg0 hc7
    replace hC := hC.then_ hc7
    refine ⟨_, rfl, ?_⟩
    refine OL.pure (Pure.assign rfl) rfl ?_
    refine OL.nil ?_
    refine TE.seq ?_
    refine TE.region ?_
    refine OL.pure (Pure.fieldAddr (r := 3) Tryd.runUnderlying34 rfl Tryd.sizeOf9 rfl rfl) rfl ?_
    refine OL.val (Run.load (i := 3) rfl Tryd.isAgg9 h2 (by omega) rfl) rfl ?_
    refine OL.pure (Pure.lenStr Tryd.runUnderlying9 rfl) rfl ?_
    refine OL.call rfl Tryd.call25 rfl (size_ok f.payload.length (by omega) _) ?_
    rintro _ _ ⟨rfl, rfl⟩
    refine ⟨_, rfl, ?_⟩
    refine OL.pure (Pure.move rfl) rfl ?_
    refine OL.pure (Pure.extract (vs := [.int .i64 ((f.payload.length : Int) + 42), .int .i64 0]) (i := 0) rfl rfl) rfl ?_
    refine OL.pure (Pure.extract (vs := [.int .i64 ((f.payload.length : Int) + 42), .int .i64 0]) (i := 1) rfl rfl) rfl ?_
    refine OL.pure (Pure.assign rfl) rfl ?_
    refine OL.pure (Pure.assign rfl) rfl ?_
    refine OL.nil ?_
    refine TE.seq ?_
    refine TE.seq ?_
    refine TE.region ?_
    refine OL.call rfl Tryd.call15 rfl (known_any _ hK hF) ?_
    rintro _ w8 ⟨rfl, hc8⟩
    replace hK := hK.chg0 hc8
    replace hF := hF.chg0 hc8
    replace h2 := h2.chg0 hc8
    replace hC := hC.then_ hc8
    refine ⟨_, rfl, ?_⟩
    refine OL.pure (Pure.not rfl) rfl ?_
    refine OL.pure (Pure.move rfl) rfl ?_
    refine OL.want rfl rfl rfl (Pure.move rfl _) rfl ?_
    refine OL.want rfl rfl rfl (Pure.move rfl _) rfl ?_
    refine OL.want rfl rfl rfl (Pure.neq rfl rfl _) rfl ?_
    refine OL.cast (.bool false) 40 rfl (congrArg Value.bool (decide_eq_false (fun h => h hok.symm))) ?_
    refine OL.pure (Pure.pickF rfl rfl) rfl ?_
    refine OL.pure (Pure.move rfl) rfl ?_
    refine OL.want rfl rfl rfl (Run.loadAll rfl Tryd.underlying34 rfl h2 (rfl)) rfl ?_
    refine OL.callG rfl rfl rfl rfl Tryd.call24 rfl (own_any f _) ?_
    rintro _ w9 ⟨rfl, hc9⟩
    replace hK := hK.chg0 hc9
    replace hF := hF.chg0 hc9
    replace h2 := h2.chg0 hc9
    replace hC := hC.then_ hc9
    refine ⟨_, rfl, ?_⟩
    refine OL.callG rfl rfl rfl rfl Tryd.call26 rfl (fcheck_any f (by omega) _) ?_
    rintro _ w10 ⟨rfl, hc10⟩
    replace hK := hK.chg0 hc10
    replace hF := hF.chg0 hc10
    replace h2 := h2.chg0 hc10
    replace hC := hC.then_ hc10
    refine ⟨_, rfl, ?_⟩
    have hel := encode_len f
    have hxl : (r.take (min r.length 50)).length ≤ 50 := by simp; omega
    refine OL.want rfl rfl rfl (Pure.move rfl _) rfl ?_
    refine OL.want rfl rfl rfl (Pure.neq rfl rfl _) rfl ?_
    refine OL.cast (.bool false) 47 rfl (congrArg Value.bool (decide_eq_false (fun h => h rfl))) ?_
    refine OL.pure (Pure.pickF rfl rfl) rfl ?_
    refine OL.pure (Pure.move rfl) rfl ?_
    refine OL.want rfl rfl rfl (Pure.move rfl _) rfl ?_
    refine OL.want rfl rfl rfl (Pure.fieldAddr (r := 3) Tryd.runUnderlying34 rfl Tryd.sizeOf9 rfl rfl _) rfl ?_
    refine OL.want rfl rfl rfl (Run.load (i := 3) rfl Tryd.isAgg9 h2 (by omega) rfl) rfl ?_
    refine OL.want rfl rfl rfl (Pure.lenStr Tryd.runUnderlying9 rfl _) rfl ?_
    refine OL.want rfl rfl rfl (Pure.add rfl rfl (i64 (by omega) (by omega)) _) rfl ?_
    refine OL.want rfl rfl rfl (Pure.neq rfl rfl _) rfl ?_
    refine OL.cast (.bool false) 55 rfl (congrArg Value.bool (decide_eq_false (fun h => h (by omega)))) ?_
    refine OL.pure (Pure.pickF rfl rfl) rfl ?_
    refine OL.pure (Pure.move rfl) rfl ?_
    refine OL.want rfl rfl rfl (Pure.move rfl _) rfl ?_
    refine OL.want rfl rfl rfl (Pure.neq rfl rfl _) rfl ?_
    refine OL.cast (.bool false) 59 rfl (rfl) ?_
    refine OL.pure (Pure.pickF rfl rfl) rfl ?_
    refine OL.nil ?_
    refine TE.condF rfl rfl ?_
    refine TE.skip ?_
    refine TE.seq ?_
    refine TE.seq ?_
    refine TE.region ?_
    refine OL.pure (Pure.move rfl) rfl ?_
    refine OL.pure (Pure.neq rfl rfl) rfl ?_
    refine OL.cast (.bool false) 62 rfl (congrArg Value.bool (decide_eq_false (fun h => h hok))) ?_
    refine OL.nil ?_
    refine TE.condF rfl rfl ?_
    refine TE.skip ?_
    refine TE.seq ?_
    refine TE.region ?_
    refine OL.pure (Pure.move rfl) rfl ?_
    refine OL.pure (Pure.move rfl) rfl ?_
    refine OL.pure (Pure.strAdd (l := (encode f)) (m := (r.take (min r.length 50))) rfl rfl (by omega)) rfl ?_
    refine OL.call rfl Tryd.call13 rfl (decode_any (encode f ++ (r.take (min r.length 50))) (by rw [List.length_append]; omega) f (42 + f.payload.length) 0 (decode_encode hok _) _ hK hF) ?_
    rintro _ w11 ⟨rfl, hc11⟩
    replace hK := hK.chg0 hc11
    replace hF := hF.chg0 hc11
    replace h2 := h2.chg0 hc11
    replace hC := hC.then_ hc11
    refine ⟨_, rfl, ?_⟩
    refine OL.pure (Pure.move rfl) rfl ?_
    refine OL.pure (Pure.extract (vs := [.agg (f).cells.toArray, .int .i64 ((42 + f.payload.length : Nat) : Int), .int .i64 0]) (i := 0) rfl rfl) rfl ?_
    refine OL.pure (Pure.extract (vs := [.agg (f).cells.toArray, .int .i64 ((42 + f.payload.length : Nat) : Int), .int .i64 0]) (i := 1) rfl rfl) rfl ?_
    refine OL.pure (Pure.extract (vs := [.agg (f).cells.toArray, .int .i64 ((42 + f.payload.length : Nat) : Int), .int .i64 0]) (i := 2) rfl rfl) rfl ?_
    refine OL.alloc Tryd.zeroValue30 rfl ?_
    intro g10 w12 h10 hc12 hg_g10
    have lt_1_g10 : 1 < g10 := by have := hK.lt; omega
    have lt_0_g10 : 0 < g10 := by have := hF.lt; omega
    have lt_g2_g10 : g2 < g10 := by have := h2.lt; omega
    have ge_g10 : w.heap.size ≤ g10 := by have := hC.size; omega
    replace hK := hK.chg0 hc12
    replace hF := hF.chg0 hc12
    replace h2 := h2.chg0 hc12
    replace hC := hC.then_ hc12
    have h10 : Blk w12 g10 30 (Fr.zero.cells) := h10
    refine OL.storeRow (vs := (f).cells) rfl rfl (rfl) (by simp [Fr.cells, Value.oneCell']) h10 (Nat.le_refl 4) ?_
    intro w13 hb13 hc13
    replace hK := hK.chg hc13 (by simp; omega)
    replace hF := hF.chg hc13 (by simp; omega)
    replace h2 := h2.chg hc13 (by simpa using h2.ne h10 (by decide))
    replace hC := hC.trans1 hc13 (by first | exact .inr (by omega) | exact .inl (by simp))
    replace h10 := hb13
    replace h10 := h10.all rfl
    refine OL.pure (Pure.assign rfl) rfl ?_
    refine OL.pure (Pure.assign rfl) rfl ?_
    refine OL.nil ?_
    refine TE.seq ?_
    refine TE.planAll (.cons (0, true) (.cons (1, true) (.cons (2, false) (.cons (3, true) (.cons (4, true) (.cons (5, true) (.cons (6, true) (.cons (7, true) (.cons (8, true) (.cons (9, true) (.cons (10, true) (.cons (11, true) (.cons (12, true) (.cons (13, true) (.cons (14, true) (.cons (15, true) (.cons (17, true) (.cons (16, false) (.cons (18, true) (.cons (19, true) (.cons (20, true) .nil))))))))))))))))))))) (fun w_ => Chg [] w13 w_) rfl (by kernel_rfl) ?_
    have hS14 : Chg [] w13 w13.drew := Chg.drew _ _
    replace hK := hK.chg0 hS14
    replace hF := hF.chg0 hS14
    replace h2 := h2.chg0 hS14
    replace h10 := h10.chg0 hS14
    replace hC := hC.then_ hS14
    refine PL.takeP rfl (Pure.move rfl) rfl hS14 ?_
    refine PL.takeS (fun w_ => Chg [] w13.drew w_) (fun _ h_ => hS14.then_ h_) rfl (fun w_ h_ => Run.loadAll rfl Tryd.underlying34 rfl (h2.chg0 h_) (rfl)) rfl (Chg.refl _ _) ?_
    have hP15 : Chg [] w13.drew w13.drew := Chg.refl _ _
    refine PL.call rfl rfl Tryd.call20 rfl (rencode_any f hok _) ?_
    rintro _ w16 ⟨rfl, hc16⟩
    have hc16s := hP15.then_ hc16
    replace hK := hK.chg0 hc16
    replace hF := hF.chg0 hc16
    replace h2 := h2.chg0 hc16
    replace h10 := h10.chg0 hc16
    replace hC := hC.then_ hc16
    refine ⟨_, rfl, hc16s, ?_⟩
    refine PL.takeP rfl (Pure.strEql (l := (encode f)) (m := (encode f)) rfl rfl) rfl hc16s ?_
    refine PL.cast (.bool true) 76 rfl (congrArg Value.bool (decide_eq_true rfl)) ?_
    refine PL.takeP rfl (Pure.move rfl) rfl hc16s ?_
    refine PL.takeG (fun w_ => Chg [] w16 w_) (fun _ h_ => hc16s.then_ h_) rfl rfl rfl rfl (fun w_ h_ => Pure.move rfl _) rfl (Chg.refl _ _) ?_
    have hP17 : Chg [] w16 w16 := Chg.refl _ _
    refine PL.takeG (fun w_ => Chg [] w16 w_) (fun _ h_ => hP17.then_ h_) rfl rfl rfl rfl (fun w_ h_ => Pure.eql rfl rfl _) rfl (Chg.refl _ _) ?_
    have hP18 : Chg [] w16 w16 := Chg.refl _ _
    refine PL.cast (.bool true) 79 rfl (rfl) ?_
    refine PL.takeP rfl (Pure.pickT rfl rfl) rfl hP18 ?_
    refine PL.takeP rfl (Pure.move rfl) rfl hP18 ?_
    refine PL.takeG (fun w_ => Chg [] w16 w_) (fun _ h_ => hP18.then_ h_) rfl rfl rfl rfl (fun w_ h_ => Pure.move rfl _) rfl (Chg.refl _ _) ?_
    have hP19 : Chg [] w16 w16 := Chg.refl _ _
    refine PL.takeG (fun w_ => Chg [] w16 w_) (fun _ h_ => hP19.then_ h_) rfl rfl rfl rfl (fun w_ h_ => Pure.move rfl _) rfl (Chg.refl _ _) ?_
    have hP20 : Chg [] w16 w16 := Chg.refl _ _
    refine PL.takeG (fun w_ => Chg [] w16 w_) (fun _ h_ => hP20.then_ h_) rfl rfl rfl rfl (fun w_ h_ => Pure.lenStr Tryd.runUnderlying9 rfl _) rfl (Chg.refl _ _) ?_
    have hP21 : Chg [] w16 w16 := Chg.refl _ _
    refine PL.takeG (fun w_ => Chg [] w16 w_) (fun _ h_ => hP21.then_ h_) rfl rfl rfl rfl (fun w_ h_ => Pure.eql rfl rfl _) rfl (Chg.refl _ _) ?_
    have hP22 : Chg [] w16 w16 := Chg.refl _ _
    refine PL.cast (.bool true) 85 rfl (congrArg Value.bool (decide_eq_true (by push_cast; omega))) ?_
    refine PL.takeP rfl (Pure.pickT rfl rfl) rfl hP22 ?_
    refine PL.takeP rfl (Pure.move rfl) rfl hP22 ?_
    refine PL.takeG (fun w_ => Chg [] w16 w_) (fun _ h_ => hP22.then_ h_) rfl rfl rfl rfl (fun w_ h_ => Run.loadAll rfl Tryd.underlying30 rfl (h10.chg0 h_) (rfl)) rfl (Chg.refl _ _) ?_
    have hP23 : Chg [] w16 w16 := Chg.refl _ _
    refine PL.takeG (fun w_ => Chg [] w16 w_) (fun _ h_ => hP23.then_ h_) rfl rfl rfl rfl (fun w_ h_ => Run.loadAll rfl Tryd.underlying34 rfl (h2.chg0 h_) (rfl)) rfl (Chg.refl _ _) ?_
    have hP24 : Chg [] w16 w16 := Chg.refl _ _
    refine PL.callG rfl rfl rfl rfl rfl Tryd.call16 rfl (back_any f _) ?_
    rintro _ w25 ⟨rfl, hc25⟩
    have hc25s := hP24.then_ hc25
    replace hK := hK.chg0 hc25
    replace hF := hF.chg0 hc25
    replace h2 := h2.chg0 hc25
    replace h10 := h10.chg0 hc25
    replace hC := hC.then_ hc25
    refine ⟨_, rfl, hc25s, ?_⟩
    refine PL.takeG (fun w_ => Chg [] w25 w_) (fun _ h_ => hc25s.then_ h_) rfl rfl rfl rfl (fun w_ h_ => Pure.eqlStruct (t := 34) (by kernel_rfl) (by kernel_rfl) (by kernel_rfl) rfl rfl (ref_eq f f) _) rfl (Chg.refl _ _) ?_
    have hP26 : Chg [] w25 w25 := Chg.refl _ _
    refine PL.cast (.bool true) 91 rfl (congrArg Value.bool (frSame_self f)) ?_
    refine PL.takeP rfl (Pure.pickT rfl rfl) rfl hP26 ?_
    refine PL.takeP rfl (Pure.assign rfl) rfl hP26 ?_
    refine PL.nil ?_
    exact TE.ret (vs := [.bool true]) Tryd.results7 (⟨rfl, trivial⟩) ⟨rfl, hC⟩
  ·
    refine OL.call rfl Tryd.call23 rfl (encode_no f (by omega) hok _) ?_
    rintro _ w27 ⟨rfl, hc27⟩
    replace hK := hK.chg0 hc27
    replace hF := hF.chg0 hc27
    replace h2 := h2.chg0 hc27
    replace hC := hC.then_ hc27
    refine ⟨_, rfl, ?_⟩
    refine OL.pure (Pure.move rfl) rfl ?_
    refine OL.pure (Pure.extract (vs := [.string (str []), .int .i64 (check f)]) (i := 0) rfl rfl) rfl ?_
    refine OL.pure (Pure.extract (vs := [.string (str []), .int .i64 (check f)]) (i := 1) rfl rfl) rfl ?_
    refine OL.pure (Pure.assign rfl) rfl ?_
    refine OL.pure (Pure.assign rfl) rfl ?_
    refine OL.nil ?_
    refine TE.seq ?_
    refine TE.region ?_
    refine OL.val (Run.loadAll rfl Tryd.underlying34 rfl h2 (rfl)) rfl ?_
    refine OL.call rfl Tryd.call19 rfl (rcheck_any f (by omega) _) ?_
    rintro _ w28 ⟨rfl, hc28⟩
    replace hK := hK.chg0 hc28
    replace hF := hF.chg0 hc28
    replace h2 := h2.chg0 hc28
    replace hC := hC.then_ hc28
    refine ⟨_, rfl, ?_⟩
    refine OL.pure (Pure.assign rfl) rfl ?_
    refine OL.nil ?_
    refine TE.seq ?_
    refine TE.region ?_
    refine OL.pure (Pure.fieldAddr (r := 3) Tryd.runUnderlying34 rfl Tryd.sizeOf9 rfl rfl) rfl ?_
    refine OL.val (Run.load (i := 3) rfl Tryd.isAgg9 h2 (by omega) rfl) rfl ?_
    refine OL.pure (Pure.lenStr Tryd.runUnderlying9 rfl) rfl ?_
    refine OL.call rfl Tryd.call25 rfl (size_ok f.payload.length (by omega) _) ?_
    rintro _ _ ⟨rfl, rfl⟩
    refine ⟨_, rfl, ?_⟩
    refine OL.pure (Pure.move rfl) rfl ?_
    refine OL.pure (Pure.extract (vs := [.int .i64 ((f.payload.length : Int) + 42), .int .i64 0]) (i := 0) rfl rfl) rfl ?_
    refine OL.pure (Pure.extract (vs := [.int .i64 ((f.payload.length : Int) + 42), .int .i64 0]) (i := 1) rfl rfl) rfl ?_
    refine OL.pure (Pure.assign rfl) rfl ?_
    refine OL.pure (Pure.assign rfl) rfl ?_
    refine OL.nil ?_
    refine TE.seq ?_
    refine TE.seq ?_
    refine TE.region ?_
    refine OL.call rfl Tryd.call15 rfl (known_any _ hK hF) ?_
    rintro _ w29 ⟨rfl, hc29⟩
    replace hK := hK.chg0 hc29
    replace hF := hF.chg0 hc29
    replace h2 := h2.chg0 hc29
    replace hC := hC.then_ hc29
    refine ⟨_, rfl, ?_⟩
    refine OL.pure (Pure.not rfl) rfl ?_
    refine OL.pure (Pure.move rfl) rfl ?_
    refine OL.want rfl rfl rfl (Pure.move rfl _) rfl ?_
    refine OL.want rfl rfl rfl (Pure.move rfl _) rfl ?_
    refine OL.want rfl rfl rfl (Pure.neq rfl rfl _) rfl ?_
    refine OL.cast (.bool false) 40 rfl (congrArg Value.bool (decide_eq_false (fun h => h rfl))) ?_
    refine OL.pure (Pure.pickF rfl rfl) rfl ?_
    refine OL.pure (Pure.move rfl) rfl ?_
    refine OL.want rfl rfl rfl (Run.loadAll rfl Tryd.underlying34 rfl h2 (rfl)) rfl ?_
    refine OL.callG rfl rfl rfl rfl Tryd.call24 rfl (own_any f _) ?_
    rintro _ w30 ⟨rfl, hc30⟩
    replace hK := hK.chg0 hc30
    replace hF := hF.chg0 hc30
    replace h2 := h2.chg0 hc30
    replace hC := hC.then_ hc30
    refine ⟨_, rfl, ?_⟩
    refine OL.callG rfl rfl rfl rfl Tryd.call26 rfl (fcheck_any f (by omega) _) ?_
    rintro _ w31 ⟨rfl, hc31⟩
    replace hK := hK.chg0 hc31
    replace hF := hF.chg0 hc31
    replace h2 := h2.chg0 hc31
    replace hC := hC.then_ hc31
    refine ⟨_, rfl, ?_⟩
    refine OL.want rfl rfl rfl (Pure.move rfl _) rfl ?_
    refine OL.want rfl rfl rfl (Pure.neq rfl rfl _) rfl ?_
    refine OL.cast (.bool false) 47 rfl (congrArg Value.bool (decide_eq_false (fun h => h rfl))) ?_
    refine OL.pure (Pure.pickF rfl rfl) rfl ?_
    refine OL.pure (Pure.move rfl) rfl ?_
    refine OL.want rfl rfl rfl (Pure.move rfl _) rfl ?_
    refine OL.want rfl rfl rfl (Pure.fieldAddr (r := 3) Tryd.runUnderlying34 rfl Tryd.sizeOf9 rfl rfl _) rfl ?_
    refine OL.want rfl rfl rfl (Run.load (i := 3) rfl Tryd.isAgg9 h2 (by omega) rfl) rfl ?_
    refine OL.want rfl rfl rfl (Pure.lenStr Tryd.runUnderlying9 rfl _) rfl ?_
    refine OL.want rfl rfl rfl (Pure.add rfl rfl (i64 (by omega) (by omega)) _) rfl ?_
    refine OL.want rfl rfl rfl (Pure.neq rfl rfl _) rfl ?_
    refine OL.cast (.bool false) 55 rfl (congrArg Value.bool (decide_eq_false (fun h => h (by omega)))) ?_
    refine OL.pure (Pure.pickF rfl rfl) rfl ?_
    refine OL.pure (Pure.move rfl) rfl ?_
    refine OL.want rfl rfl rfl (Pure.move rfl _) rfl ?_
    refine OL.want rfl rfl rfl (Pure.neq rfl rfl _) rfl ?_
    refine OL.cast (.bool false) 59 rfl (rfl) ?_
    refine OL.pure (Pure.pickF rfl rfl) rfl ?_
    refine OL.nil ?_
    refine TE.condF rfl rfl ?_
    refine TE.skip ?_
    refine TE.seq ?_
    refine TE.seq ?_
    refine TE.region ?_
    refine OL.pure (Pure.move rfl) rfl ?_
    refine OL.pure (Pure.neq rfl rfl) rfl ?_
    refine OL.cast (.bool true) 62 rfl (congrArg Value.bool (decide_eq_true (hok))) ?_
    refine OL.nil ?_
    refine TE.condT rfl rfl ?_
    refine TE.seq ?_
    refine TE.region ?_
    refine OL.pure (Pure.move rfl) rfl ?_
    refine OL.pure (Pure.strEql (l := []) (m := []) rfl rfl) rfl ?_
    refine OL.cast (.bool true) 64 rfl (congrArg Value.bool (decide_eq_true rfl)) ?_
    refine OL.pure (Pure.assign rfl) rfl ?_
    refine OL.nil ?_
    exact TE.ret (vs := [.bool true]) Tryd.results7 (⟨rfl, trivial⟩) ⟨rfl, hC⟩

end Go.Proofs.YtigjmemoaapmgaaDoor
