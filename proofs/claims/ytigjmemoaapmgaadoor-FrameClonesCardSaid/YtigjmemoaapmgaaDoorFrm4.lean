/- Encode, walked -/
import Derived.Test.YtigjmemoaapmgaaDoorProg
import Derived.Test.YtigjmemoaapmgaaDoorEng6
import Derived.Test.YtigjmemoaapmgaaDoorFrameSpec2
import Derived.Test.YtigjmemoaapmgaaDoorFrm1
import Derived.Test.YtigjmemoaapmgaaDoorFrm2
import Derived.Test.YtigjmemoaapmgaaDoorFrm3
set_option linter.unusedVariables false
set_option maxRecDepth 4000
namespace Go.Proofs.YtigjmemoaapmgaaDoor
open Go.V Go.Sha Go.Frm
theorem encode_no (f : Fr) (hl : f.payload.length ≤ 4294967296) (hv : check f ≠ 0) (w : World) : Calls Tryd.prog 23 #[.agg (f).cells.toArray] w (RetC (.tuple #[.string (str []), .int .i64 (check f)]) w) := by
  refine calls_of_TE (vs := [.agg (f).cells.toArray]) Tryd.func23 Tryd.ntmps23 rfl (by simp) ?_
  have hC : Chg [] w w := Chg.refl _ _
  refine TE.seq ?_
  refine TE.region ?_
  refine OL.box rfl rfl ?_
  intro g1 w1 h1 hc1 hg_g1
  have ge_g1 : w.heap.size ≤ g1 := by have := hC.size; omega
  replace hC := hC.then_ hc1
  have h1 : Blk w1 g1 30 (f.cells) := h1
  refine OL.pure (Pure.assign rfl) rfl ?_
  refine OL.pure (Pure.assign rfl) rfl ?_
  refine OL.nil ?_
  refine TE.seq ?_
  refine TE.seq ?_
  refine TE.region ?_
  refine OL.val (Run.loadAll rfl Tryd.underlying30 rfl h1 (rfl)) rfl ?_
  refine OL.call rfl Tryd.call26 rfl (fcheck_any f hl _) ?_
  rintro _ w2 ⟨rfl, hc2⟩
  replace h1 := h1.chg0 hc2
  replace hC := hC.then_ hc2
  refine ⟨_, rfl, ?_⟩
  refine OL.pure (Pure.assign rfl) rfl ?_
  refine OL.nil ?_
  refine TE.seq ?_
  refine TE.region ?_
  refine OL.pure (Pure.move rfl) rfl ?_
  refine OL.pure (Pure.neq rfl rfl) rfl ?_
  refine OL.cast (.bool true) 13 rfl (congrArg Value.bool (decide_eq_true (hv))) ?_
  refine OL.nil ?_
  refine TE.condT rfl rfl ?_
  refine TE.seq ?_
  refine TE.region ?_
  refine OL.pure (Pure.move rfl) rfl ?_
  refine OL.pure (Pure.assign rfl) rfl ?_
  refine OL.pure (Pure.assign rfl) rfl ?_
  refine OL.nil ?_
  exact TE.ret (vs := [.string (str []), .int .i64 (check f)]) Tryd.results23 (⟨rfl, rfl, trivial⟩) ⟨rfl, hC⟩

set_option maxHeartbeats 1000000 in
theorem encode_any {tK tF : TypeId} (f : Fr) (hok : check f = 0) (w : World) (hK : Blk w 1 tK (iv .u32 K)) (hF : Blk w 0 tF (iv .i64 fldL)) : Calls Tryd.prog 23 #[.agg (f).cells.toArray] w (RetC (.tuple #[.string (str (encode f)), .int .i64 0]) w) := by
  refine calls_of_TE (vs := [.agg (f).cells.toArray]) Tryd.func23 Tryd.ntmps23 rfl (by simp) ?_
  have hC : Chg [] w w := Chg.refl _ _
  have h0w : 1 < w.heap.size := hK.lt
  have h1w : 0 < w.heap.size := hF.lt
  obtain ⟨c0, c1, c2, c3⟩ := check_ok hok
  obtain ⟨i0, i1, i2, i3⟩ := c2
  have hhl := header_len f
  have hfl := first_len (header f)
  have hsl := second_len (header f) f.payload
  refine TE.seq ?_
  refine TE.region ?_
  refine OL.box rfl rfl ?_
  intro g1 w1 h1 hc1 hg_g1
  have lt_1_g1 : 1 < g1 := by have := hK.lt; omega
  have lt_0_g1 : 0 < g1 := by have := hF.lt; omega
  have ge_g1 : w.heap.size ≤ g1 := by have := hC.size; omega
  replace hK := hK.chg0 hc1
  replace hF := hF.chg0 hc1
  replace hC := hC.then_ hc1
  have h1 : Blk w1 g1 30 (f.cells) := h1
  refine OL.pure (Pure.assign rfl) rfl ?_
  refine OL.pure (Pure.assign rfl) rfl ?_
  refine OL.nil ?_
  refine TE.seq ?_
  refine TE.seq ?_
  refine TE.region ?_
  refine OL.val (Run.loadAll rfl Tryd.underlying30 rfl h1 (rfl)) rfl ?_
  refine OL.call rfl Tryd.call26 rfl (fcheck_any f (by omega) _) ?_
  rintro _ w2 ⟨rfl, hc2⟩
  replace hK := hK.chg0 hc2
  replace hF := hF.chg0 hc2
  replace h1 := h1.chg0 hc2
  replace hC := hC.then_ hc2
  refine ⟨_, rfl, ?_⟩
  refine OL.pure (Pure.assign rfl) rfl ?_
  refine OL.nil ?_
  refine TE.seq ?_
  refine TE.region ?_
  refine OL.pure (Pure.move rfl) rfl ?_
  refine OL.pure (Pure.neq rfl rfl) rfl ?_
  refine OL.cast (.bool false) 13 rfl (congrArg Value.bool (decide_eq_false (fun h => h hok))) ?_
  refine OL.nil ?_
  refine TE.condF rfl rfl ?_
  refine TE.skip ?_
  refine TE.seq ?_
  refine TE.region ?_
  refine OL.buildSlice (cs := [.int .u8 245]) rfl Tryd.runUnderlying24 Tryd.sizeOf5 Tryd.zeroValue5 (by decide) (by decide) (by kernel_rfl) rfl ?_
  intro q w3 hq hc3 hg_q
  have lt_1_q : 1 < q := by have := hK.lt; omega
  have lt_0_q : 0 < q := by have := hF.lt; omega
  have lt_g1_q : g1 < q := by have := h1.lt; omega
  have ge_q : w.heap.size ≤ q := by have := hC.size; omega
  replace hK := hK.chg0 hc3
  replace hF := hF.chg0 hc3
  replace h1 := h1.chg0 hc3
  replace hC := hC.then_ hc3
  have hm_v0 := Mine.slice ge_q 0 1 1
  have hv0 : Row w3 5 1 (.slice (some ⟨q, 0, none⟩) 1 1) (hdrTo f 0).length (bv (hdrTo f 0)) := Row.lit hq rfl
  refine OL.alloc Tryd.zeroValue24 rfl ?_
  intro gp w4 hp hc4 hg_gp
  have lt_1_gp : 1 < gp := by have := hK.lt; omega
  have lt_0_gp : 0 < gp := by have := hF.lt; omega
  have lt_g1_gp : g1 < gp := by have := h1.lt; omega
  have ge_gp : w.heap.size ≤ gp := by have := hC.size; omega
  replace hK := hK.chg0 hc4
  replace hF := hF.chg0 hc4
  replace h1 := h1.chg0 hc4
  replace hv0 := hv0.chg0 hc4
  replace hC := hC.then_ hc4
  have hp : Blk w4 gp 24 ([.slice none 0 0]) := hp
  refine OL.store (j := 0) rfl rfl Tryd.sizeOf24 rfl hp (by omega) (rfl) ?_
  intro w5 hb5 hc5
  replace hK := hK.chg hc5 (by simp; omega)
  replace hF := hF.chg hc5 (by simp; omega)
  replace h1 := h1.chg hc5 (by simpa using h1.ne hp (by decide))
  replace hv0 := hv0.chg hc5 (hv0.apart hp (by decide))
  replace hC := hC.trans1 hc5 (by first | exact .inr (by omega) | exact .inl (by simp))
  replace hp := hb5
  refine OL.nil ?_
  refine TE.seq ?_
  refine TE.region ?_
  refine OL.pure (Pure.makeFunc (vs := [.pointer (some ⟨gp, 0, none⟩)]) rfl) rfl ?_
  refine OL.pure (Pure.assign rfl) rfl ?_
  refine OL.nil ?_
  refine TE.seq ?_
  refine TE.seq ?_
  refine TE.region ?_
  refine OL.pure (Pure.fieldAddr (r := 0) Tryd.runUnderlying30 rfl Tryd.sizeOf3 rfl rfl) rfl ?_
  refine OL.val (Run.load (i := 0) rfl Tryd.isAgg3 h1 (by omega) rfl) rfl ?_
  refine OL.pure (Pure.fieldAddr (r := 1) Tryd.runUnderlying30 rfl Tryd.sizeOf3 rfl rfl) rfl ?_
  refine OL.val (Run.load (i := 1) rfl Tryd.isAgg3 h1 (by omega) rfl) rfl ?_
  refine OL.pure (Pure.fieldAddr (r := 2) Tryd.runUnderlying30 rfl Tryd.sizeOf3 rfl rfl) rfl ?_
  refine OL.val (Run.load (i := 2) rfl Tryd.isAgg3 h1 (by omega) rfl) rfl ?_
  refine OL.pure (Pure.fieldAddr (r := 3) Tryd.runUnderlying30 rfl Tryd.sizeOf9 rfl rfl) rfl ?_
  refine OL.val (Run.load (i := 3) rfl Tryd.isAgg9 h1 (by omega) rfl) rfl ?_
  refine OL.pure (Pure.lenStr Tryd.runUnderlying9 rfl) rfl ?_
  refine OL.pure (Pure.build (cs := iv .i64 [f.kind, f.stream, f.number, (f.payload.length : Int)]) rfl (by kernel_rfl)) rfl ?_
  refine OL.pure (Pure.move rfl) rfl ?_
  refine OL.nil ?_
  refine TE.block ?_
  refine TE.loopInv (σ := Nat × Value) [1, 5, 6, 26, 27] (fun s_ w_ => match s_ with | (j, v) => j ≤ 4 ∧ Chg [] w w_ ∧ Blk w_ 1 tK (iv .u32 K) ∧ Blk w_ 0 tF (iv .i64 fldL) ∧ Blk w_ g1 30 f.cells ∧ Blk w_ gp 24 [v] ∧ Row w_ 5 1 v (hdrTo f j).length (bv (hdrTo f j)) ∧ Mine w.heap.size v) (fun s_ => [(1, .pointer (some ⟨g1, 0, none⟩)), (5, .pointer (some ⟨gp, 0, none⟩)), (6, .func (.func 44) #[] #[.pointer (some ⟨gp, 0, none⟩)]), (26, .agg (iv .i64 [f.kind, f.stream, f.number, (f.payload.length : Int)]).toArray), (27, .int .i64 (↑s_.1))]) (fun s_ => 4 - s_.1) (0, .slice (some ⟨q, 0, none⟩) 1 1) ⟨by omega, hC, hK, hF, h1, hp, hv0, hm_v0⟩ rfl ?_
  rintro ⟨j, v⟩ w6 ⟨hj, hC, hK, hF, h1, hp, hv, hm_v⟩ ih6
  try dsimp only
  refine TE.seq ?_
  refine TE.region ?_
  refine OL.pure (Pure.lss rfl rfl) rfl ?_
  refine OL.nil ?_
  refine TE.seq ?_
  refine TE.ite rfl (fun hlt => ?_) (fun hlt => ?_)
  ·
    have hj4 : j < 4 := by omega
    obtain ⟨n, hn⟩ : ∃ n : Nat, n = fv f j := ⟨_, rfl⟩
    have hfv := fv_val hok j hj4
    rw [← hn] at hfv
    have hfl4 := (off_fld j hj4).2.2
    refine TE.skip ?_
    refine TE.seq ?_
    refine TE.block ?_
    refine TE.seq ?_
    refine TE.region ?_
    refine OL.pure (Pure.move rfl) rfl ?_
    refine OL.pure (Pure.indexAgg (cs := iv .i64 [f.kind, f.stream, f.number, (f.payload.length : Int)]) (j := j) (v := .int .i64 ([f.kind, f.stream, f.number, (f.payload.length : Int)].getD j 0)) Tryd.runUnderlying87 Tryd.sizeOf3 Tryd.isAgg3 rfl rfl rfl (by omega) (iv_get (show j < 4 by omega))) rfl ?_
    refine OL.cast (.int .i64 (n : Int)) 30 rfl (congrArg (Value.int .i64) hfv.1) ?_
    refine OL.pure (Pure.assign rfl) rfl ?_
    refine OL.pure (Pure.assign rfl) rfl ?_
    refine OL.nil ?_
    refine TE.region ?_
    refine OL.pure (Pure.move rfl) rfl ?_
    refine OL.pure (Pure.move rfl) rfl ?_
    refine OL.pure (Pure.move rfl) rfl ?_
    refine OL.pure (Pure.indexAddrA (r := j) Tryd.runUnderlying87 Tryd.sizeOf3 rfl rfl (by omega) (by omega) (by omega)) rfl ?_
    refine OL.val (Run.load (i := j) rfl Tryd.isAgg3 hF (by omega) (iv_get (show j < 4 by omega))) rfl ?_
    refine OL.cast (.int .i64 (fld j : Int)) 35 rfl (congrArg (Value.int .i64) hfl4.2) ?_
    have hll := hdrTo_len f j hj
    refine OL.callFn rfl rfl Tryd.call44 rfl (put_any n (fld j) hfv.2 hfl4.1 gp v (hdrTo f j) (by omega) _ hp hv) ?_
    rintro _ w90 ⟨v9, rfl, hp9, hv9, hc9, hm9⟩
    replace hK := hK.chg hc9 (notin_cons (by omega) (fun h_ => absurd (hm_v _ h_) (by omega)))
    replace hF := hF.chg hc9 (notin_cons (by omega) (fun h_ => absurd (hm_v _ h_) (by omega)))
    replace h1 := h1.chg hc9 (notin_cons (by omega) (hv.notin h1 (by decide)))
    have hm_v9 : Mine w.heap.size v9 := hm9.mine hm_v ge_gp hC.size
    replace hC := hC.trans hc9 (fun k hk => .inr (by rcases List.mem_cons.1 hk with rfl | h; exact ge_gp; exact hm_v k h))
    replace hv9 : Row w90 5 1 v9 (hdrTo f (j + 1)).length (bv (hdrTo f (j + 1))) := by rw [hdrTo_succ, ← hn]; exact hv9
    refine ⟨_, rfl, ?_⟩
    refine OL.nil ?_
    refine TE.inBlock ?_
    refine TE.region ?_
    refine OL.pure (Pure.add rfl rfl (i64 (by omega) (by omega))) rfl ?_
    refine OL.pure (Pure.move rfl) rfl ?_
    refine OL.nil ?_
    exact TE.sub [1, 5, 6, 26, 27] rfl (ih6 (j + 1, v9) _ ⟨by omega, hC, hK, hF, h1, hp9, hv9, hm_v9⟩ (by simp only []; omega))
  ·
    obtain rfl : j = 4 := by omega
    rw [hdrTo_all] at hv
    refine TE.exit rfl ?_
    refine TE.seq ?_
    refine TE.region ?_
    refine OL.val (Run.load (i := 0) rfl Tryd.isAgg24 hp (by omega) rfl) rfl ?_
    refine OL.val (Run.rowStr Tryd.underlying24 Tryd.underlying5 Tryd.underlying9 rfl hv) rfl ?_
    refine OL.pure (Pure.assign rfl) rfl ?_
    refine OL.nil ?_
    refine TE.seq ?_
    refine TE.planAll (.cons (0, true) (.cons (1, true) (.cons (4, true) (.cons (5, true) (.cons (7, true) (.cons (8, true) (.cons (9, true) (.cons (2, false) (.cons (3, true) (.cons (6, true) (.cons (10, false) (.cons (11, true) (.cons (12, true) (.cons (13, true) .nil)))))))))))))) (fun w_ => Chg [] w6 w_) rfl (by kernel_rfl) ?_
    have hS7 : Chg [] w6 w6.drew := Chg.drew _ _
    replace hK := hK.chg0 hS7
    replace h1 := h1.chg0 hS7
    replace hC := hC.then_ hS7
    refine PL.takeP rfl (Pure.move rfl) rfl hS7 ?_
    refine PL.takeP rfl (Pure.move rfl) rfl hS7 ?_
    refine PL.takeP rfl (Pure.fieldAddr (r := 3) Tryd.runUnderlying30 rfl Tryd.sizeOf9 rfl rfl) rfl hS7 ?_
    refine PL.takeS (fun w_ => Chg [] w6.drew w_) (fun _ h_ => hS7.then_ h_) rfl (fun w_ h_ => Run.load (i := 3) rfl Tryd.isAgg9 (h1.chg0 h_) (by omega) rfl) rfl (Chg.refl _ _) ?_
    have hP8 : Chg [] w6.drew w6.drew := Chg.refl _ _
    refine PL.takeP rfl (Pure.move rfl) rfl hP8 ?_
    refine PL.takeP rfl (Pure.fieldAddr (r := 3) Tryd.runUnderlying30 rfl Tryd.sizeOf9 rfl rfl) rfl hP8 ?_
    refine PL.takeS (fun w_ => Chg [] w6.drew w_) (fun _ h_ => hP8.then_ h_) rfl (fun w_ h_ => Run.load (i := 3) rfl Tryd.isAgg9 (h1.chg0 h_) (by omega) rfl) rfl (Chg.refl _ _) ?_
    have hP9 : Chg [] w6.drew w6.drew := Chg.refl _ _
    refine PL.call rfl rfl Tryd.call39 rfl (first_any (header f) (by omega) _ hK) ?_
    rintro _ w10 ⟨rfl, hc10⟩
    have hc10s := hP9.then_ hc10
    replace hK := hK.chg0 hc10
    replace h1 := h1.chg0 hc10
    replace hC := hC.then_ hc10
    refine ⟨_, rfl, hc10s, ?_⟩
    refine PL.takeP rfl (Pure.strAdd (l := (header f)) (m := (first (header f))) rfl rfl (by first | omega | (simp only [List.length_append]; omega))) rfl hc10s ?_
    refine PL.takeP rfl (Pure.strAdd (l := ((header f) ++ (first (header f)))) (m := f.payload) rfl rfl (by first | omega | (simp only [List.length_append]; omega))) rfl hc10s ?_
    refine PL.call rfl rfl Tryd.call40 rfl (second_any (header f) f.payload (by omega) (by omega) _ hK) ?_
    rintro _ w11 ⟨rfl, hc11⟩
    have hc11s := hc10s.then_ hc11
    replace hK := hK.chg0 hc11
    replace h1 := h1.chg0 hc11
    replace hC := hC.then_ hc11
    refine ⟨_, rfl, hc11s, ?_⟩
    refine PL.takeP rfl (Pure.strAdd (l := (((header f) ++ (first (header f))) ++ f.payload)) (m := (second (header f) f.payload)) rfl rfl (by first | omega | (simp only [List.length_append]; omega))) rfl hc11s ?_
    refine PL.takeP rfl (Pure.assign rfl) rfl hc11s ?_
    refine PL.takeP rfl (Pure.assign rfl) rfl hc11s ?_
    refine PL.nil ?_
    have hh : (((header f ++ first (header f)) ++ f.payload) ++ second (header f) f.payload) = encode f := by simp [encode]
    exact TE.ret (vs := [.string (str (encode f)), .int .i64 0]) Tryd.results23 (⟨by rw [← hh]; rfl, rfl, trivial⟩) ⟨rfl, hC⟩

end Go.Proofs.YtigjmemoaapmgaaDoor
