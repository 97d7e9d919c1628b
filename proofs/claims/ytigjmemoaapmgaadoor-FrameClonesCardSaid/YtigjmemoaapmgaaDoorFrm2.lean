/- First and Second of both, walked -/
import Derived.Test.YtigjmemoaapmgaaDoorProg
import Derived.Test.YtigjmemoaapmgaaDoorEng6
import Derived.Test.YtigjmemoaapmgaaDoorFrameSpec2
import Derived.Test.YtigjmemoaapmgaaDoorShaT
import Derived.Test.YtigjmemoaapmgaaDoorFrm1
set_option linter.unusedVariables false
set_option maxRecDepth 4000
namespace Go.Proofs.YtigjmemoaapmgaaDoor
open Go.V Go.Sha Go.Frm
theorem first_any {tK : TypeId} (h : List UInt8) (hl : h.length ≤ 2147483648) (w : World) (hK : Blk w 1 tK (iv .u32 K)) : Calls Tryd.prog 39 #[.string (str h)] w (RetC (.string (str (first h))) w) := by
  refine calls_of_TE (vs := [.string (str h)]) Tryd.func39 Tryd.ntmps39 rfl (by simp) ?_
  have hC : Chg [] w w := Chg.refl _ _
  have h0w : 1 < w.heap.size := hK.lt
  refine TE.seq ?_
  refine TE.region ?_
  refine OL.pure (Pure.assign rfl) rfl ?_
  refine OL.nil ?_
  refine TE.seq ?_
  refine TE.region ?_
  refine OL.pure (Pure.move rfl) rfl ?_
  refine OL.buildSlice (cs := tv [h]) rfl Tryd.runUnderlying22 Tryd.sizeOf9 Tryd.zeroValue9 (by decide) (by decide) (by kernel_rfl) rfl ?_
  intro sl w1 hs hc1 hg_sl
  have lt_1_sl : 1 < sl := by have := hK.lt; omega
  have ge_sl : w.heap.size ≤ sl := by have := hC.size; omega
  replace hK := hK.chg0 hc1
  replace hC := hC.then_ hc1
  have hjb : (jparts [h]).length ≤ 4294967200 := by simp [jparts, jpart_len]; omega
  refine OL.call rfl Tryd.call47 rfl (tagged_any 10 _ 1 [h] (by simp) hjb _ hK (Cells.of_blk hs)) ?_
  rintro _ w2 ⟨rfl, hc2⟩
  replace hK := hK.chg0 hc2
  replace hs := hs.chg0 hc2
  replace hC := hC.then_ hc2
  refine ⟨_, rfl, ?_⟩
  refine OL.pure (Pure.move rfl) rfl ?_
  refine OL.pure (Pure.extract (vs := [.agg (iv .u8 (sum (join 10 [h]))).toArray, .int .i64 0]) (i := 0) rfl rfl) rfl ?_
  refine OL.pure (Pure.extract (vs := [.agg (iv .u8 (sum (join 10 [h]))).toArray, .int .i64 0]) (i := 1) rfl rfl) rfl ?_
  refine OL.alloc Tryd.zeroValue98 rfl ?_
  intro gd w3 hd hc3 hg_gd
  have lt_1_gd : 1 < gd := by have := hK.lt; omega
  have lt_sl_gd : sl < gd := by have := hs.lt; omega
  have ge_gd : w.heap.size ≤ gd := by have := hC.size; omega
  replace hK := hK.chg0 hc3
  replace hs := hs.chg0 hc3
  replace hC := hC.then_ hc3
  have hd : Blk w3 gd 98 (iv .u8 (List.replicate 32 0)) := hd
  refine OL.storeRow (vs := iv .u8 (sum (join 10 [h]))) rfl rfl (rfl) (by simp only [iv, List.mem_map]; rintro _ ⟨x, _, rfl⟩; rfl) hd (Nat.le_refl 32) ?_
  intro w4 hb4 hc4
  replace hK := hK.chg hc4 (by simp; omega)
  replace hs := hs.chg hc4 (by simpa using hs.ne hd (by decide))
  replace hC := hC.trans1 hc4 (by first | exact .inr (by omega) | exact .inl (by simp))
  replace hd := hb4
  replace hd := hd.all rfl
  refine OL.pure (Pure.assign rfl) rfl ?_
  refine OL.nil ?_
  refine TE.seq ?_
  refine TE.region ?_
  refine OL.pure (Pure.sliceArrTo (q := 8) Tryd.runUnderlying98 Tryd.sizeOf5 rfl rfl rfl (by decide)) rfl ?_
  refine OL.val (Run.toStr (bs := first h) Tryd.underlying24 Tryd.underlying5 Tryd.underlying9 rfl hd (by rw [first_len]) (bytesOf_cells (sum_ok _) 8)) rfl ?_
  refine OL.pure (Pure.assign rfl) rfl ?_
  refine OL.nil ?_
  exact TE.ret (vs := [.string (str (first h))]) Tryd.results39 (⟨rfl, trivial⟩) ⟨rfl, hC⟩

theorem second_any {tK : TypeId} (h q : List UInt8) (hl : h.length ≤ 1073741824) (hq : q.length ≤ 1073741824) (w : World) (hK : Blk w 1 tK (iv .u32 K)) : Calls Tryd.prog 40 #[.string (str h), .string (str q)] w (RetC (.string (str (second h q))) w) := by
  refine calls_of_TE (vs := [.string (str h), .string (str q)]) Tryd.func40 Tryd.ntmps40 rfl (by simp) ?_
  have hC : Chg [] w w := Chg.refl _ _
  have h0w : 1 < w.heap.size := hK.lt
  refine TE.seq ?_
  refine TE.region ?_
  refine OL.pure (Pure.assign rfl) rfl ?_
  refine OL.nil ?_
  refine TE.seq ?_
  refine TE.region ?_
  refine OL.pure (Pure.move rfl) rfl ?_
  refine OL.pure (Pure.move rfl) rfl ?_
  refine OL.buildSlice (cs := tv [h, q]) rfl Tryd.runUnderlying22 Tryd.sizeOf9 Tryd.zeroValue9 (by decide) (by decide) (by kernel_rfl) rfl ?_
  intro sl w1 hs hc1 hg_sl
  have lt_1_sl : 1 < sl := by have := hK.lt; omega
  have ge_sl : w.heap.size ≤ sl := by have := hC.size; omega
  replace hK := hK.chg0 hc1
  replace hC := hC.then_ hc1
  have hjb : (jparts [h, q]).length ≤ 4294967200 := by simp [jparts, jpart_len]; omega
  refine OL.call rfl Tryd.call47 rfl (tagged_any 11 _ 2 [h, q] (by simp) hjb _ hK (Cells.of_blk hs)) ?_
  rintro _ w2 ⟨rfl, hc2⟩
  replace hK := hK.chg0 hc2
  replace hs := hs.chg0 hc2
  replace hC := hC.then_ hc2
  refine ⟨_, rfl, ?_⟩
  refine OL.pure (Pure.move rfl) rfl ?_
  refine OL.pure (Pure.extract (vs := [.agg (iv .u8 (sum (join 11 [h, q]))).toArray, .int .i64 0]) (i := 0) rfl rfl) rfl ?_
  refine OL.pure (Pure.extract (vs := [.agg (iv .u8 (sum (join 11 [h, q]))).toArray, .int .i64 0]) (i := 1) rfl rfl) rfl ?_
  refine OL.alloc Tryd.zeroValue98 rfl ?_
  intro gd w3 hd hc3 hg_gd
  have lt_1_gd : 1 < gd := by have := hK.lt; omega
  have lt_sl_gd : sl < gd := by have := hs.lt; omega
  have ge_gd : w.heap.size ≤ gd := by have := hC.size; omega
  replace hK := hK.chg0 hc3
  replace hs := hs.chg0 hc3
  replace hC := hC.then_ hc3
  have hd : Blk w3 gd 98 (iv .u8 (List.replicate 32 0)) := hd
  refine OL.storeRow (vs := iv .u8 (sum (join 11 [h, q]))) rfl rfl (rfl) (by simp only [iv, List.mem_map]; rintro _ ⟨x, _, rfl⟩; rfl) hd (Nat.le_refl 32) ?_
  intro w4 hb4 hc4
  replace hK := hK.chg hc4 (by simp; omega)
  replace hs := hs.chg hc4 (by simpa using hs.ne hd (by decide))
  replace hC := hC.trans1 hc4 (by first | exact .inr (by omega) | exact .inl (by simp))
  replace hd := hb4
  replace hd := hd.all rfl
  refine OL.pure (Pure.assign rfl) rfl ?_
  refine OL.nil ?_
  refine TE.seq ?_
  refine TE.region ?_
  refine OL.pure (Pure.sliceArrTo (q := 16) Tryd.runUnderlying98 Tryd.sizeOf5 rfl rfl rfl (by decide)) rfl ?_
  refine OL.val (Run.toStr (bs := second h q) Tryd.underlying24 Tryd.underlying5 Tryd.underlying9 rfl hd (by rw [second_len]) (bytesOf_cells (sum_ok _) 16)) rfl ?_
  refine OL.pure (Pure.assign rfl) rfl ?_
  refine OL.nil ?_
  exact TE.ret (vs := [.string (str (second h q))]) Tryd.results40 (⟨rfl, trivial⟩) ⟨rfl, hC⟩

theorem rfirst_any (h : List UInt8) (hl : h.length ≤ 2147483648) (w : World) : Calls Tryd.prog 17 #[.string (str h)] w (RetC (.string (str (first h))) w) := by
  refine calls_of_TE (vs := [.string (str h)]) Tryd.func17 Tryd.ntmps17 rfl (by simp) ?_
  have hC : Chg [] w w := Chg.refl _ _
  refine TE.seq ?_
  refine TE.region ?_
  refine OL.pure (Pure.assign rfl) rfl ?_
  refine OL.nil ?_
  refine TE.seq ?_
  refine TE.region ?_
  refine OL.pure (Pure.move rfl) rfl ?_
  refine OL.buildSlice (cs := tv [h]) rfl Tryd.runUnderlying22 Tryd.sizeOf9 Tryd.zeroValue9 (by decide) (by decide) (by kernel_rfl) rfl ?_
  intro sl w1 hs hc1 hg_sl
  have ge_sl : w.heap.size ≤ sl := by have := hC.size; omega
  replace hC := hC.then_ hc1
  have hjb : (jparts [h]).length ≤ 4294967200 := by simp [jparts, jpart_len]; omega
  refine OL.call rfl Tryd.call42 rfl (rtagged_any 10 _ 1 [h] (by simp) hjb _ (Cells.of_blk hs)) ?_
  rintro _ w2 ⟨rfl, hc2⟩
  replace hs := hs.chg0 hc2
  replace hC := hC.then_ hc2
  refine ⟨_, rfl, ?_⟩
  refine OL.alloc Tryd.zeroValue90 rfl ?_
  intro gd w3 hd hc3 hg_gd
  have lt_sl_gd : sl < gd := by have := hs.lt; omega
  have ge_gd : w.heap.size ≤ gd := by have := hC.size; omega
  replace hs := hs.chg0 hc3
  replace hC := hC.then_ hc3
  have hd : Blk w3 gd 90 (iv .u8 (List.replicate 32 0)) := hd
  refine OL.storeRow (vs := iv .u8 (sum (join 10 [h]))) rfl rfl (rfl) (by simp only [iv, List.mem_map]; rintro _ ⟨x, _, rfl⟩; rfl) hd (Nat.le_refl 32) ?_
  intro w4 hb4 hc4
  replace hs := hs.chg hc4 (by simpa using hs.ne hd (by decide))
  replace hC := hC.trans1 hc4 (by first | exact .inr (by omega) | exact .inl (by simp))
  replace hd := hb4
  replace hd := hd.all rfl
  refine OL.nil ?_
  refine TE.seq ?_
  refine TE.region ?_
  refine OL.pure (Pure.sliceArrTo (q := 8) Tryd.runUnderlying90 Tryd.sizeOf5 rfl rfl rfl (by decide)) rfl ?_
  refine OL.val (Run.toStr (bs := first h) Tryd.underlying24 Tryd.underlying5 Tryd.underlying9 rfl hd (by rw [first_len]) (bytesOf_cells (sum_ok _) 8)) rfl ?_
  refine OL.pure (Pure.assign rfl) rfl ?_
  refine OL.nil ?_
  exact TE.ret (vs := [.string (str (first h))]) Tryd.results17 (⟨rfl, trivial⟩) ⟨rfl, hC⟩

theorem rsecond_any (h q : List UInt8) (hl : h.length ≤ 1073741824) (hq : q.length ≤ 1073741824) (w : World) : Calls Tryd.prog 22 #[.string (str h), .string (str q)] w (RetC (.string (str (second h q))) w) := by
  refine calls_of_TE (vs := [.string (str h), .string (str q)]) Tryd.func22 Tryd.ntmps22 rfl (by simp) ?_
  have hC : Chg [] w w := Chg.refl _ _
  refine TE.seq ?_
  refine TE.region ?_
  refine OL.pure (Pure.assign rfl) rfl ?_
  refine OL.nil ?_
  refine TE.seq ?_
  refine TE.region ?_
  refine OL.pure (Pure.move rfl) rfl ?_
  refine OL.pure (Pure.move rfl) rfl ?_
  refine OL.buildSlice (cs := tv [h, q]) rfl Tryd.runUnderlying22 Tryd.sizeOf9 Tryd.zeroValue9 (by decide) (by decide) (by kernel_rfl) rfl ?_
  intro sl w1 hs hc1 hg_sl
  have ge_sl : w.heap.size ≤ sl := by have := hC.size; omega
  replace hC := hC.then_ hc1
  have hjb : (jparts [h, q]).length ≤ 4294967200 := by simp [jparts, jpart_len]; omega
  refine OL.call rfl Tryd.call42 rfl (rtagged_any 11 _ 2 [h, q] (by simp) hjb _ (Cells.of_blk hs)) ?_
  rintro _ w2 ⟨rfl, hc2⟩
  replace hs := hs.chg0 hc2
  replace hC := hC.then_ hc2
  refine ⟨_, rfl, ?_⟩
  refine OL.alloc Tryd.zeroValue90 rfl ?_
  intro gd w3 hd hc3 hg_gd
  have lt_sl_gd : sl < gd := by have := hs.lt; omega
  have ge_gd : w.heap.size ≤ gd := by have := hC.size; omega
  replace hs := hs.chg0 hc3
  replace hC := hC.then_ hc3
  have hd : Blk w3 gd 90 (iv .u8 (List.replicate 32 0)) := hd
  refine OL.storeRow (vs := iv .u8 (sum (join 11 [h, q]))) rfl rfl (rfl) (by simp only [iv, List.mem_map]; rintro _ ⟨x, _, rfl⟩; rfl) hd (Nat.le_refl 32) ?_
  intro w4 hb4 hc4
  replace hs := hs.chg hc4 (by simpa using hs.ne hd (by decide))
  replace hC := hC.trans1 hc4 (by first | exact .inr (by omega) | exact .inl (by simp))
  replace hd := hb4
  replace hd := hd.all rfl
  refine OL.nil ?_
  refine TE.seq ?_
  refine TE.region ?_
  refine OL.pure (Pure.sliceArrTo (q := 16) Tryd.runUnderlying90 Tryd.sizeOf5 rfl rfl rfl (by decide)) rfl ?_
  refine OL.val (Run.toStr (bs := second h q) Tryd.underlying24 Tryd.underlying5 Tryd.underlying9 rfl hd (by rw [second_len]) (bytesOf_cells (sum_ok _) 16)) rfl ?_
  refine OL.pure (Pure.assign rfl) rfl ?_
  refine OL.nil ?_
  exact TE.ret (vs := [.string (str (second h q))]) Tryd.results22 (⟨rfl, trivial⟩) ⟨rfl, hC⟩

end Go.Proofs.YtigjmemoaapmgaaDoor
