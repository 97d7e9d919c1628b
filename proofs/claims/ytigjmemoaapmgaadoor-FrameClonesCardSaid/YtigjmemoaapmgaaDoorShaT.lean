/- Tagged and its reference, walked -/
import Derived.Test.YtigjmemoaapmgaaDoorProg
import Derived.Test.YtigjmemoaapmgaaDoorEng4
import Derived.Test.YtigjmemoaapmgaaDoorShaSpec4
import Derived.Test.YtigjmemoaapmgaaDoorSha4
import Derived.Test.YtigjmemoaapmgaaDoorShaJ
set_option linter.unusedVariables false
set_option maxRecDepth 4000
namespace Go.Proofs.YtigjmemoaapmgaaDoor
open Go.V Go.Sha
theorem tagged_any {tK : TypeId} (t : UInt8) (A : Option Addr) (cap : Nat) (L : List (List UInt8)) (hl : L.length ≤ 255) (hb : (jparts L).length ≤ 4294967200) (w : World) (hK : Blk w 1 tK (iv .u32 K)) (hA : Cells w A L) : Calls Tryd.prog 47 #[.int .u8 ((t.toNat : Nat) : Int), .slice A L.length cap] w (RetC (.tuple #[.agg (iv .u8 (sum (join t L))).toArray, .int .i64 0]) w) := by
  refine calls_of_TE (vs := [.int .u8 ((t.toNat : Nat) : Int), .slice A L.length cap]) Tryd.func47 Tryd.ntmps47 rfl (by simp) ?_
  have hC : Chg [] w w := Chg.refl _ _
  refine TE.seq ?_
  refine TE.region ?_
  refine OL.alloc Tryd.zeroValue98 rfl ?_
  intro gr w1 hr hc1 hg_gr
  have lt_1_gr : 1 < gr := by have := hK.lt; omega
  have nb_hA_gr := hA.fresh (g := gr) (by omega)
  have ge_gr : w.heap.size ≤ gr := by have := hC.size; omega
  replace hK := hK.chg0 hc1
  replace hA := hA.chg0 hc1
  replace hC := hC.then_ hc1
  have hr : Blk w1 gr 98 (iv .u8 (List.replicate 32 0)) := hr
  refine OL.pure (Pure.assign rfl) rfl ?_
  refine OL.nil ?_
  refine TE.seq ?_
  refine TE.region ?_
  refine OL.pure (Pure.move rfl) rfl ?_
  refine OL.pure (Pure.move rfl) rfl ?_
  refine OL.call rfl Tryd.call50 rfl (join_any t A cap L hl (by omega) _ hA) ?_
  rintro _ w2 ⟨rfl, hc2⟩
  replace hK := hK.chg0 hc2
  replace hA := hA.chg0 hc2
  replace hr := hr.chg0 hc2
  replace hC := hC.then_ hc2
  refine ⟨_, rfl, ?_⟩
  have hjl : (join t L).length ≤ 4294967296 := by rw [join_len]; omega
  refine OL.pure (Pure.move rfl) rfl ?_
  refine OL.pure (Pure.extract (vs := [.string (str (join t L)), .int .i64 0]) (i := 0) rfl rfl) rfl ?_
  refine OL.pure (Pure.extract (vs := [.string (str (join t L)), .int .i64 0]) (i := 1) rfl rfl) rfl ?_
  refine OL.pure (Pure.assign rfl) rfl ?_
  refine OL.pure (Pure.assign rfl) rfl ?_
  refine OL.nil ?_
  refine TE.seq ?_
  refine TE.seq ?_
  refine TE.region ?_
  refine OL.pure (Pure.move rfl) rfl ?_
  refine OL.pure (Pure.neq rfl rfl) rfl ?_
  refine OL.cast (.bool false) 15 rfl (rfl) ?_
  refine OL.nil ?_
  refine TE.condF rfl rfl ?_
  refine TE.skip ?_
  refine TE.seq ?_
  refine TE.region ?_
  refine OL.pure (Pure.move rfl) rfl ?_
  refine OL.call rfl Tryd.call51 rfl (sum_any _ hjl _ hK) ?_
  rintro _ w3 ⟨rfl, hc3⟩
  replace hK := hK.chg0 hc3
  replace hA := hA.chg0 hc3
  replace hr := hr.chg0 hc3
  replace hC := hC.then_ hc3
  refine ⟨_, rfl, ?_⟩
  refine OL.storeRow (vs := iv .u8 (sum (join t L))) rfl rfl (rfl) (by simp only [iv, List.mem_map]; rintro _ ⟨x, _, rfl⟩; rfl) hr (Nat.le_refl 32) ?_
  intro w4 hb4 hc4
  replace hK := hK.chg hc4 (by simp; omega)
  replace hA := hA.chg hc4 nb_hA_gr
  replace hC := hC.trans1 hc4 (by first | exact .inr (by omega) | exact .inl (by simp))
  replace hr := hb4
  replace hr := hr.all rfl
  refine OL.pure (Pure.assign rfl) rfl ?_
  refine OL.nil ?_
  exact TE.ret (vs := [.agg (iv .u8 (sum (join t L))).toArray, .int .i64 0]) Tryd.results47 (⟨⟨_, rfl, loadRow_at Tryd.underlying98 rfl rfl hr rfl⟩, rfl, trivial⟩) ⟨rfl, hC⟩

theorem tagged_big {tK : TypeId} (t : UInt8) (A : Option Addr) (cap : Nat) (L : List (List UInt8)) (hl : 255 < L.length) (w : World) (hK : Blk w 1 tK (iv .u32 K)) (hA : Cells w A L) : Calls Tryd.prog 47 #[.int .u8 ((t.toNat : Nat) : Int), .slice A L.length cap] w (RetC (.tuple #[.agg (iv .u8 (List.replicate 32 0)).toArray, .int .i64 9]) w) := by
  refine calls_of_TE (vs := [.int .u8 ((t.toNat : Nat) : Int), .slice A L.length cap]) Tryd.func47 Tryd.ntmps47 rfl (by simp) ?_
  have hC : Chg [] w w := Chg.refl _ _
  refine TE.seq ?_
  refine TE.region ?_
  refine OL.alloc Tryd.zeroValue98 rfl ?_
  intro gr w1 hr hc1 hg_gr
  have lt_1_gr : 1 < gr := by have := hK.lt; omega
  have nb_hA_gr := hA.fresh (g := gr) (by omega)
  have ge_gr : w.heap.size ≤ gr := by have := hC.size; omega
  replace hK := hK.chg0 hc1
  replace hA := hA.chg0 hc1
  replace hC := hC.then_ hc1
  have hr : Blk w1 gr 98 (iv .u8 (List.replicate 32 0)) := hr
  refine OL.pure (Pure.assign rfl) rfl ?_
  refine OL.nil ?_
  refine TE.seq ?_
  refine TE.region ?_
  refine OL.pure (Pure.move rfl) rfl ?_
  refine OL.pure (Pure.move rfl) rfl ?_
  refine OL.call rfl Tryd.call50 rfl (join_big t A cap L hl _) ?_
  rintro _ w2 ⟨rfl, hc2⟩
  replace hK := hK.chg0 hc2
  replace hA := hA.chg0 hc2
  replace hr := hr.chg0 hc2
  replace hC := hC.then_ hc2
  refine ⟨_, rfl, ?_⟩
  refine OL.pure (Pure.move rfl) rfl ?_
  refine OL.pure (Pure.extract (vs := [.string (str []), .int .i64 9]) (i := 0) rfl rfl) rfl ?_
  refine OL.pure (Pure.extract (vs := [.string (str []), .int .i64 9]) (i := 1) rfl rfl) rfl ?_
  refine OL.pure (Pure.assign rfl) rfl ?_
  refine OL.pure (Pure.assign rfl) rfl ?_
  refine OL.nil ?_
  refine TE.seq ?_
  refine TE.seq ?_
  refine TE.region ?_
  refine OL.pure (Pure.move rfl) rfl ?_
  refine OL.pure (Pure.neq rfl rfl) rfl ?_
  refine OL.cast (.bool true) 15 rfl (rfl) ?_
  refine OL.nil ?_
  refine TE.condT rfl rfl ?_
  refine TE.seq ?_
  refine TE.region ?_
  refine OL.pure (Pure.build (cs := iv .u8 (List.replicate 32 0)) rfl (by kernel_rfl)) rfl ?_
  refine OL.pure (Pure.move rfl) rfl ?_
  refine OL.storeRow (vs := iv .u8 (List.replicate 32 0)) rfl rfl (rfl) (by simp only [iv, List.mem_map]; rintro _ ⟨x, _, rfl⟩; rfl) hr (Nat.le_refl 32) ?_
  intro w3 hb3 hc3
  replace hK := hK.chg hc3 (by simp; omega)
  replace hA := hA.chg hc3 nb_hA_gr
  replace hC := hC.trans1 hc3 (by first | exact .inr (by omega) | exact .inl (by simp))
  replace hr := hb3
  replace hr := hr.all rfl
  refine OL.pure (Pure.assign rfl) rfl ?_
  refine OL.nil ?_
  exact TE.ret (vs := [.agg (iv .u8 (List.replicate 32 0)).toArray, .int .i64 9]) Tryd.results47 (⟨⟨_, rfl, loadRow_at Tryd.underlying98 rfl rfl hr rfl⟩, rfl, trivial⟩) ⟨rfl, hC⟩

theorem rtagged_any (t : UInt8) (A : Option Addr) (cap : Nat) (L : List (List UInt8)) (hl : L.length ≤ 255) (hb : (jparts L).length ≤ 4294967200) (w : World) (hA : Cells w A L) : Calls Tryd.prog 42 #[.int .u8 ((t.toNat : Nat) : Int), .slice A L.length cap] w (RetC (.agg (iv .u8 (sum (join t L))).toArray) w) := by
  refine calls_of_TE (vs := [.int .u8 ((t.toNat : Nat) : Int), .slice A L.length cap]) Tryd.func42 Tryd.ntmps42 rfl (by simp) ?_
  have hC : Chg [] w w := Chg.refl _ _
  refine TE.seq ?_
  refine TE.region ?_
  refine OL.alloc Tryd.zeroValue90 rfl ?_
  intro gr w1 hr hc1 hg_gr
  have nb_hA_gr := hA.fresh (g := gr) (by omega)
  have ge_gr : w.heap.size ≤ gr := by have := hC.size; omega
  replace hA := hA.chg0 hc1
  replace hC := hC.then_ hc1
  have hr : Blk w1 gr 90 (iv .u8 (List.replicate 32 0)) := hr
  refine OL.nil ?_
  refine TE.seq ?_
  refine TE.region ?_
  refine OL.pure (Pure.move rfl) rfl ?_
  refine OL.pure (Pure.move rfl) rfl ?_
  refine OL.call rfl Tryd.call21 rfl (rjoin_any t A cap L hl (by omega) _ hA) ?_
  rintro _ w2 ⟨rfl, hc2⟩
  replace hA := hA.chg0 hc2
  replace hr := hr.chg0 hc2
  replace hC := hC.then_ hc2
  refine ⟨_, rfl, ?_⟩
  have hjl : (join t L).length ≤ 4294967296 := by rw [join_len]; omega
  refine OL.pure (Pure.move rfl) rfl ?_
  refine OL.pure (Pure.extract (vs := [.string (str (join t L)), .int .i64 0]) (i := 0) rfl rfl) rfl ?_
  refine OL.pure (Pure.extract (vs := [.string (str (join t L)), .int .i64 0]) (i := 1) rfl rfl) rfl ?_
  refine OL.pure (Pure.assign rfl) rfl ?_
  refine OL.pure (Pure.assign rfl) rfl ?_
  refine OL.nil ?_
  refine TE.seq ?_
  refine TE.region ?_
  refine OL.pure (Pure.move rfl) rfl ?_
  refine OL.call rfl Tryd.call48 rfl (rsum_any _ hjl _) ?_
  rintro _ w3 ⟨rfl, hc3⟩
  replace hA := hA.chg0 hc3
  replace hr := hr.chg0 hc3
  replace hC := hC.then_ hc3
  refine ⟨_, rfl, ?_⟩
  refine OL.storeRow (vs := iv .u8 (sum (join t L))) rfl rfl (rfl) (by simp only [iv, List.mem_map]; rintro _ ⟨x, _, rfl⟩; rfl) hr (Nat.le_refl 32) ?_
  intro w4 hb4 hc4
  replace hA := hA.chg hc4 nb_hA_gr
  replace hC := hC.trans1 hc4 (by first | exact .inr (by omega) | exact .inl (by simp))
  replace hr := hb4
  replace hr := hr.all rfl
  refine OL.nil ?_
  exact TE.ret (vs := [.agg (iv .u8 (sum (join t L))).toArray]) Tryd.results42 (⟨⟨_, rfl, loadRow_at Tryd.underlying90 rfl rfl hr rfl⟩, trivial⟩) ⟨rfl, hC⟩

end Go.Proofs.YtigjmemoaapmgaaDoor
