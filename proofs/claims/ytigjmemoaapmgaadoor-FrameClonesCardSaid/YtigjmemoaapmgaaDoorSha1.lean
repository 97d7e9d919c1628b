/- sha256.block, walked -/
import Derived.Test.YtigjmemoaapmgaaDoorProg
import Derived.Test.YtigjmemoaapmgaaDoorEng
import Derived.Test.YtigjmemoaapmgaaDoorShaSpec
set_option linter.unusedVariables false
set_option maxRecDepth 4000
namespace Go.Proofs.YtigjmemoaapmgaaDoor
open Go.V Go.Sha
theorem and31 (m : Nat) (h0 : 0 < m) (h1 : m < 32) : Go.bits .and .u64 (IntKind.u64.wrap (-(m : Int))) 31 = 32 - (m : Int) := by
  have key : ∀ m : Fin 32, 0 < m.val → Go.bits .and .u64 (IntKind.u64.wrap (-(m.val : Int))) 31 = 32 - (m.val : Int) := by decide
  exact key ⟨m, h1⟩ h0

theorem rotl_any (x : Int) (m : Nat) (h0 : 0 < m) (h1 : m < 32) (w : World) : Calls Tryd.prog 62 #[.int .u32 x, .int .i64 (-(m : Int))] w (Ret (.int .u32 (rotr m x)) w) := by
  refine calls_of_TE (vs := [.int .u32 x, .int .i64 (-(m : Int))]) Tryd.func62 Tryd.ntmps62 rfl (by simp) ?_
  refine TE.seq ?_
  refine TE.region ?_
  refine OL.pure (Pure.assign rfl) rfl ?_
  refine OL.nil ?_
  refine TE.seq ?_
  refine TE.region ?_
  refine OL.pure (Pure.move rfl) rfl ?_
  refine OL.pure (Pure.conv Tryd.runUnderlying3 Tryd.runUnderlying88 rfl rfl) rfl ?_
  refine OL.pure (Pure.bits rfl rfl rfl) rfl ?_
  refine OL.cast (.int .u64 (32 - (m : Int))) 8 rfl (congrArg _ (and31 m h0 h1)) ?_
  refine OL.pure (Pure.assign rfl) rfl ?_
  refine OL.nil ?_
  refine TE.seq ?_
  refine TE.region ?_
  refine OL.pure (Pure.move rfl) rfl ?_
  refine OL.pure (Pure.move rfl) rfl ?_
  refine OL.pure (Pure.shl (p := 2 ^ (32 - m)) rfl rfl (by omega) (by congr 1; simp [IntKind.bits]) (u32w _)) rfl ?_
  refine OL.pure (Pure.move rfl) rfl ?_
  refine OL.pure (Pure.move rfl) rfl ?_
  refine OL.pure (Pure.sub rfl rfl (u64in (by omega) (by omega))) rfl ?_
  refine OL.pure (Pure.shr (p := 2 ^ m) rfl rfl (by omega) (by congr 1; simp [IntKind.bits]; omega)) rfl ?_
  refine OL.pure (Pure.bits rfl rfl rfl) rfl ?_
  refine OL.pure (Pure.assign rfl) rfl ?_
  refine OL.nil ?_
  exact TE.ret (vs := [.int .u32 (rotr m x)]) Tryd.results62 (⟨rfl, trivial⟩) ⟨rfl, rfl⟩

theorem right_any (x : Int) (m : Nat) (h0 : 0 < m) (h1 : m < 32) (w : World) : Calls Tryd.prog 61 #[.int .i64 (m : Int), .int .u32 x] w (Ret (.int .u32 (rotr m x)) w) := by
  refine calls_of_TE (vs := [.int .i64 (m : Int), .int .u32 x]) Tryd.func61 Tryd.ntmps61 rfl (by simp) ?_
  refine TE.seq ?_
  refine TE.region ?_
  refine OL.pure (Pure.assign rfl) rfl ?_
  refine OL.nil ?_
  refine TE.seq ?_
  refine TE.region ?_
  refine OL.pure (Pure.move rfl) rfl ?_
  refine OL.pure (Pure.move rfl) rfl ?_
  refine OL.pure (Pure.neg rfl (i64 (by omega) (by omega) |>.trans (Int.zero_sub _))) rfl ?_
  refine OL.call rfl Tryd.call62 rfl (rotl_any x m h0 h1 _) ?_
  rintro _ _ ⟨rfl, rfl⟩
  refine ⟨_, rfl, ?_⟩
  refine OL.pure (Pure.assign rfl) rfl ?_
  refine OL.nil ?_
  exact TE.ret (vs := [.int .u32 (rotr m x)]) Tryd.results61 (⟨rfl, trivial⟩) ⟨rfl, rfl⟩

set_option maxHeartbeats 1000000 in
theorem block_any {tK : TypeId} (s : S8) (l : List UInt8) (hl : l.length = 64) (w : World) (hK : Blk w 1 tK (iv .u32 K)) : Calls Tryd.prog 60 #[.agg (sv s).toArray, .string (str l)] w (RetC (.agg (sv (comp s (bt l))).toArray) w) := by
  refine calls_of_TE (vs := [.agg (sv s).toArray, .string (str l)]) Tryd.func60 Tryd.ntmps60 rfl (by simp) ?_
  have hC : Chg [] w w := Chg.refl _ _
  refine TE.seq ?_
  refine TE.region ?_
  refine OL.box rfl rfl ?_
  intro gs w1 hs hc1 hg_gs
  have lt_1_gs : 1 < gs := by have := hK.lt; omega
  have ge_gs : w.heap.size ≤ gs := by have := hC.size; omega
  replace hK := hK.chg0 hc1
  replace hC := hC.then_ hc1
  have hs : Blk w1 gs 106 (sv s) := hs
  refine OL.alloc Tryd.zeroValue106 rfl ?_
  intro gr w2 hr hc2 hg_gr
  have lt_1_gr : 1 < gr := by have := hK.lt; omega
  have lt_gs_gr : gs < gr := by have := hs.lt; omega
  have ge_gr : w.heap.size ≤ gr := by have := hC.size; omega
  replace hK := hK.chg0 hc2
  replace hs := hs.chg0 hc2
  replace hC := hC.then_ hc2
  refine OL.nil ?_
  refine TE.seq ?_
  refine TE.region ?_
  refine OL.alloc Tryd.zeroValue113 rfl ?_
  intro gw w3 hw hc3 hg_gw
  have lt_1_gw : 1 < gw := by have := hK.lt; omega
  have lt_gs_gw : gs < gw := by have := hs.lt; omega
  have lt_gr_gw : gr < gw := by have := hr.lt; omega
  have ge_gw : w.heap.size ≤ gw := by have := hC.size; omega
  replace hK := hK.chg0 hc3
  replace hs := hs.chg0 hc3
  replace hr := hr.chg0 hc3
  replace hC := hC.then_ hc3
  have hw : Blk w3 gw 113 (iv .u32 (schedTo (bt l) 0)) := hw
  refine OL.nil ?_
  refine TE.seq ?_
  refine TE.seq ?_
  refine TE.region ?_
  refine OL.pure (Pure.move rfl) rfl ?_
  refine OL.nil ?_
  refine TE.block ?_
  refine TE.loopInv (σ := Nat) [1, 2, 4, 5, 17] (fun s_ w_ => s_ ≤ 16 ∧ Chg [] w w_ ∧ Blk w_ gs 106 (sv s) ∧ Blk w_ gr 106 (sv zero8) ∧ Blk w_ 1 tK (iv .u32 K) ∧ Blk w_ gw 113 (iv .u32 (schedTo (bt l) s_))) (fun s_ => [(1, .string (str l)), (2, .pointer (some ⟨gs, 0, none⟩)), (4, .pointer (some ⟨gr, 0, none⟩)), (5, .pointer (some ⟨gw, 0, none⟩)), (17, .int .i64 (↑s_))]) (fun s_ => 16 - s_) 0 ⟨by omega, hC, hs, hr, hK, hw⟩ rfl ?_
  rintro t w4 ⟨ht, hC, hs, hr, hK, hw⟩ ih4
  refine TE.seq ?_
  refine TE.region ?_
  refine OL.pure (Pure.lss rfl rfl) rfl ?_
  refine OL.nil ?_
  refine TE.seq ?_
  refine TE.ite rfl (fun hlt => ?_) (fun hlt => ?_)
  ·
    refine TE.skip ?_
    refine TE.seq ?_
    refine TE.block ?_
    refine TE.seq ?_
    refine TE.region ?_
    refine OL.pure (Pure.move rfl) rfl ?_
    refine OL.pure (Pure.assign rfl) rfl ?_
    refine OL.nil ?_
    refine TE.plan 31 (.cons (0, true) (.cons (1, true) (.cons (2, true) (.cons (3, true) (.cons (4, true) (.cons (5, true) (.cons (6, true) (.cons (7, true) (.cons (8, true) (.cons (9, true) (.cons (10, true) (.cons (11, true) (.cons (12, true) (.cons (13, true) (.cons (14, true) (.cons (15, true) (.cons (16, true) (.cons (17, true) (.cons (18, true) (.cons (19, true) (.cons (20, true) (.cons (21, true) (.cons (22, true) (.cons (23, true) (.cons (24, true) (.cons (25, true) (.cons (26, true) (.cons (27, true) (.cons (28, true) (.cons (29, true) (.cons (30, true) .nil))))))))))))))))))))))))))))))) (fun w_ => Chg [] w4 w_) rfl (by kernel_rfl) rfl ?_
    have hS5 : Chg [] w4 w4.drew := Chg.drew _ _
    refine PL.takeP rfl (Pure.move rfl) rfl hS5 ?_
    refine PL.takeP rfl (Pure.move rfl) rfl hS5 ?_
    refine PL.takeP rfl (Pure.move rfl) rfl hS5 ?_
    refine PL.takeP rfl (Pure.mul rfl rfl (i64 (by omega) (by omega))) rfl hS5 ?_
    refine PL.takeP rfl (Pure.indexStr (j := 4 * t) Tryd.runUnderlying9 rfl rfl (by omega) (by omega)) rfl hS5 ?_
    refine PL.takeP rfl (Pure.conv Tryd.runUnderlying5 Tryd.runUnderlying105 rfl (u32bt _ _)) rfl hS5 ?_
    refine PL.takeP rfl (Pure.shl (p := 16777216) rfl rfl (by decide) (by decide) (u32w _)) rfl hS5 ?_
    refine PL.takeP rfl (Pure.move rfl) rfl hS5 ?_
    refine PL.takeP rfl (Pure.move rfl) rfl hS5 ?_
    refine PL.takeP rfl (Pure.mul rfl rfl (i64 (by omega) (by omega))) rfl hS5 ?_
    refine PL.takeP rfl (Pure.add rfl rfl (i64 (by omega) (by omega))) rfl hS5 ?_
    refine PL.takeP rfl (Pure.indexStr (j := 4 * t + 1) Tryd.runUnderlying9 rfl rfl (by omega) (by omega)) rfl hS5 ?_
    refine PL.takeP rfl (Pure.conv Tryd.runUnderlying5 Tryd.runUnderlying105 rfl (u32bt _ _)) rfl hS5 ?_
    refine PL.takeP rfl (Pure.shl (p := 65536) rfl rfl (by decide) (by decide) (u32w _)) rfl hS5 ?_
    refine PL.takeP rfl (Pure.bits rfl rfl rfl) rfl hS5 ?_
    refine PL.takeP rfl (Pure.move rfl) rfl hS5 ?_
    refine PL.takeP rfl (Pure.move rfl) rfl hS5 ?_
    refine PL.takeP rfl (Pure.mul rfl rfl (i64 (by omega) (by omega))) rfl hS5 ?_
    refine PL.takeP rfl (Pure.add rfl rfl (i64 (by omega) (by omega))) rfl hS5 ?_
    refine PL.takeP rfl (Pure.indexStr (j := 4 * t + 2) Tryd.runUnderlying9 rfl rfl (by omega) (by omega)) rfl hS5 ?_
    refine PL.takeP rfl (Pure.conv Tryd.runUnderlying5 Tryd.runUnderlying105 rfl (u32bt _ _)) rfl hS5 ?_
    refine PL.takeP rfl (Pure.shl (p := 256) rfl rfl (by decide) (by decide) (u32w _)) rfl hS5 ?_
    refine PL.takeP rfl (Pure.bits rfl rfl rfl) rfl hS5 ?_
    refine PL.takeP rfl (Pure.move rfl) rfl hS5 ?_
    refine PL.takeP rfl (Pure.move rfl) rfl hS5 ?_
    refine PL.takeP rfl (Pure.mul rfl rfl (i64 (by omega) (by omega))) rfl hS5 ?_
    refine PL.takeP rfl (Pure.add rfl rfl (i64 (by omega) (by omega))) rfl hS5 ?_
    refine PL.takeP rfl (Pure.indexStr (j := 4 * t + 3) Tryd.runUnderlying9 rfl rfl (by omega) (by omega)) rfl hS5 ?_
    refine PL.takeP rfl (Pure.conv Tryd.runUnderlying5 Tryd.runUnderlying105 rfl (u32bt _ _)) rfl hS5 ?_
    refine PL.takeP rfl (Pure.bits rfl rfl rfl) rfl hS5 ?_
    refine PL.takeP rfl (Pure.indexAddrA (r := t) Tryd.runUnderlying113 Tryd.sizeOf105 rfl rfl (by omega) (by omega) (by omega)) rfl hS5 ?_
    refine PL.cast (.int .u32 (word (bt l) t)) 49 rfl (congrArg _ (word_or l t)) ?_
    refine PL.nilTail ?_
    replace hK := hK.chg0 hS5
    replace hs := hs.chg0 hS5
    replace hr := hr.chg0 hS5
    replace hw := hw.chg0 hS5
    replace hC := hC.then_ hS5
    refine OL.store (j := t) rfl rfl Tryd.sizeOf105 rfl hw (by omega) (iv_get (by rw [schedTo_len]; omega)) ?_
    intro w6 hb6 hc6
    replace hK := hK.chg hc6 (by simp; omega)
    replace hs := hs.chg hc6 (by simpa using hs.ne hw (by decide))
    replace hr := hr.chg hc6 (by simpa using hr.ne hw (by decide))
    replace hC := hC.trans1 hc6 (by first | exact .inr (by omega) | exact .inl (by simp))
    replace hw := hb6
    rw [iv_set, ← schedTo_lt (bt l) (show t < 16 by omega)] at hw
    refine OL.nil ?_
    refine TE.inBlock ?_
    refine TE.region ?_
    refine OL.pure (Pure.add rfl rfl (i64 (by omega) (by omega))) rfl ?_
    refine OL.pure (Pure.move rfl) rfl ?_
    refine OL.nil ?_
    exact TE.sub [1, 2, 4, 5, 17] rfl (ih4 (t + 1) _ ⟨by omega, hC, hs, hr, hK, hw⟩ (by omega))
  ·
    obtain rfl : t = 16 := by omega
    refine TE.exit rfl ?_
    refine TE.seq ?_
    refine TE.seq ?_
    refine TE.region ?_
    refine OL.pure (Pure.assign rfl) rfl ?_
    refine OL.nil ?_
    refine TE.block ?_
    refine TE.loopInv (σ := Nat) [1, 2, 4, 5, 7] (fun s_ w_ => 16 ≤ s_ ∧ s_ ≤ 64 ∧ Chg [] w w_ ∧ Blk w_ gs 106 (sv s) ∧ Blk w_ gr 106 (sv zero8) ∧ Blk w_ 1 tK (iv .u32 K) ∧ Blk w_ gw 113 (iv .u32 (schedTo (bt l) s_))) (fun s_ => [(1, .string (str l)), (2, .pointer (some ⟨gs, 0, none⟩)), (4, .pointer (some ⟨gr, 0, none⟩)), (5, .pointer (some ⟨gw, 0, none⟩)), (7, .int .i64 (↑s_))]) (fun s_ => 64 - s_) 16 ⟨by omega, by omega, hC, hs, hr, hK, hw⟩ rfl ?_
    rintro t w7 ⟨ht0, ht, hC, hs, hr, hK, hw⟩ ih7
    refine TE.seq ?_
    refine TE.seq ?_
    refine TE.region ?_
    refine OL.pure (Pure.move rfl) rfl ?_
    refine OL.pure (Pure.lss rfl rfl) rfl ?_
    refine OL.nil ?_
    refine TE.ite rfl (fun hlt => ?_) (fun hlt => ?_)
    ·
      refine TE.skip ?_
      refine TE.seq ?_
      refine TE.block ?_
      refine TE.seq ?_
      refine TE.planAll (.cons (0, true) (.cons (1, true) (.cons (2, true) (.cons (3, true) (.cons (4, true) (.cons (5, true) (.cons (6, true) (.cons (7, true) (.cons (8, true) (.cons (9, true) .nil)))))))))) (fun w_ => Chg [] w7 w_) rfl (by kernel_rfl) ?_
      have hS8 : Chg [] w7 w7.drew := Chg.drew _ _
      refine PL.takeP rfl (Pure.move rfl) rfl hS8 ?_
      refine PL.takeP rfl (Pure.sub rfl rfl (i64 (by omega) (by omega))) rfl hS8 ?_
      refine PL.takeP rfl (Pure.indexAddrA (r := t - 15) Tryd.runUnderlying113 Tryd.sizeOf105 rfl rfl (by omega) (by omega) (by omega)) rfl hS8 ?_
      refine PL.take rfl (fun w_ h_ => Run.load (i := t - 15) rfl Tryd.isAgg105 (hw.chg0 h_) (by omega) (iv_get (by rw [schedTo_len]; omega))) rfl hS8 ?_
      refine PL.takeP rfl (Pure.move rfl) rfl hS8 ?_
      refine PL.takeP rfl (Pure.sub rfl rfl (i64 (by omega) (by omega))) rfl hS8 ?_
      refine PL.takeP rfl (Pure.indexAddrA (r := t - 2) Tryd.runUnderlying113 Tryd.sizeOf105 rfl rfl (by omega) (by omega) (by omega)) rfl hS8 ?_
      refine PL.take rfl (fun w_ h_ => Run.load (i := t - 2) rfl Tryd.isAgg105 (hw.chg0 h_) (by omega) (iv_get (by rw [schedTo_len]; omega))) rfl hS8 ?_
      refine PL.takeP rfl (Pure.assign rfl) rfl hS8 ?_
      refine PL.takeP rfl (Pure.assign rfl) rfl hS8 ?_
      refine PL.nil ?_
      replace hK := hK.chg0 hS8
      replace hs := hs.chg0 hS8
      replace hr := hr.chg0 hS8
      replace hw := hw.chg0 hS8
      replace hC := hC.then_ hS8
      refine TE.plan 29 (.cons (0, true) (.cons (1, true) (.cons (2, true) (.cons (3, true) (.cons (4, true) (.cons (5, true) (.cons (7, true) (.cons (10, true) (.cons (11, true) (.cons (14, true) (.cons (15, true) (.cons (16, true) (.cons (17, true) (.cons (19, true) (.cons (21, true) (.cons (24, true) (.cons (25, true) (.cons (6, false) (.cons (8, false) (.cons (9, true) (.cons (12, true) (.cons (13, true) (.cons (18, true) (.cons (20, false) (.cons (22, false) (.cons (23, true) (.cons (26, true) (.cons (27, true) (.cons (28, true) .nil))))))))))))))))))))))))))))) (fun w_ => Chg [] w7.drew w_) rfl (by kernel_rfl) rfl ?_
      have hS9 : Chg [] w7.drew w7.drew.drew := Chg.drew _ _
      refine PL.takeP rfl (Pure.move rfl) rfl hS9 ?_
      refine PL.takeP rfl (Pure.move rfl) rfl hS9 ?_
      refine PL.takeP rfl (Pure.sub rfl rfl (i64 (by omega) (by omega))) rfl hS9 ?_
      refine PL.takeP rfl (Pure.indexAddrA (r := t - 16) Tryd.runUnderlying113 Tryd.sizeOf105 rfl rfl (by omega) (by omega) (by omega)) rfl hS9 ?_
      refine PL.take rfl (fun w_ h_ => Run.load (i := t - 16) rfl Tryd.isAgg105 (hw.chg0 h_) (by omega) (iv_get (by rw [schedTo_len]; omega))) rfl hS9 ?_
      refine PL.takeP rfl (Pure.move rfl) rfl hS9 ?_
      refine PL.takeP rfl (Pure.move rfl) rfl hS9 ?_
      refine PL.takeP rfl (Pure.move rfl) rfl hS9 ?_
      refine PL.takeP rfl (Pure.shr (p := 8) rfl rfl (by decide) (by decide)) rfl hS9 ?_
      refine PL.takeP rfl (Pure.move rfl) rfl hS9 ?_
      refine PL.takeP rfl (Pure.sub rfl rfl (i64 (by omega) (by omega))) rfl hS9 ?_
      refine PL.takeP rfl (Pure.indexAddrA (r := t - 7) Tryd.runUnderlying113 Tryd.sizeOf105 rfl rfl (by omega) (by omega) (by omega)) rfl hS9 ?_
      refine PL.take rfl (fun w_ h_ => Run.load (i := t - 7) rfl Tryd.isAgg105 (hw.chg0 h_) (by omega) (iv_get (by rw [schedTo_len]; omega))) rfl hS9 ?_
      refine PL.takeP rfl (Pure.move rfl) rfl hS9 ?_
      refine PL.takeP rfl (Pure.move rfl) rfl hS9 ?_
      refine PL.takeP rfl (Pure.move rfl) rfl hS9 ?_
      refine PL.takeP rfl (Pure.shr (p := 1024) rfl rfl (by decide) (by decide)) rfl hS9 ?_
      refine PL.call rfl rfl Tryd.call61 rfl (right_any _ 7 (by omega) (by omega) _) ?_
      rintro _ _ ⟨rfl, rfl⟩
      refine ⟨_, rfl, hS9, ?_⟩
      refine PL.call rfl rfl Tryd.call61 rfl (right_any _ 18 (by omega) (by omega) _) ?_
      rintro _ _ ⟨rfl, rfl⟩
      refine ⟨_, rfl, hS9, ?_⟩
      refine PL.takeP rfl (Pure.bits rfl rfl rfl) rfl hS9 ?_
      refine PL.takeP rfl (Pure.bits rfl rfl rfl) rfl hS9 ?_
      refine PL.takeP rfl (Pure.add rfl rfl (u32w _)) rfl hS9 ?_
      refine PL.takeP rfl (Pure.add rfl rfl (u32w _)) rfl hS9 ?_
      refine PL.call rfl rfl Tryd.call61 rfl (right_any _ 17 (by omega) (by omega) _) ?_
      rintro _ _ ⟨rfl, rfl⟩
      refine ⟨_, rfl, hS9, ?_⟩
      refine PL.call rfl rfl Tryd.call61 rfl (right_any _ 19 (by omega) (by omega) _) ?_
      rintro _ _ ⟨rfl, rfl⟩
      refine ⟨_, rfl, hS9, ?_⟩
      refine PL.takeP rfl (Pure.bits rfl rfl rfl) rfl hS9 ?_
      refine PL.takeP rfl (Pure.bits rfl rfl rfl) rfl hS9 ?_
      refine PL.takeP rfl (Pure.add rfl rfl (u32w _)) rfl hS9 ?_
      refine PL.takeP rfl (Pure.indexAddrA (r := t) Tryd.runUnderlying113 Tryd.sizeOf105 rfl rfl (by omega) (by omega) (by omega)) rfl hS9 ?_
      refine PL.cast (.int .u32 (next (schedTo (bt l) t) t)) 91 rfl (rfl) ?_
      refine PL.nilTail ?_
      replace hK := hK.chg0 hS9
      replace hs := hs.chg0 hS9
      replace hr := hr.chg0 hS9
      replace hw := hw.chg0 hS9
      replace hC := hC.then_ hS9
      refine OL.store (j := t) rfl rfl Tryd.sizeOf105 rfl hw (by omega) (iv_get (by rw [schedTo_len]; omega)) ?_
      intro w10 hb10 hc10
      replace hK := hK.chg hc10 (by simp; omega)
      replace hs := hs.chg hc10 (by simpa using hs.ne hw (by decide))
      replace hr := hr.chg hc10 (by simpa using hr.ne hw (by decide))
      replace hC := hC.trans1 hc10 (by first | exact .inr (by omega) | exact .inl (by simp))
      replace hw := hb10
      rw [iv_set, ← schedTo_ge (bt l) ht0] at hw
      refine OL.nil ?_
      refine TE.inBlock ?_
      refine TE.region ?_
      refine OL.pure (Pure.move rfl) rfl ?_
      refine OL.pure (Pure.add rfl rfl (i64 (by omega) (by omega))) rfl ?_
      refine OL.pure (Pure.assign rfl) rfl ?_
      refine OL.nil ?_
      exact TE.sub [1, 2, 4, 5, 7] rfl (ih7 (t + 1) _ ⟨by omega, by omega, hC, hs, hr, hK, hw⟩ (by omega))
    ·
      obtain rfl : t = 64 := by omega
      refine TE.exit rfl ?_
      refine TE.seq ?_
      refine TE.region ?_
      refine OL.val (Run.loadAll rfl Tryd.underlying106 rfl hs (rfl)) rfl ?_
      refine OL.alloc Tryd.zeroValue106 rfl ?_
      intro gx w11 hx hc11 hg_gx
      have lt_1_gx : 1 < gx := by have := hK.lt; omega
      have lt_gs_gx : gs < gx := by have := hs.lt; omega
      have lt_gr_gx : gr < gx := by have := hr.lt; omega
      have lt_gw_gx : gw < gx := by have := hw.lt; omega
      have ge_gx : w.heap.size ≤ gx := by have := hC.size; omega
      replace hK := hK.chg0 hc11
      replace hs := hs.chg0 hc11
      replace hr := hr.chg0 hc11
      replace hw := hw.chg0 hc11
      replace hC := hC.then_ hc11
      refine OL.storeRow (vs := sv s) rfl rfl (rfl) (by simp [sv, iv, S8.l, Value.oneCell']) hx (Nat.le_refl 8) ?_
      intro w12 hb12 hc12
      replace hK := hK.chg hc12 (by simp; omega)
      replace hs := hs.chg hc12 (by simp; omega)
      replace hr := hr.chg hc12 (by simp; omega)
      replace hw := hw.chg hc12 (by simpa using hw.ne hx (by decide))
      replace hC := hC.trans1 hc12 (by first | exact .inr (by omega) | exact .inl (by simp))
      replace hx := hb12
      replace hx := hx.all rfl
      refine OL.nil ?_
      refine TE.seq ?_
      refine TE.seq ?_
      refine TE.region ?_
      refine OL.pure (Pure.move rfl) rfl ?_
      refine OL.nil ?_
      refine TE.block ?_
      refine TE.loopInv (σ := Nat) [1, 2, 4, 5, 10, 94] (fun s_ w_ => s_ ≤ 64 ∧ Chg [] w w_ ∧ Blk w_ gs 106 (sv s) ∧ Blk w_ gr 106 (sv zero8) ∧ Blk w_ 1 tK (iv .u32 K) ∧ Blk w_ gw 113 (iv .u32 (schedTo (bt l) 64)) ∧ Blk w_ gx 106 (sv (rounds (schedTo (bt l) 64) s s_))) (fun s_ => [(1, .string (str l)), (2, .pointer (some ⟨gs, 0, none⟩)), (4, .pointer (some ⟨gr, 0, none⟩)), (5, .pointer (some ⟨gw, 0, none⟩)), (10, .pointer (some ⟨gx, 0, none⟩)), (94, .int .i64 (↑s_))]) (fun s_ => 64 - s_) 0 ⟨by omega, hC, hs, hr, hK, hw, hx⟩ rfl ?_
      rintro t w13 ⟨ht, hC, hs, hr, hK, hw, hx⟩ ih13
      refine TE.seq ?_
      refine TE.region ?_
      refine OL.pure (Pure.lss rfl rfl) rfl ?_
      refine OL.nil ?_
      refine TE.seq ?_
      refine TE.ite rfl (fun hlt => ?_) (fun hlt => ?_)
      ·
        generalize hR : rounds (schedTo (bt l) 64) s t = R at hx
        refine TE.skip ?_
        refine TE.seq ?_
        refine TE.block ?_
        refine TE.seq ?_
        refine TE.region ?_
        refine OL.pure (Pure.move rfl) rfl ?_
        refine OL.pure (Pure.assign rfl) rfl ?_
        refine OL.nil ?_
        refine TE.seq ?_
        refine TE.planAll (.cons (0, true) (.cons (1, true) (.cons (2, true) (.cons (3, true) (.cons (4, true) (.cons (5, true) .nil)))))) (fun w_ => Chg [] w13 w_) rfl (by kernel_rfl) ?_
        have hS14 : Chg [] w13 w13.drew := Chg.drew _ _
        refine PL.takeP rfl (Pure.indexAddrA (r := 0) Tryd.runUnderlying106 Tryd.sizeOf105 rfl rfl (by omega) (by omega) (by omega)) rfl hS14 ?_
        refine PL.take rfl (fun w_ h_ => Run.load (i := 0) rfl Tryd.isAgg105 (hx.chg0 h_) (by omega) rfl) rfl hS14 ?_
        refine PL.takeP rfl (Pure.indexAddrA (r := 4) Tryd.runUnderlying106 Tryd.sizeOf105 rfl rfl (by omega) (by omega) (by omega)) rfl hS14 ?_
        refine PL.take rfl (fun w_ h_ => Run.load (i := 4) rfl Tryd.isAgg105 (hx.chg0 h_) (by omega) rfl) rfl hS14 ?_
        refine PL.takeP rfl (Pure.assign rfl) rfl hS14 ?_
        refine PL.takeP rfl (Pure.assign rfl) rfl hS14 ?_
        refine PL.nil ?_
        replace hK := hK.chg0 hS14
        replace hs := hs.chg0 hS14
        replace hr := hr.chg0 hS14
        replace hw := hw.chg0 hS14
        replace hx := hx.chg0 hS14
        replace hC := hC.then_ hS14
        refine TE.seq ?_
        refine TE.planAll (.cons (0, true) (.cons (1, true) (.cons (2, true) (.cons (4, true) (.cons (7, true) (.cons (11, true) (.cons (12, true) (.cons (13, true) (.cons (14, true) (.cons (15, true) (.cons (16, true) (.cons (17, true) (.cons (18, true) (.cons (19, true) (.cons (20, true) (.cons (22, true) (.cons (23, true) (.cons (24, true) (.cons (26, true) (.cons (27, true) (.cons (28, true) (.cons (3, false) (.cons (5, false) (.cons (6, true) (.cons (8, false) (.cons (9, true) (.cons (10, true) (.cons (21, true) (.cons (25, true) (.cons (29, true) (.cons (30, true) .nil))))))))))))))))))))))))))))))) (fun w_ => Chg [] w13.drew w_) rfl (by kernel_rfl) ?_
        have hS15 : Chg [] w13.drew w13.drew.drew := Chg.drew _ _
        refine PL.takeP rfl (Pure.indexAddrA (r := 7) Tryd.runUnderlying106 Tryd.sizeOf105 rfl rfl (by omega) (by omega) (by omega)) rfl hS15 ?_
        refine PL.take rfl (fun w_ h_ => Run.load (i := 7) rfl Tryd.isAgg105 (hx.chg0 h_) (by omega) rfl) rfl hS15 ?_
        refine PL.takeP rfl (Pure.move rfl) rfl hS15 ?_
        refine PL.takeP rfl (Pure.move rfl) rfl hS15 ?_
        refine PL.takeP rfl (Pure.move rfl) rfl hS15 ?_
        refine PL.takeP rfl (Pure.move rfl) rfl hS15 ?_
        refine PL.takeP rfl (Pure.indexAddrA (r := 5) Tryd.runUnderlying106 Tryd.sizeOf105 rfl rfl (by omega) (by omega) (by omega)) rfl hS15 ?_
        refine PL.take rfl (fun w_ h_ => Run.load (i := 5) rfl Tryd.isAgg105 (hx.chg0 h_) (by omega) rfl) rfl hS15 ?_
        refine PL.takeP rfl (Pure.bits rfl rfl rfl) rfl hS15 ?_
        refine PL.takeP rfl (Pure.move rfl) rfl hS15 ?_
        refine PL.takeP rfl (Pure.compl rfl) rfl hS15 ?_
        refine PL.takeP rfl (Pure.indexAddrA (r := 6) Tryd.runUnderlying106 Tryd.sizeOf105 rfl rfl (by omega) (by omega) (by omega)) rfl hS15 ?_
        refine PL.take rfl (fun w_ h_ => Run.load (i := 6) rfl Tryd.isAgg105 (hx.chg0 h_) (by omega) rfl) rfl hS15 ?_
        refine PL.takeP rfl (Pure.bits rfl rfl rfl) rfl hS15 ?_
        refine PL.takeP rfl (Pure.bits rfl rfl rfl) rfl hS15 ?_
        refine PL.takeP rfl (Pure.move rfl) rfl hS15 ?_
        refine PL.takeP rfl (Pure.indexAddrA (r := t) Tryd.runUnderlying113 Tryd.sizeOf105 rfl rfl (by omega) (by omega) (by omega)) rfl hS15 ?_
        refine PL.take rfl (fun w_ h_ => Run.load (i := t) rfl Tryd.isAgg105 (hK.chg0 h_) (by omega) (iv_get (by rw [K_len]; omega))) rfl hS15 ?_
        refine PL.takeP rfl (Pure.move rfl) rfl hS15 ?_
        refine PL.takeP rfl (Pure.indexAddrA (r := t) Tryd.runUnderlying113 Tryd.sizeOf105 rfl rfl (by omega) (by omega) (by omega)) rfl hS15 ?_
        refine PL.take rfl (fun w_ h_ => Run.load (i := t) rfl Tryd.isAgg105 (hw.chg0 h_) (by omega) (iv_get (by rw [schedTo_len]; omega))) rfl hS15 ?_
        refine PL.call rfl rfl Tryd.call61 rfl (right_any _ 6 (by omega) (by omega) _) ?_
        rintro _ _ ⟨rfl, rfl⟩
        refine ⟨_, rfl, hS15, ?_⟩
        refine PL.call rfl rfl Tryd.call61 rfl (right_any _ 11 (by omega) (by omega) _) ?_
        rintro _ _ ⟨rfl, rfl⟩
        refine ⟨_, rfl, hS15, ?_⟩
        refine PL.takeP rfl (Pure.bits rfl rfl rfl) rfl hS15 ?_
        refine PL.call rfl rfl Tryd.call61 rfl (right_any _ 25 (by omega) (by omega) _) ?_
        rintro _ _ ⟨rfl, rfl⟩
        refine ⟨_, rfl, hS15, ?_⟩
        refine PL.takeP rfl (Pure.bits rfl rfl rfl) rfl hS15 ?_
        refine PL.takeP rfl (Pure.add rfl rfl (u32w _)) rfl hS15 ?_
        refine PL.takeP rfl (Pure.add rfl rfl (u32w _)) rfl hS15 ?_
        refine PL.takeP rfl (Pure.add rfl rfl (u32w _)) rfl hS15 ?_
        refine PL.takeP rfl (Pure.add rfl rfl (u32w _)) rfl hS15 ?_
        refine PL.takeP rfl (Pure.assign rfl) rfl hS15 ?_
        refine PL.nil ?_
        replace hK := hK.chg0 hS15
        replace hs := hs.chg0 hS15
        replace hr := hr.chg0 hS15
        replace hw := hw.chg0 hS15
        replace hx := hx.chg0 hS15
        replace hC := hC.then_ hS15
        refine TE.seq ?_
        refine TE.planAll (.cons (0, true) (.cons (2, true) (.cons (5, true) (.cons (8, true) (.cons (9, true) (.cons (10, true) (.cons (11, true) (.cons (12, true) (.cons (13, true) (.cons (14, true) (.cons (15, true) (.cons (16, true) (.cons (17, true) (.cons (18, true) (.cons (19, true) (.cons (20, true) (.cons (21, true) (.cons (22, true) (.cons (1, false) (.cons (3, false) (.cons (4, true) (.cons (6, false) (.cons (7, true) (.cons (23, true) (.cons (24, true) .nil))))))))))))))))))))))))) (fun w_ => Chg [] w13.drew.drew w_) rfl (by kernel_rfl) ?_
        have hS16 : Chg [] w13.drew.drew w13.drew.drew.drew := Chg.drew _ _
        refine PL.takeP rfl (Pure.move rfl) rfl hS16 ?_
        refine PL.takeP rfl (Pure.move rfl) rfl hS16 ?_
        refine PL.takeP rfl (Pure.move rfl) rfl hS16 ?_
        refine PL.takeP rfl (Pure.move rfl) rfl hS16 ?_
        refine PL.takeP rfl (Pure.indexAddrA (r := 1) Tryd.runUnderlying106 Tryd.sizeOf105 rfl rfl (by omega) (by omega) (by omega)) rfl hS16 ?_
        refine PL.take rfl (fun w_ h_ => Run.load (i := 1) rfl Tryd.isAgg105 (hx.chg0 h_) (by omega) rfl) rfl hS16 ?_
        refine PL.takeP rfl (Pure.bits rfl rfl rfl) rfl hS16 ?_
        refine PL.takeP rfl (Pure.move rfl) rfl hS16 ?_
        refine PL.takeP rfl (Pure.indexAddrA (r := 2) Tryd.runUnderlying106 Tryd.sizeOf105 rfl rfl (by omega) (by omega) (by omega)) rfl hS16 ?_
        refine PL.take rfl (fun w_ h_ => Run.load (i := 2) rfl Tryd.isAgg105 (hx.chg0 h_) (by omega) rfl) rfl hS16 ?_
        refine PL.takeP rfl (Pure.bits rfl rfl rfl) rfl hS16 ?_
        refine PL.takeP rfl (Pure.bits rfl rfl rfl) rfl hS16 ?_
        refine PL.takeP rfl (Pure.indexAddrA (r := 1) Tryd.runUnderlying106 Tryd.sizeOf105 rfl rfl (by omega) (by omega) (by omega)) rfl hS16 ?_
        refine PL.take rfl (fun w_ h_ => Run.load (i := 1) rfl Tryd.isAgg105 (hx.chg0 h_) (by omega) rfl) rfl hS16 ?_
        refine PL.takeP rfl (Pure.indexAddrA (r := 2) Tryd.runUnderlying106 Tryd.sizeOf105 rfl rfl (by omega) (by omega) (by omega)) rfl hS16 ?_
        refine PL.take rfl (fun w_ h_ => Run.load (i := 2) rfl Tryd.isAgg105 (hx.chg0 h_) (by omega) rfl) rfl hS16 ?_
        refine PL.takeP rfl (Pure.bits rfl rfl rfl) rfl hS16 ?_
        refine PL.takeP rfl (Pure.bits rfl rfl rfl) rfl hS16 ?_
        refine PL.call rfl rfl Tryd.call61 rfl (right_any _ 2 (by omega) (by omega) _) ?_
        rintro _ _ ⟨rfl, rfl⟩
        refine ⟨_, rfl, hS16, ?_⟩
        refine PL.call rfl rfl Tryd.call61 rfl (right_any _ 13 (by omega) (by omega) _) ?_
        rintro _ _ ⟨rfl, rfl⟩
        refine ⟨_, rfl, hS16, ?_⟩
        refine PL.takeP rfl (Pure.bits rfl rfl rfl) rfl hS16 ?_
        refine PL.call rfl rfl Tryd.call61 rfl (right_any _ 22 (by omega) (by omega) _) ?_
        rintro _ _ ⟨rfl, rfl⟩
        refine ⟨_, rfl, hS16, ?_⟩
        refine PL.takeP rfl (Pure.bits rfl rfl rfl) rfl hS16 ?_
        refine PL.takeP rfl (Pure.add rfl rfl (u32w _)) rfl hS16 ?_
        refine PL.takeP rfl (Pure.assign rfl) rfl hS16 ?_
        refine PL.nil ?_
        replace hK := hK.chg0 hS16
        replace hs := hs.chg0 hS16
        replace hr := hr.chg0 hS16
        replace hw := hw.chg0 hS16
        replace hx := hx.chg0 hS16
        replace hC := hC.then_ hS16
        refine TE.region ?_
        refine OL.pure (Pure.move rfl) rfl ?_
        refine OL.pure (Pure.move rfl) rfl ?_
        refine OL.pure (Pure.add rfl rfl (u32w _)) rfl ?_
        refine OL.pure (Pure.move rfl) rfl ?_
        refine OL.pure (Pure.indexAddrA (r := 1) Tryd.runUnderlying106 Tryd.sizeOf105 rfl rfl (by omega) (by omega) (by omega)) rfl ?_
        refine OL.val (Run.load (i := 1) rfl Tryd.isAgg105 hx (by omega) rfl) rfl ?_
        refine OL.pure (Pure.indexAddrA (r := 2) Tryd.runUnderlying106 Tryd.sizeOf105 rfl rfl (by omega) (by omega) (by omega)) rfl ?_
        refine OL.val (Run.load (i := 2) rfl Tryd.isAgg105 hx (by omega) rfl) rfl ?_
        refine OL.pure (Pure.indexAddrA (r := 3) Tryd.runUnderlying106 Tryd.sizeOf105 rfl rfl (by omega) (by omega) (by omega)) rfl ?_
        refine OL.val (Run.load (i := 3) rfl Tryd.isAgg105 hx (by omega) rfl) rfl ?_
        refine OL.pure (Pure.move rfl) rfl ?_
        refine OL.pure (Pure.add rfl rfl (u32w _)) rfl ?_
        refine OL.pure (Pure.move rfl) rfl ?_
        refine OL.pure (Pure.indexAddrA (r := 5) Tryd.runUnderlying106 Tryd.sizeOf105 rfl rfl (by omega) (by omega) (by omega)) rfl ?_
        refine OL.val (Run.load (i := 5) rfl Tryd.isAgg105 hx (by omega) rfl) rfl ?_
        refine OL.pure (Pure.indexAddrA (r := 6) Tryd.runUnderlying106 Tryd.sizeOf105 rfl rfl (by omega) (by omega) (by omega)) rfl ?_
        refine OL.val (Run.load (i := 6) rfl Tryd.isAgg105 hx (by omega) rfl) rfl ?_
        refine OL.pure (Pure.build (cs := sv (round R (K.getD t 0) ((schedTo (bt l) 64).getD t 0))) rfl (by kernel_rfl)) rfl ?_
        refine OL.storeRow (vs := sv (round R (K.getD t 0) ((schedTo (bt l) 64).getD t 0))) rfl rfl (rfl) (by simp [sv, iv, S8.l, Value.oneCell']) hx (Nat.le_refl 8) ?_
        intro w17 hb17 hc17
        replace hK := hK.chg hc17 (by simp; omega)
        replace hs := hs.chg hc17 (by simp; omega)
        replace hr := hr.chg hc17 (by simp; omega)
        replace hw := hw.chg hc17 (by simpa using hw.ne hx (by decide))
        replace hC := hC.trans1 hc17 (by first | exact .inr (by omega) | exact .inl (by simp))
        replace hx := hb17
        replace hx := hx.all rfl
        rw [← hR] at hx
        refine OL.nil ?_
        refine TE.inBlock ?_
        refine TE.region ?_
        refine OL.pure (Pure.add rfl rfl (i64 (by omega) (by omega))) rfl ?_
        refine OL.pure (Pure.move rfl) rfl ?_
        refine OL.nil ?_
        exact TE.sub [1, 2, 4, 5, 10, 94] rfl (ih13 (t + 1) _ ⟨by omega, hC, hs, hr, hK, hw, hx⟩ (by omega))
      ·
        obtain rfl : t = 64 := by omega
        generalize hR : rounds (schedTo (bt l) 64) s 64 = R at hx
        refine TE.exit rfl ?_
        refine TE.seq ?_
        refine TE.seq ?_
        refine TE.region ?_
        refine OL.pure (Pure.move rfl) rfl ?_
        refine OL.nil ?_
        refine TE.block ?_
        refine TE.loopInv (σ := Nat) [2, 4, 10, 174] (fun s_ w_ => s_ ≤ 8 ∧ Chg [] w w_ ∧ Blk w_ gr 106 (sv zero8) ∧ Blk w_ gx 106 (sv R) ∧ Blk w_ gs 106 (iv .u32 (addTo s.l R.l s_))) (fun s_ => [(2, .pointer (some ⟨gs, 0, none⟩)), (4, .pointer (some ⟨gr, 0, none⟩)), (10, .pointer (some ⟨gx, 0, none⟩)), (174, .int .i64 (↑s_))]) (fun s_ => 8 - s_) 0 ⟨by omega, hC, hr, hx, hs⟩ rfl ?_
        rintro t w18 ⟨ht, hC, hr, hx, hs⟩ ih18
        refine TE.seq ?_
        refine TE.region ?_
        refine OL.pure (Pure.lss rfl rfl) rfl ?_
        refine OL.nil ?_
        refine TE.seq ?_
        refine TE.ite rfl (fun hlt => ?_) (fun hlt => ?_)
        ·
          refine TE.skip ?_
          refine TE.seq ?_
          refine TE.block ?_
          refine TE.seq ?_
          refine TE.region ?_
          refine OL.pure (Pure.move rfl) rfl ?_
          refine OL.pure (Pure.assign rfl) rfl ?_
          refine OL.nil ?_
          refine TE.plan 8 (.cons (0, true) (.cons (1, true) (.cons (2, true) (.cons (3, true) (.cons (4, true) (.cons (5, true) (.cons (6, true) (.cons (7, true) .nil)))))))) (fun w_ => Chg [] w18 w_) rfl (by kernel_rfl) rfl ?_
          have hS19 : Chg [] w18 w18.drew := Chg.drew _ _
          refine PL.takeP rfl (Pure.move rfl) rfl hS19 ?_
          refine PL.takeP rfl (Pure.indexAddrA (r := t) Tryd.runUnderlying106 Tryd.sizeOf105 rfl rfl (by omega) (by omega) (by omega)) rfl hS19 ?_
          refine PL.take rfl (fun w_ h_ => Run.load (i := t) rfl Tryd.isAgg105 (hs.chg0 h_) (by omega) (iv_get (by rw [addTo_len]; show _ < 8; omega))) rfl hS19 ?_
          refine PL.takeP rfl (Pure.move rfl) rfl hS19 ?_
          refine PL.takeP rfl (Pure.indexAddrA (r := t) Tryd.runUnderlying106 Tryd.sizeOf105 rfl rfl (by omega) (by omega) (by omega)) rfl hS19 ?_
          refine PL.take rfl (fun w_ h_ => Run.load (i := t) rfl Tryd.isAgg105 (hx.chg0 h_) (by omega) (iv_get (show _ < 8 by omega))) rfl hS19 ?_
          refine PL.takeP rfl (Pure.add rfl rfl (u32w _)) rfl hS19 ?_
          refine PL.takeP rfl (Pure.indexAddrA (r := t) Tryd.runUnderlying106 Tryd.sizeOf105 rfl rfl (by omega) (by omega) (by omega)) rfl hS19 ?_
          refine PL.nilTail ?_
          replace hr := hr.chg0 hS19
          replace hx := hx.chg0 hS19
          replace hs := hs.chg0 hS19
          replace hC := hC.then_ hS19
          refine OL.store (j := t) rfl rfl Tryd.sizeOf105 rfl hs (by omega) (iv_get (by rw [addTo_len]; show _ < 8; omega)) ?_
          intro w20 hb20 hc20
          replace hr := hr.chg hc20 (by simp; omega)
          replace hx := hx.chg hc20 (by simp; omega)
          replace hC := hC.trans1 hc20 (by first | exact .inr (by omega) | exact .inl (by simp))
          replace hs := hb20
          rw [iv_set] at hs
          refine OL.nil ?_
          refine TE.inBlock ?_
          refine TE.region ?_
          refine OL.pure (Pure.add rfl rfl (i64 (by omega) (by omega))) rfl ?_
          refine OL.pure (Pure.move rfl) rfl ?_
          refine OL.nil ?_
          exact TE.sub [2, 4, 10, 174] rfl (ih18 (t + 1) _ ⟨by omega, hC, hr, hx, hs⟩ (by omega))
        ·
          obtain rfl : t = 8 := by omega
          replace hs : Blk _ gs 106 (sv (addS s R)) := hs
          refine TE.exit rfl ?_
          refine TE.seq ?_
          refine TE.region ?_
          refine OL.val (Run.loadAll rfl Tryd.underlying106 rfl hs (rfl)) rfl ?_
          refine OL.storeRow (vs := sv (addS s R)) rfl rfl (rfl) (by simp [sv, iv, S8.l, Value.oneCell']) hr (Nat.le_refl 8) ?_
          intro w21 hb21 hc21
          replace hx := hx.chg hc21 (by simp; omega)
          replace hs := hs.chg hc21 (by simp; omega)
          replace hC := hC.trans1 hc21 (by first | exact .inr (by omega) | exact .inl (by simp))
          replace hr := hb21
          replace hr := hr.all rfl
          refine OL.nil ?_
          subst hR
          exact TE.ret (vs := [.agg (sv (comp s (bt l))).toArray]) Tryd.results60 (⟨⟨_, rfl, loadRow_at Tryd.underlying106 rfl rfl hr rfl⟩, trivial⟩) ⟨rfl, hC⟩

end Go.Proofs.YtigjmemoaapmgaaDoor
