/- sha256.block, walked -/
import Derived.Test.YtcologcjhenmkaaDoorProg
import Derived.Test.YtcologcjhenmkaaDoorEngA
import Derived.Test.YtcologcjhenmkaaDoorSpecA
set_option linter.unusedVariables false
set_option maxRecDepth 4000
namespace Go.Proofs.YtcologcjhenmkaaDoor
open Go.V Go.Sha
theorem and31 (m : Nat) (h0 : 0 < m) (h1 : m < 32) : Go.bits .and .u64 (IntKind.u64.wrap (-(m : Int))) 31 = 32 - (m : Int) := by
  have key : ∀ m : Fin 32, 0 < m.val → Go.bits .and .u64 (IntKind.u64.wrap (-(m.val : Int))) 31 = 32 - (m.val : Int) := by decide
  exact key ⟨m, h1⟩ h0

theorem rotl_any (x : Int) (m : Nat) (h0 : 0 < m) (h1 : m < 32) (w : World) : Calls Tryd.prog 87 #[.int .u32 x, .int .i64 (-(m : Int))] w (Ret (.int .u32 (rotr m x)) w) := by
  refine calls_of_TE (vs := [.int .u32 x, .int .i64 (-(m : Int))]) Tryd.func87 Tryd.ntmps87 rfl (by simp) ?_
  refine TE.seq ?_
  refine TE.region ?_
  refine OL.pure (Pure.assign rfl) rfl ?_
  refine OL.nil ?_
  refine TE.seq ?_
  refine TE.region ?_
  refine OL.pure (Pure.move rfl) rfl ?_
  refine OL.pure (Pure.conv Tryd.runUnderlying3 Tryd.runUnderlying121 rfl rfl) rfl ?_
  refine OL.pure (Pure.bits rfl rfl rfl) rfl ?_
  refine OL.cast (.int .u64 (32 - (m : Int))) 8 rfl (congrArg _ (and31 m h0 h1)) ?_
  refine OL.pure (Pure.assign rfl) rfl ?_
  refine OL.nil ?_
  refine TE.seq ?_
  refine TE.region ?_
  refine OL.pure (Pure.move rfl) rfl ?_
  refine OL.pure (Pure.move rfl) rfl ?_
  refine OL.pure (Pure.shl (p := 2 ^ (32 - m)) rfl rfl (by omega) (by congr 1; simp [IntKind.bits]) (u32w _)) rfl ?_
  refine OL.pure (Pure.move rfl) rfl ?_
  refine OL.pure (Pure.move rfl) rfl ?_
  refine OL.pure (Pure.sub rfl rfl (u64in (by omega) (by omega))) rfl ?_
  refine OL.pure (Pure.shr (p := 2 ^ m) rfl rfl (by omega) (by congr 1; simp [IntKind.bits]; omega)) rfl ?_
  refine OL.pure (Pure.bits rfl rfl rfl) rfl ?_
  refine OL.pure (Pure.assign rfl) rfl ?_
  refine OL.nil ?_
  exact TE.ret (vs := [.int .u32 (rotr m x)]) Tryd.results87 (⟨rfl, trivial⟩) ⟨rfl, rfl⟩

theorem right_any (x : Int) (m : Nat) (h0 : 0 < m) (h1 : m < 32) (w : World) : Calls Tryd.prog 86 #[.int .i64 (m : Int), .int .u32 x] w (Ret (.int .u32 (rotr m x)) w) := by
  refine calls_of_TE (vs := [.int .i64 (m : Int), .int .u32 x]) Tryd.func86 Tryd.ntmps86 rfl (by simp) ?_
  refine TE.seq ?_
  refine TE.region ?_
  refine OL.pure (Pure.assign rfl) rfl ?_
  refine OL.nil ?_
  refine TE.seq ?_
  refine TE.region ?_
  refine OL.pure (Pure.move rfl) rfl ?_
  refine OL.pure (Pure.move rfl) rfl ?_
  refine OL.pure (Pure.neg rfl (i64 (by omega) (by omega) |>.trans (Int.zero_sub _))) rfl ?_
  refine OL.call rfl Tryd.call87 rfl (rotl_any x m h0 h1 _) ?_
  rintro _ _ ⟨rfl, rfl⟩
  refine ⟨_, rfl, ?_⟩
  refine OL.pure (Pure.assign rfl) rfl ?_
  refine OL.nil ?_
  exact TE.ret (vs := [.int .u32 (rotr m x)]) Tryd.results86 (⟨rfl, trivial⟩) ⟨rfl, rfl⟩

set_option maxHeartbeats 1000000 in
theorem block_any {tK : TypeId} (s : S8) (l : List UInt8) (hl : l.length = 64) (w : World) (hK : Blk w 1 tK (iv .u32 K)) : Calls Tryd.prog 85 #[.agg (sv s).toArray, .string (str l)] w (RetC (.agg (sv (comp s (bt l))).toArray) w) := by
  refine calls_of_TE (vs := [.agg (sv s).toArray, .string (str l)]) Tryd.func85 Tryd.ntmps85 rfl (by simp) ?_
  have hC : Chg [] w w := Chg.refl _ _
  refine TE.seq ?_
  refine TE.region ?_
  refine OL.box rfl rfl ?_
  intro gs w1 hs hc1 hg_gs
  have lt_1_gs : 1 < gs := by have := hK.lt; omega
  have ge_gs : w.heap.size ≤ gs := by have := hC.size; omega
  replace hK := hK.chg0 hc1
  replace hC := hC.then_ hc1
  have hs : Blk w1 gs 143 (sv s) := hs
  refine OL.alloc Tryd.zeroValue143 rfl ?_
  intro gr w2 hr hc2 hg_gr
  have lt_1_gr : 1 < gr := by have := hK.lt; omega
  have lt_gs_gr : gs < gr := by have := hs.lt; omega
  have ge_gr : w.heap.size ≤ gr := by have := hC.size; omega
  replace hK := hK.chg0 hc2
  replace hs := hs.chg0 hc2
  replace hC := hC.then_ hc2
  refine OL.nil ?_
  refine TE.seq ?_
  refine TE.region ?_
  refine OL.alloc Tryd.zeroValue151 rfl ?_
  intro gw w3 hw hc3 hg_gw
  have lt_1_gw : 1 < gw := by have := hK.lt; omega
  have lt_gs_gw : gs < gw := by have := hs.lt; omega
  have lt_gr_gw : gr < gw := by have := hr.lt; omega
  have ge_gw : w.heap.size ≤ gw := by have := hC.size; omega
  replace hK := hK.chg0 hc3
  replace hs := hs.chg0 hc3
  replace hr := hr.chg0 hc3
  replace hC := hC.then_ hc3
  have hw : Blk w3 gw 151 (iv .u32 (schedTo (bt l) 0)) := hw
  refine OL.nil ?_
  refine TE.seq ?_
  refine TE.seq ?_
  refine TE.region ?_
  refine OL.pure (Pure.move rfl) rfl ?_
  refine OL.nil ?_
  refine TE.block ?_
  refine TE.loopInv (σ := Nat) [1, 2, 4, 5, 17] (fun s_ w_ => s_ ≤ 16 ∧ Chg [] w w_ ∧ Blk w_ gs 143 (sv s) ∧ Blk w_ gr 143 (sv zero8) ∧ Blk w_ 1 tK (iv .u32 K) ∧ Blk w_ gw 151 (iv .u32 (schedTo (bt l) s_))) (fun s_ => [(1, .string (str l)), (2, .pointer (some ⟨gs, 0, none⟩)), (4, .pointer (some ⟨gr, 0, none⟩)), (5, .pointer (some ⟨gw, 0, none⟩)), (17, .int .i64 (↑s_))]) (fun s_ => 16 - s_) 0 ⟨by omega, hC, hs, hr, hK, hw⟩ rfl ?_
  rintro t w4 ⟨ht, hC, hs, hr, hK, hw⟩ ih4
  refine TE.seq ?_
  refine TE.region ?_
  refine OL.pure (Pure.lss rfl rfl) rfl ?_
  refine OL.nil ?_
  refine TE.seq ?_
  refine TE.ite rfl (fun hlt => ?_) (fun hlt => ?_)
  ·
    refine TE.skip ?_
    refine TE.seq ?_
    refine TE.block ?_
    refine TE.seq ?_
    refine TE.region ?_
    refine OL.pure (Pure.move rfl) rfl ?_
    refine OL.pure (Pure.assign rfl) rfl ?_
    refine OL.nil ?_
    refine TE.plan 31 (.cons (0, true) (.cons (1, true) (.cons (2, true) (.cons (3, true) (.cons (4, true) (.cons (5, true) (.cons (6, true) (.cons (7, true) (.cons (8, true) (.cons (9, true) (.cons (10, true) (.cons (11, true) (.cons (12, true) (.cons (13, true) (.cons (14, true) (.cons (15, true) (.cons (16, true) (.cons (17, true) (.cons (18, true) (.cons (19, true) (.cons (20, true) (.cons (21, true) (.cons (22, true) (.cons (23, true) (.cons (24, true) (.cons (25, true) (.cons (26, true) (.cons (27, true) (.cons (28, true) (.cons (29, true) (.cons (30, true) .nil))))))))))))))))))))))))))))))) (fun w_ => Chg [] w4 w_) rfl (by kernel_rfl) rfl ?_
    have hS5 : Chg [] w4 w4.drew := Chg.drew _ _
    refine PL.takeP rfl (Pure.move rfl) rfl hS5 ?_
    refine PL.takeP rfl (Pure.move rfl) rfl hS5 ?_
    refine PL.takeP rfl (Pure.move rfl) rfl hS5 ?_
    refine PL.takeP rfl (Pure.mul rfl rfl (i64 (by omega) (by omega))) rfl hS5 ?_
    refine PL.takeP rfl (Pure.indexStr (j := 4 * t) Tryd.runUnderlying9 rfl rfl (by omega) (by omega)) rfl hS5 ?_
    refine PL.takeP rfl (Pure.conv Tryd.runUnderlying5 Tryd.runUnderlying142 rfl (u32bt _ _)) rfl hS5 ?_
    refine PL.takeP rfl (Pure.shl (p := 16777216) rfl rfl (by decide) (by decide) (u32w _)) rfl hS5 ?_
    refine PL.takeP rfl (Pure.move rfl) rfl hS5 ?_
    refine PL.takeP rfl (Pure.move rfl) rfl hS5 ?_
    refine PL.takeP rfl (Pure.mul rfl rfl (i64 (by omega) (by omega))) rfl hS5 ?_
    refine PL.takeP rfl (Pure.add rfl rfl (i64 (by omega) (by omega))) rfl hS5 ?_
    refine PL.takeP rfl (Pure.indexStr (j := 4 * t + 1) Tryd.runUnderlying9 rfl rfl (by omega) (by omega)) rfl hS5 ?_
    refine PL.takeP rfl (Pure.conv Tryd.runUnderlying5 Tryd.runUnderlying142 rfl (u32bt _ _)) rfl hS5 ?_
    refine PL.takeP rfl (Pure.shl (p := 65536) rfl rfl (by decide) (by decide) (u32w _)) rfl hS5 ?_
    refine PL.takeP rfl (Pure.bits rfl rfl rfl) rfl hS5 ?_
    refine PL.takeP rfl (Pure.move rfl) rfl hS5 ?_
    refine PL.takeP rfl (Pure.move rfl) rfl hS5 ?_
    refine PL.takeP rfl (Pure.mul rfl rfl (i64 (by omega) (by omega))) rfl hS5 ?_
    refine PL.takeP rfl (Pure.add rfl rfl (i64 (by omega) (by omega))) rfl hS5 ?_
    refine PL.takeP rfl (Pure.indexStr (j := 4 * t + 2) Tryd.runUnderlying9 rfl rfl (by omega) (by omega)) rfl hS5 ?_
    refine PL.takeP rfl (Pure.conv Tryd.runUnderlying5 Tryd.runUnderlying142 rfl (u32bt _ _)) rfl hS5 ?_
    refine PL.takeP rfl (Pure.shl (p := 256) rfl rfl (by decide) (by decide) (u32w _)) rfl hS5 ?_
    refine PL.takeP rfl (Pure.bits rfl rfl rfl) rfl hS5 ?_
    refine PL.takeP rfl (Pure.move rfl) rfl hS5 ?_
    refine PL.takeP rfl (Pure.move rfl) rfl hS5 ?_
    refine PL.takeP rfl (Pure.mul rfl rfl (i64 (by omega) (by omega))) rfl hS5 ?_
    refine PL.takeP rfl (Pure.add rfl rfl (i64 (by omega) (by omega))) rfl hS5 ?_
    refine PL.takeP rfl (Pure.indexStr (j := 4 * t + 3) Tryd.runUnderlying9 rfl rfl (by omega) (by omega)) rfl hS5 ?_
    refine PL.takeP rfl (Pure.conv Tryd.runUnderlying5 Tryd.runUnderlying142 rfl (u32bt _ _)) rfl hS5 ?_
    refine PL.takeP rfl (Pure.bits rfl rfl rfl) rfl hS5 ?_
    refine PL.takeP rfl (Pure.indexAddrA (r := t) Tryd.runUnderlying151 Tryd.sizeOf142 rfl rfl (by omega) (by omega) (by omega)) rfl hS5 ?_
    refine PL.cast (.int .u32 (word (bt l) t)) 49 rfl (congrArg _ (word_or l t)) ?_
    refine PL.nilTail ?_
    replace hK := hK.chg0 hS5
    replace hs := hs.chg0 hS5
    replace hr := hr.chg0 hS5
    replace hw := hw.chg0 hS5
    replace hC := hC.then_ hS5
    refine OL.store (j := t) rfl rfl Tryd.sizeOf142 rfl hw (by omega) (iv_get (by rw [schedTo_len]; omega)) ?_
    intro w6 hb6 hc6
    replace hK := hK.chg hc6 (by simp; omega)
    replace hs := hs.chg hc6 (by simpa using hs.ne hw (by decide))
    replace hr := hr.chg hc6 (by simpa using hr.ne hw (by decide))
    replace hC := hC.trans1 hc6 (by first | exact .inr (by omega) | exact .inl (by simp))
    replace hw := hb6
    rw [iv_set, ← schedTo_lt (bt l) (show t < 16 by omega)] at hw
    refine OL.nil ?_
    refine TE.inBlock ?_
    refine TE.region ?_
    refine OL.pure (Pure.add rfl rfl (i64 (by omega) (by omega))) rfl ?_
    refine OL.pure (Pure.move rfl) rfl ?_
    refine OL.nil ?_
    exact TE.sub [1, 2, 4, 5, 17] rfl (ih4 (t + 1) _ ⟨by omega, hC, hs, hr, hK, hw⟩ (by omega))
  ·
    obtain rfl : t = 16 := by omega
    refine TE.exit rfl ?_
    refine TE.seq ?_
    refine TE.seq ?_
    refine TE.region ?_
    refine OL.pure (Pure.assign rfl) rfl ?_
    refine OL.nil ?_
    refine TE.block ?_
    refine TE.loopInv (σ := Nat) [1, 2, 4, 5, 7] (fun s_ w_ => 16 ≤ s_ ∧ s_ ≤ 64 ∧ Chg [] w w_ ∧ Blk w_ gs 143 (sv s) ∧ Blk w_ gr 143 (sv zero8) ∧ Blk w_ 1 tK (iv .u32 K) ∧ Blk w_ gw 151 (iv .u32 (schedTo (bt l) s_))) (fun s_ => [(1, .string (str l)), (2, .pointer (some ⟨gs, 0, none⟩)), (4, .pointer (some ⟨gr, 0, none⟩)), (5, .pointer (some ⟨gw, 0, none⟩)), (7, .int .i64 (↑s_))]) (fun s_ => 64 - s_) 16 ⟨by omega, by omega, hC, hs, hr, hK, hw⟩ rfl ?_
    rintro t w7 ⟨ht0, ht, hC, hs, hr, hK, hw⟩ ih7
    refine TE.seq ?_
    refine TE.seq ?_
    refine TE.region ?_
    refine OL.pure (Pure.move rfl) rfl ?_
    refine OL.pure (Pure.lss rfl rfl) rfl ?_
    refine OL.nil ?_
    refine TE.ite rfl (fun hlt => ?_) (fun hlt => ?_)
    ·
      refine TE.skip ?_
      refine TE.seq ?_
      refine TE.block ?_
      refine TE.seq ?_
      refine TE.planAll (.cons (0, true) (.cons (1, true) (.cons (2, true) (.cons (3, true) (.cons (4, true) (.cons (5, true) (.cons (6, true) (.cons (7, true) (.cons (8, true) (.cons (9, true) .nil)))))))))) (fun w_ => Chg [] w7 w_) rfl (by kernel_rfl) ?_
      have hS8 : Chg [] w7 w7.drew := Chg.drew _ _
      refine PL.takeP rfl (Pure.move rfl) rfl hS8 ?_
      refine PL.takeP rfl (Pure.sub rfl rfl (i64 (by omega) (by omega))) rfl hS8 ?_
      refine PL.takeP rfl (Pure.indexAddrA (r := t - 15) Tryd.runUnderlying151 Tryd.sizeOf142 rfl rfl (by omega) (by omega) (by omega)) rfl hS8 ?_
      refine PL.take rfl (fun w_ h_ => Run.load (i := t - 15) rfl Tryd.isAgg142 (hw.chg0 h_) (by omega) (iv_get (by rw [schedTo_len]; omega))) rfl hS8 ?_
      refine PL.takeP rfl (Pure.move rfl) rfl hS8 ?_
      refine PL.takeP rfl (Pure.sub rfl rfl (i64 (by omega) (by omega))) rfl hS8 ?_
      refine PL.takeP rfl (Pure.indexAddrA (r := t - 2) Tryd.runUnderlying151 Tryd.sizeOf142 rfl rfl (by omega) (by omega) (by omega)) rfl hS8 ?_
      refine PL.take rfl (fun w_ h_ => Run.load (i := t - 2) rfl Tryd.isAgg142 (hw.chg0 h_) (by omega) (iv_get (by rw [schedTo_len]; omega))) rfl hS8 ?_
      refine PL.takeP rfl (Pure.assign rfl) rfl hS8 ?_
      refine PL.takeP rfl (Pure.assign rfl) rfl hS8 ?_
      refine PL.nil ?_
      replace hK := hK.chg0 hS8
      replace hs := hs.chg0 hS8
      replace hr := hr.chg0 hS8
      replace hw := hw.chg0 hS8
      replace hC := hC.then_ hS8
      refine TE.plan 29 (.cons (0, true) (.cons (1, true) (.cons (2, true) (.cons (3, true) (.cons (4, true) (.cons (5, true) (.cons (7, true) (.cons (10, true) (.cons (11, true) (.cons (14, true) (.cons (15, true) (.cons (16, true) (.cons (17, true) (.cons (19, true) (.cons (21, true) (.cons (24, true) (.cons (25, true) (.cons (6, false) (.cons (8, false) (.cons (9, true) (.cons (12, true) (.cons (13, true) (.cons (18, true) (.cons (20, false) (.cons (22, false) (.cons (23, true) (.cons (26, true) (.cons (27, true) (.cons (28, true) .nil))))))))))))))))))))))))))))) (fun w_ => Chg [] w7.drew w_) rfl (by kernel_rfl) rfl ?_
      have hS9 : Chg [] w7.drew w7.drew.drew := Chg.drew _ _
      refine PL.takeP rfl (Pure.move rfl) rfl hS9 ?_
      refine PL.takeP rfl (Pure.move rfl) rfl hS9 ?_
      refine PL.takeP rfl (Pure.sub rfl rfl (i64 (by omega) (by omega))) rfl hS9 ?_
      refine PL.takeP rfl (Pure.indexAddrA (r := t - 16) Tryd.runUnderlying151 Tryd.sizeOf142 rfl rfl (by omega) (by omega) (by omega)) rfl hS9 ?_
      refine PL.take rfl (fun w_ h_ => Run.load (i := t - 16) rfl Tryd.isAgg142 (hw.chg0 h_) (by omega) (iv_get (by rw [schedTo_len]; omega))) rfl hS9 ?_
      refine PL.takeP rfl (Pure.move rfl) rfl hS9 ?_
      refine PL.takeP rfl (Pure.move rfl) rfl hS9 ?_
      refine PL.takeP rfl (Pure.move rfl) rfl hS9 ?_
      refine PL.takeP rfl (Pure.shr (p := 8) rfl rfl (by decide) (by decide)) rfl hS9 ?_
      refine PL.takeP rfl (Pure.move rfl) rfl hS9 ?_
      refine PL.takeP rfl (Pure.sub rfl rfl (i64 (by omega) (by omega))) rfl hS9 ?_
      refine PL.takeP rfl (Pure.indexAddrA (r := t - 7) Tryd.runUnderlying151 Tryd.sizeOf142 rfl rfl (by omega) (by omega) (by omega)) rfl hS9 ?_
      refine PL.take rfl (fun w_ h_ => Run.load (i := t - 7) rfl Tryd.isAgg142 (hw.chg0 h_) (by omega) (iv_get (by rw [schedTo_len]; omega))) rfl hS9 ?_
      refine PL.takeP rfl (Pure.move rfl) rfl hS9 ?_
      refine PL.takeP rfl (Pure.move rfl) rfl hS9 ?_
      refine PL.takeP rfl (Pure.move rfl) rfl hS9 ?_
      refine PL.takeP rfl (Pure.shr (p := 1024) rfl rfl (by decide) (by decide)) rfl hS9 ?_
      refine PL.call rfl rfl Tryd.call86 rfl (right_any _ 7 (by omega) (by omega) _) ?_
      rintro _ _ ⟨rfl, rfl⟩
      refine ⟨_, rfl, hS9, ?_⟩
      refine PL.call rfl rfl Tryd.call86 rfl (right_any _ 18 (by omega) (by omega) _) ?_
      rintro _ _ ⟨rfl, rfl⟩
      refine ⟨_, rfl, hS9, ?_⟩
      refine PL.takeP rfl (Pure.bits rfl rfl rfl) rfl hS9 ?_
      refine PL.takeP rfl (Pure.bits rfl rfl rfl) rfl hS9 ?_
      refine PL.takeP rfl (Pure.add rfl rfl (u32w _)) rfl hS9 ?_
      refine PL.takeP rfl (Pure.add rfl rfl (u32w _)) rfl hS9 ?_
      refine PL.call rfl rfl Tryd.call86 rfl (right_any _ 17 (by omega) (by omega) _) ?_
      rintro _ _ ⟨rfl, rfl⟩
      refine ⟨_, rfl, hS9, ?_⟩
      refine PL.call rfl rfl Tryd.call86 rfl (right_any _ 19 (by omega) (by omega) _) ?_
      rintro _ _ ⟨rfl, rfl⟩
      refine ⟨_, rfl, hS9, ?_⟩
      refine PL.takeP rfl (Pure.bits rfl rfl rfl) rfl hS9 ?_
      refine PL.takeP rfl (Pure.bits rfl rfl rfl) rfl hS9 ?_
      refine PL.takeP rfl (Pure.add rfl rfl (u32w _)) rfl hS9 ?_
      refine PL.takeP rfl (Pure.indexAddrA (r := t) Tryd.runUnderlying151 Tryd.sizeOf142 rfl rfl (by omega) (by omega) (by omega)) rfl hS9 ?_
      refine PL.cast (.int .u32 (next (schedTo (bt l) t) t)) 91 rfl (rfl) ?_
      refine PL.nilTail ?_
      replace hK := hK.chg0 hS9
      replace hs := hs.chg0 hS9
      replace hr := hr.chg0 hS9
      replace hw := hw.chg0 hS9
      replace hC := hC.then_ hS9
      refine OL.store (j := t) rfl rfl Tryd.sizeOf142 rfl hw (by omega) (iv_get (by rw [schedTo_len]; omega)) ?_
      intro w10 hb10 hc10
      replace hK := hK.chg hc10 (by simp; omega)
      replace hs := hs.chg hc10 (by simpa using hs.ne hw (by decide))
      replace hr := hr.chg hc10 (by simpa using hr.ne hw (by decide))
      replace hC := hC.trans1 hc10 (by first | exact .inr (by omega) | exact .inl (by simp))
      replace hw := hb10
      rw [iv_set, ← schedTo_ge (bt l) ht0] at hw
      refine OL.nil ?_
      refine TE.inBlock ?_
      refine TE.region ?_
      refine OL.pure (Pure.move rfl) rfl ?_
      refine OL.pure (Pure.add rfl rfl (i64 (by omega) (by omega))) rfl ?_
      refine OL.pure (Pure.assign rfl) rfl ?_
      refine OL.nil ?_
      exact TE.sub [1, 2, 4, 5, 7] rfl (ih7 (t + 1) _ ⟨by omega, by omega, hC, hs, hr, hK, hw⟩ (by omega))
    ·
      obtain rfl : t = 64 := by omega
      refine TE.exit rfl ?_
      refine TE.seq ?_
      refine TE.region ?_
      refine OL.val (Run.loadAll rfl Tryd.underlying143 rfl hs (rfl)) rfl ?_
      refine OL.alloc Tryd.zeroValue143 rfl ?_
      intro gx w11 hx hc11 hg_gx
      have lt_1_gx : 1 < gx := by have := hK.lt; omega
      have lt_gs_gx : gs < gx := by have := hs.lt; omega
      have lt_gr_gx : gr < gx := by have := hr.lt; omega
      have lt_gw_gx : gw < gx := by have := hw.lt; omega
      have ge_gx : w.heap.size ≤ gx := by have := hC.size; omega
      replace hK := hK.chg0 hc11
      replace hs := hs.chg0 hc11
      replace hr := hr.chg0 hc11
      replace hw := hw.chg0 hc11
      replace hC := hC.then_ hc11
      refine OL.storeRow (vs := sv s) rfl rfl (rfl) (by simp [sv, iv, S8.l, Value.oneCell']) hx (Nat.le_refl 8) ?_
      intro w12 hb12 hc12
      replace hK := hK.chg hc12 (by simp; omega)
      replace hs := hs.chg hc12 (by simp; omega)
      replace hr := hr.chg hc12 (by simp; omega)
      replace hw := hw.chg hc12 (by simpa using hw.ne hx (by decide))
      replace hC := hC.trans1 hc12 (by first | exact .inr (by omega) | exact .inl (by simp))
      replace hx := hb12
      replace hx := hx.all rfl
      refine OL.nil ?_
      refine TE.seq ?_
      refine TE.seq ?_
      refine TE.region ?_
      refine OL.pure (Pure.move rfl) rfl ?_
      refine OL.nil ?_
      refine TE.block ?_
      refine TE.loopInv (σ := Nat) [1, 2, 4, 5, 10, 94] (fun s_ w_ => s_ ≤ 64 ∧ Chg [] w w_ ∧ Blk w_ gs 143 (sv s) ∧ Blk w_ gr 143 (sv zero8) ∧ Blk w_ 1 tK (iv .u32 K) ∧ Blk w_ gw 151 (iv .u32 (schedTo (bt l) 64)) ∧ Blk w_ gx 143 (sv (rounds (schedTo (bt l) 64) s s_))) (fun s_ => [(1, .string (str l)), (2, .pointer (some ⟨gs, 0, none⟩)), (4, .pointer (some ⟨gr, 0, none⟩)), (5, .pointer (some ⟨gw, 0, none⟩)), (10, .pointer (some ⟨gx, 0, none⟩)), (94, .int .i64 (↑s_))]) (fun s_ => 64 - s_) 0 ⟨by omega, hC, hs, hr, hK, hw, hx⟩ rfl ?_
      rintro t w13 ⟨ht, hC, hs, hr, hK, hw, hx⟩ ih13
      refine TE.seq ?_
      refine TE.region ?_
      refine OL.pure (Pure.lss rfl rfl) rfl ?_
      refine OL.nil ?_
      refine TE.seq ?_
      refine TE.ite rfl (fun hlt => ?_) (fun hlt => ?_)
      ·
        generalize hR : rounds (schedTo (bt l) 64) s t = R at hx
        refine TE.skip ?_
        refine TE.seq ?_
        refine TE.block ?_
        refine TE.seq ?_
        refine TE.region ?_
        refine OL.pure (Pure.move rfl) rfl ?_
        refine OL.pure (Pure.assign rfl) rfl ?_
        refine OL.nil ?_
        refine TE.seq ?_
        refine TE.planAll (.cons (0, true) (.cons (1, true) (.cons (2, true) (.cons (3, true) (.cons (4, true) (.cons (5, true) .nil)))))) (fun w_ => Chg [] w13 w_) rfl (by kernel_rfl) ?_
        have hS14 : Chg [] w13 w13.drew := Chg.drew _ _
        refine PL.takeP rfl (Pure.indexAddrA (r := 0) Tryd.runUnderlying143 Tryd.sizeOf142 rfl rfl (by omega) (by omega) (by omega)) rfl hS14 ?_
        refine PL.take rfl (fun w_ h_ => Run.load (i := 0) rfl Tryd.isAgg142 (hx.chg0 h_) (by omega) rfl) rfl hS14 ?_
        refine PL.takeP rfl (Pure.indexAddrA (r := 4) Tryd.runUnderlying143 Tryd.sizeOf142 rfl rfl (by omega) (by omega) (by omega)) rfl hS14 ?_
        refine PL.take rfl (fun w_ h_ => Run.load (i := 4) rfl Tryd.isAgg142 (hx.chg0 h_) (by omega) rfl) rfl hS14 ?_
        refine PL.takeP rfl (Pure.assign rfl) rfl hS14 ?_
        refine PL.takeP rfl (Pure.assign rfl) rfl hS14 ?_
        refine PL.nil ?_
        replace hK := hK.chg0 hS14
        replace hs := hs.chg0 hS14
        replace hr := hr.chg0 hS14
        replace hw := hw.chg0 hS14
        replace hx := hx.chg0 hS14
        replace hC := hC.then_ hS14
        refine TE.seq ?_
        refine TE.planAll (.cons (0, true) (.cons (1, true) (.cons (2, true) (.cons (4, true) (.cons (7, true) (.cons (11, true) (.cons (12, true) (.cons (13, true) (.cons (14, true) (.cons (15, true) (.cons (16, true) (.cons (17, true) (.cons (18, true) (.cons (19, true) (.cons (20, true) (.cons (22, true) (.cons (23, true) (.cons (24, true) (.cons (26, true) (.cons (27, true) (.cons (28, true) (.cons (3, false) (.cons (5, false) (.cons (6, true) (.cons (8, false) (.cons (9, true) (.cons (10, true) (.cons (21, true) (.cons (25, true) (.cons (29, true) (.cons (30, true) .nil))))))))))))))))))))))))))))))) (fun w_ => Chg [] w13.drew w_) rfl (by kernel_rfl) ?_
        have hS15 : Chg [] w13.drew w13.drew.drew := Chg.drew _ _
        refine PL.takeP rfl (Pure.indexAddrA (r := 7) Tryd.runUnderlying143 Tryd.sizeOf142 rfl rfl (by omega) (by omega) (by omega)) rfl hS15 ?_
        refine PL.take rfl (fun w_ h_ => Run.load (i := 7) rfl Tryd.isAgg142 (hx.chg0 h_) (by omega) rfl) rfl hS15 ?_
        refine PL.takeP rfl (Pure.move rfl) rfl hS15 ?_
        refine PL.takeP rfl (Pure.move rfl) rfl hS15 ?_
        refine PL.takeP rfl (Pure.move rfl) rfl hS15 ?_
        refine PL.takeP rfl (Pure.move rfl) rfl hS15 ?_
        refine PL.takeP rfl (Pure.indexAddrA (r := 5) Tryd.runUnderlying143 Tryd.sizeOf142 rfl rfl (by omega) (by omega) (by omega)) rfl hS15 ?_
        refine PL.take rfl (fun w_ h_ => Run.load (i := 5) rfl Tryd.isAgg142 (hx.chg0 h_) (by omega) rfl) rfl hS15 ?_
        refine PL.takeP rfl (Pure.bits rfl rfl rfl) rfl hS15 ?_
        refine PL.takeP rfl (Pure.move rfl) rfl hS15 ?_
        refine PL.takeP rfl (Pure.compl rfl) rfl hS15 ?_
        refine PL.takeP rfl (Pure.indexAddrA (r := 6) Tryd.runUnderlying143 Tryd.sizeOf142 rfl rfl (by omega) (by omega) (by omega)) rfl hS15 ?_
        refine PL.take rfl (fun w_ h_ => Run.load (i := 6) rfl Tryd.isAgg142 (hx.chg0 h_) (by omega) rfl) rfl hS15 ?_
        refine PL.takeP rfl (Pure.bits rfl rfl rfl) rfl hS15 ?_
        refine PL.takeP rfl (Pure.bits rfl rfl rfl) rfl hS15 ?_
        refine PL.takeP rfl (Pure.move rfl) rfl hS15 ?_
        refine PL.takeP rfl (Pure.indexAddrA (r := t) Tryd.runUnderlying151 Tryd.sizeOf142 rfl rfl (by omega) (by omega) (by omega)) rfl hS15 ?_
        refine PL.take rfl (fun w_ h_ => Run.load (i := t) rfl Tryd.isAgg142 (hK.chg0 h_) (by omega) (iv_get (by rw [K_len]; omega))) rfl hS15 ?_
        refine PL.takeP rfl (Pure.move rfl) rfl hS15 ?_
        refine PL.takeP rfl (Pure.indexAddrA (r := t) Tryd.runUnderlying151 Tryd.sizeOf142 rfl rfl (by omega) (by omega) (by omega)) rfl hS15 ?_
        refine PL.take rfl (fun w_ h_ => Run.load (i := t) rfl Tryd.isAgg142 (hw.chg0 h_) (by omega) (iv_get (by rw [schedTo_len]; omega))) rfl hS15 ?_
        refine PL.call rfl rfl Tryd.call86 rfl (right_any _ 6 (by omega) (by omega) _) ?_
        rintro _ _ ⟨rfl, rfl⟩
        refine ⟨_, rfl, hS15, ?_⟩
        refine PL.call rfl rfl Tryd.call86 rfl (right_any _ 11 (by omega) (by omega) _) ?_
        rintro _ _ ⟨rfl, rfl⟩
        refine ⟨_, rfl, hS15, ?_⟩
        refine PL.takeP rfl (Pure.bits rfl rfl rfl) rfl hS15 ?_
        refine PL.call rfl rfl Tryd.call86 rfl (right_any _ 25 (by omega) (by omega) _) ?_
        rintro _ _ ⟨rfl, rfl⟩
        refine ⟨_, rfl, hS15, ?_⟩
        refine PL.takeP rfl (Pure.bits rfl rfl rfl) rfl hS15 ?_
        refine PL.takeP rfl (Pure.add rfl rfl (u32w _)) rfl hS15 ?_
        refine PL.takeP rfl (Pure.add rfl rfl (u32w _)) rfl hS15 ?_
        refine PL.takeP rfl (Pure.add rfl rfl (u32w _)) rfl hS15 ?_
        refine PL.takeP rfl (Pure.add rfl rfl (u32w _)) rfl hS15 ?_
        refine PL.takeP rfl (Pure.assign rfl) rfl hS15 ?_
        refine PL.nil ?_
        replace hK := hK.chg0 hS15
        replace hs := hs.chg0 hS15
        replace hr := hr.chg0 hS15
        replace hw := hw.chg0 hS15
        replace hx := hx.chg0 hS15
        replace hC := hC.then_ hS15
        refine TE.seq ?_
        refine TE.planAll (.cons (0, true) (.cons (2, true) (.cons (5, true) (.cons (8, true) (.cons (9, true) (.cons (10, true) (.cons (11, true) (.cons (12, true) (.cons (13, true) (.cons (14, true) (.cons (15, true) (.cons (16, true) (.cons (17, true) (.cons (18, true) (.cons (19, true) (.cons (20, true) (.cons (21, true) (.cons (22, true) (.cons (1, false) (.cons (3, false) (.cons (4, true) (.cons (6, false) (.cons (7, true) (.cons (23, true) (.cons (24, true) .nil))))))))))))))))))))))))) (fun w_ => Chg [] w13.drew.drew w_) rfl (by kernel_rfl) ?_
        have hS16 : Chg [] w13.drew.drew w13.drew.drew.drew := Chg.drew _ _
        refine PL.takeP rfl (Pure.move rfl) rfl hS16 ?_
        refine PL.takeP rfl (Pure.move rfl) rfl hS16 ?_
        refine PL.takeP rfl (Pure.move rfl) rfl hS16 ?_
        refine PL.takeP rfl (Pure.move rfl) rfl hS16 ?_
        refine PL.takeP rfl (Pure.indexAddrA (r := 1) Tryd.runUnderlying143 Tryd.sizeOf142 rfl rfl (by omega) (by omega) (by omega)) rfl hS16 ?_
        refine PL.take rfl (fun w_ h_ => Run.load (i := 1) rfl Tryd.isAgg142 (hx.chg0 h_) (by omega) rfl) rfl hS16 ?_
        refine PL.takeP rfl (Pure.bits rfl rfl rfl) rfl hS16 ?_
        refine PL.takeP rfl (Pure.move rfl) rfl hS16 ?_
        refine PL.takeP rfl (Pure.indexAddrA (r := 2) Tryd.runUnderlying143 Tryd.sizeOf142 rfl rfl (by omega) (by omega) (by omega)) rfl hS16 ?_
        refine PL.take rfl (fun w_ h_ => Run.load (i := 2) rfl Tryd.isAgg142 (hx.chg0 h_) (by omega) rfl) rfl hS16 ?_
        refine PL.takeP rfl (Pure.bits rfl rfl rfl) rfl hS16 ?_
        refine PL.takeP rfl (Pure.bits rfl rfl rfl) rfl hS16 ?_
        refine PL.takeP rfl (Pure.indexAddrA (r := 1) Tryd.runUnderlying143 Tryd.sizeOf142 rfl rfl (by omega) (by omega) (by omega)) rfl hS16 ?_
        refine PL.take rfl (fun w_ h_ => Run.load (i := 1) rfl Tryd.isAgg142 (hx.chg0 h_) (by omega) rfl) rfl hS16 ?_
        refine PL.takeP rfl (Pure.indexAddrA (r := 2) Tryd.runUnderlying143 Tryd.sizeOf142 rfl rfl (by omega) (by omega) (by omega)) rfl hS16 ?_
        refine PL.take rfl (fun w_ h_ => Run.load (i := 2) rfl Tryd.isAgg142 (hx.chg0 h_) (by omega) rfl) rfl hS16 ?_
        refine PL.takeP rfl (Pure.bits rfl rfl rfl) rfl hS16 ?_
        refine PL.takeP rfl (Pure.bits rfl rfl rfl) rfl hS16 ?_
        refine PL.call rfl rfl Tryd.call86 rfl (right_any _ 2 (by omega) (by omega) _) ?_
        rintro _ _ ⟨rfl, rfl⟩
        refine ⟨_, rfl, hS16, ?_⟩
        refine PL.call rfl rfl Tryd.call86 rfl (right_any _ 13 (by omega) (by omega) _) ?_
        rintro _ _ ⟨rfl, rfl⟩
        refine ⟨_, rfl, hS16, ?_⟩
        refine PL.takeP rfl (Pure.bits rfl rfl rfl) rfl hS16 ?_
        refine PL.call rfl rfl Tryd.call86 rfl (right_any _ 22 (by omega) (by omega) _) ?_
        rintro _ _ ⟨rfl, rfl⟩
        refine ⟨_, rfl, hS16, ?_⟩
        refine PL.takeP rfl (Pure.bits rfl rfl rfl) rfl hS16 ?_
        refine PL.takeP rfl (Pure.add rfl rfl (u32w _)) rfl hS16 ?_
        refine PL.takeP rfl (Pure.assign rfl) rfl hS16 ?_
        refine PL.nil ?_
        replace hK := hK.chg0 hS16
        replace hs := hs.chg0 hS16
        replace hr := hr.chg0 hS16
        replace hw := hw.chg0 hS16
        replace hx := hx.chg0 hS16
        replace hC := hC.then_ hS16
        refine TE.region ?_
        refine OL.pure (Pure.move rfl) rfl ?_
        refine OL.pure (Pure.move rfl) rfl ?_
        refine OL.pure (Pure.add rfl rfl (u32w _)) rfl ?_
        refine OL.pure (Pure.move rfl) rfl ?_
        refine OL.pure (Pure.indexAddrA (r := 1) Tryd.runUnderlying143 Tryd.sizeOf142 rfl rfl (by omega) (by omega) (by omega)) rfl ?_
        refine OL.val (Run.load (i := 1) rfl Tryd.isAgg142 hx (by omega) rfl) rfl ?_
        refine OL.pure (Pure.indexAddrA (r := 2) Tryd.runUnderlying143 Tryd.sizeOf142 rfl rfl (by omega) (by omega) (by omega)) rfl ?_
        refine OL.val (Run.load (i := 2) rfl Tryd.isAgg142 hx (by omega) rfl) rfl ?_
        refine OL.pure (Pure.indexAddrA (r := 3) Tryd.runUnderlying143 Tryd.sizeOf142 rfl rfl (by omega) (by omega) (by omega)) rfl ?_
        refine OL.val (Run.load (i := 3) rfl Tryd.isAgg142 hx (by omega) rfl) rfl ?_
        refine OL.pure (Pure.move rfl) rfl ?_
        refine OL.pure (Pure.add rfl rfl (u32w _)) rfl ?_
        refine OL.pure (Pure.move rfl) rfl ?_
        refine OL.pure (Pure.indexAddrA (r := 5) Tryd.runUnderlying143 Tryd.sizeOf142 rfl rfl (by omega) (by omega) (by omega)) rfl ?_
        refine OL.val (Run.load (i := 5) rfl Tryd.isAgg142 hx (by omega) rfl) rfl ?_
        refine OL.pure (Pure.indexAddrA (r := 6) Tryd.runUnderlying143 Tryd.sizeOf142 rfl rfl (by omega) (by omega) (by omega)) rfl ?_
        refine OL.val (Run.load (i := 6) rfl Tryd.isAgg142 hx (by omega) rfl) rfl ?_
        refine OL.pure (Pure.build (cs := sv (round R (K.getD t 0) ((schedTo (bt l) 64).getD t 0))) rfl (by kernel_rfl)) rfl ?_
        refine OL.storeRow (vs := sv (round R (K.getD t 0) ((schedTo (bt l) 64).getD t 0))) rfl rfl (rfl) (by simp [sv, iv, S8.l, Value.oneCell']) hx (Nat.le_refl 8) ?_
        intro w17 hb17 hc17
        replace hK := hK.chg hc17 (by simp; omega)
        replace hs := hs.chg hc17 (by simp; omega)
        replace hr := hr.chg hc17 (by simp; omega)
        replace hw := hw.chg hc17 (by simpa using hw.ne hx (by decide))
        replace hC := hC.trans1 hc17 (by first | exact .inr (by omega) | exact .inl (by simp))
        replace hx := hb17
        replace hx := hx.all rfl
        rw [← hR] at hx
        refine OL.nil ?_
        refine TE.inBlock ?_
        refine TE.region ?_
        refine OL.pure (Pure.add rfl rfl (i64 (by omega) (by omega))) rfl ?_
        refine OL.pure (Pure.move rfl) rfl ?_
        refine OL.nil ?_
        exact TE.sub [1, 2, 4, 5, 10, 94] rfl (ih13 (t + 1) _ ⟨by omega, hC, hs, hr, hK, hw, hx⟩ (by omega))
      ·
        obtain rfl : t = 64 := by omega
        generalize hR : rounds (schedTo (bt l) 64) s 64 = R at hx
        refine TE.exit rfl ?_
        refine TE.seq ?_
        refine TE.seq ?_
        refine TE.region ?_
        refine OL.pure (Pure.move rfl) rfl ?_
        refine OL.nil ?_
        refine TE.block ?_
        refine TE.loopInv (σ := Nat) [2, 4, 10, 174] (fun s_ w_ => s_ ≤ 8 ∧ Chg [] w w_ ∧ Blk w_ gr 143 (sv zero8) ∧ Blk w_ gx 143 (sv R) ∧ Blk w_ gs 143 (iv .u32 (addTo s.l R.l s_))) (fun s_ => [(2, .pointer (some ⟨gs, 0, none⟩)), (4, .pointer (some ⟨gr, 0, none⟩)), (10, .pointer (some ⟨gx, 0, none⟩)), (174, .int .i64 (↑s_))]) (fun s_ => 8 - s_) 0 ⟨by omega, hC, hr, hx, hs⟩ rfl ?_
        rintro t w18 ⟨ht, hC, hr, hx, hs⟩ ih18
        refine TE.seq ?_
        refine TE.region ?_
        refine OL.pure (Pure.lss rfl rfl) rfl ?_
        refine OL.nil ?_
        refine TE.seq ?_
        refine TE.ite rfl (fun hlt => ?_) (fun hlt => ?_)
        ·
          refine TE.skip ?_
          refine TE.seq ?_
          refine TE.block ?_
          refine TE.seq ?_
          refine TE.region ?_
          refine OL.pure (Pure.move rfl) rfl ?_
          refine OL.pure (Pure.assign rfl) rfl ?_
          refine OL.nil ?_
          refine TE.plan 8 (.cons (0, true) (.cons (1, true) (.cons (2, true) (.cons (3, true) (.cons (4, true) (.cons (5, true) (.cons (6, true) (.cons (7, true) .nil)))))))) (fun w_ => Chg [] w18 w_) rfl (by kernel_rfl) rfl ?_
          have hS19 : Chg [] w18 w18.drew := Chg.drew _ _
          refine PL.takeP rfl (Pure.move rfl) rfl hS19 ?_
          refine PL.takeP rfl (Pure.indexAddrA (r := t) Tryd.runUnderlying143 Tryd.sizeOf142 rfl rfl (by omega) (by omega) (by omega)) rfl hS19 ?_
          refine PL.take rfl (fun w_ h_ => Run.load (i := t) rfl Tryd.isAgg142 (hs.chg0 h_) (by omega) (iv_get (by rw [addTo_len]; show _ < 8; omega))) rfl hS19 ?_
          refine PL.takeP rfl (Pure.move rfl) rfl hS19 ?_
          refine PL.takeP rfl (Pure.indexAddrA (r := t) Tryd.runUnderlying143 Tryd.sizeOf142 rfl rfl (by omega) (by omega) (by omega)) rfl hS19 ?_
          refine PL.take rfl (fun w_ h_ => Run.load (i := t) rfl Tryd.isAgg142 (hx.chg0 h_) (by omega) (iv_get (show _ < 8 by omega))) rfl hS19 ?_
          refine PL.takeP rfl (Pure.add rfl rfl (u32w _)) rfl hS19 ?_
          refine PL.takeP rfl (Pure.indexAddrA (r := t) Tryd.runUnderlying143 Tryd.sizeOf142 rfl rfl (by omega) (by omega) (by omega)) rfl hS19 ?_
          refine PL.nilTail ?_
          replace hr := hr.chg0 hS19
          replace hx := hx.chg0 hS19
          replace hs := hs.chg0 hS19
          replace hC := hC.then_ hS19
          refine OL.store (j := t) rfl rfl Tryd.sizeOf142 rfl hs (by omega) (iv_get (by rw [addTo_len]; show _ < 8; omega)) ?_
          intro w20 hb20 hc20
          replace hr := hr.chg hc20 (by simp; omega)
          replace hx := hx.chg hc20 (by simp; omega)
          replace hC := hC.trans1 hc20 (by first | exact .inr (by omega) | exact .inl (by simp))
          replace hs := hb20
          rw [iv_set] at hs
          refine OL.nil ?_
          refine TE.inBlock ?_
          refine TE.region ?_
          refine OL.pure (Pure.add rfl rfl (i64 (by omega) (by omega))) rfl ?_
          refine OL.pure (Pure.move rfl) rfl ?_
          refine OL.nil ?_
          exact TE.sub [2, 4, 10, 174] rfl (ih18 (t + 1) _ ⟨by omega, hC, hr, hx, hs⟩ (by omega))
        ·
          obtain rfl : t = 8 := by omega
          replace hs : Blk _ gs 143 (sv (addS s R)) := hs
          refine TE.exit rfl ?_
          refine TE.seq ?_
          refine TE.region ?_
          refine OL.val (Run.loadAll rfl Tryd.underlying143 rfl hs (rfl)) rfl ?_
          refine OL.storeRow (vs := sv (addS s R)) rfl rfl (rfl) (by simp [sv, iv, S8.l, Value.oneCell']) hr (Nat.le_refl 8) ?_
          intro w21 hb21 hc21
          replace hx := hx.chg hc21 (by simp; omega)
          replace hs := hs.chg hc21 (by simp; omega)
          replace hC := hC.trans1 hc21 (by first | exact .inr (by omega) | exact .inl (by simp))
          replace hr := hb21
          replace hr := hr.all rfl
          refine OL.nil ?_
          subst hR
          exact TE.ret (vs := [.agg (sv (comp s (bt l))).toArray]) Tryd.results85 (⟨⟨_, rfl, loadRow_at Tryd.underlying143 rfl rfl hr rfl⟩, trivial⟩) ⟨rfl, hC⟩

end Go.Proofs.YtcologcjhenmkaaDoor
/- the reference: its block, walked -/
set_option linter.unusedVariables false
set_option maxRecDepth 4000
namespace Go.Proofs.YtcologcjhenmkaaDoor
open Go.V Go.Sha
theorem begin_any (w : World) : Calls Tryd.prog 84 #[] w (RetC (.agg (sv init).toArray) w) := by
  refine calls_of_TE (vs := []) Tryd.func84 Tryd.ntmps84 rfl (by simp) ?_
  have hC : Chg [] w w := Chg.refl _ _
  refine TE.seq ?_
  refine TE.region ?_
  refine OL.alloc Tryd.zeroValue143 rfl ?_
  intro gr w1 hr hc1 hg_gr
  have ge_gr : w.heap.size ≤ gr := by have := hC.size; omega
  replace hC := hC.then_ hc1
  refine OL.nil ?_
  refine TE.seq ?_
  refine TE.region ?_
  refine OL.pure (Pure.build (cs := sv init) rfl (by kernel_rfl)) rfl ?_
  refine OL.storeRow (vs := sv init) rfl rfl (rfl) (by simp [sv, iv, S8.l, Value.oneCell']) hr (Nat.le_refl 8) ?_
  intro w2 hb2 hc2
  replace hC := hC.trans1 hc2 (by first | exact .inr (by omega) | exact .inl (by simp))
  replace hr := hb2
  replace hr := hr.all rfl
  refine OL.nil ?_
  exact TE.ret (vs := [.agg (sv init).toArray]) Tryd.results84 (⟨⟨_, rfl, loadRow_at Tryd.underlying143 rfl rfl hr rfl⟩, trivial⟩) ⟨rfl, hC⟩

end Go.Proofs.YtcologcjhenmkaaDoor
/- Pad, Write, Sum, walked -/
set_option linter.unusedVariables false
set_option maxRecDepth 4000
namespace Go.Proofs.YtcologcjhenmkaaDoor
open Go.V Go.Sha
theorem info5 : Tryd.prog.info? 5 = some Tryd.t5 := by kernel_rfl
theorem write_any {tK : TypeId} (m l : List UInt8) (hn : m.length + l.length ≤ 4294967296) (g : Nat) (h0 : 1 < g) (w : World) (hK : Blk w 1 tK (iv .u32 K)) (hb : Blk w g 145 (hashCells m)) : Calls Tryd.prog 82 #[.pointer (some ⟨g, 0, none⟩), .string (str l)] w (RetW (.int .i64 0) g 145 (hashCells (m ++ l)) w) := by
  refine calls_of_TE (vs := [.pointer (some ⟨g, 0, none⟩), .string (str l)]) Tryd.func82 Tryd.ntmps82 rfl (by simp) ?_
  have hC : Chg [g] w w := Chg.refl _ _
  refine TE.seq ?_
  refine TE.region ?_
  refine OL.pure (Pure.assign rfl) rfl ?_
  refine OL.nil ?_
  refine TE.seq ?_
  refine TE.seq ?_
  refine TE.region ?_
  refine OL.pure (Pure.move rfl) rfl ?_
  refine OL.pure (Pure.eqlNil Tryd.underlying148 rfl rfl) rfl ?_
  refine OL.nil ?_
  refine TE.condF rfl rfl ?_
  refine TE.skip ?_
  refine TE.seq ?_
  refine TE.seq ?_
  refine TE.region ?_
  refine OL.pure (Pure.move rfl) rfl ?_
  refine OL.pure (Pure.nilCheck rfl) rfl ?_
  refine OL.pure (Pure.fieldAddr (r := 9) Tryd.runUnderlying145 rfl Tryd.sizeOf3 rfl rfl) rfl ?_
  refine OL.val (Run.load (i := 9) rfl Tryd.isAgg3 hb (by omega) rfl) rfl ?_
  refine OL.pure (Pure.lss rfl rfl) rfl ?_
  refine OL.nil ?_
  refine TE.join (σ := Unit) [0, 1] (fun s_ w_ => Chg [g] w w_ ∧ Blk w_ 1 tK (iv .u32 K) ∧ Blk w_ g 145 (hcells (absorb init (m.take (cut m))) (m.drop (cut m)) m.length)) (fun s_ => [(0, .pointer (some ⟨g, 0, none⟩)), (1, .string (str l))]) rfl (fun hlt hj1 => ?_) (fun hlt hj1 => ?_) (fun s_ w_ h_ => ?_)
  ·
    refine TE.region ?_
    refine OL.pure (Pure.move rfl) rfl ?_
    refine OL.call rfl Tryd.call84 rfl (begin_any _) ?_
    rintro _ w2 ⟨rfl, hc2⟩
    replace hK := hK.chg0 hc2
    replace hb := hb.chg0 hc2
    replace hC := hC.then_ hc2
    refine ⟨_, rfl, ?_⟩
    refine OL.pure (Pure.nilCheck rfl) rfl ?_
    refine OL.pure (Pure.fieldAddr (r := 0) Tryd.runUnderlying145 rfl Tryd.sizeOf143 rfl rfl) rfl ?_
    refine OL.storeRow (vs := sv init) rfl rfl (rfl) (by simp [sv, iv, S8.l, Value.oneCell']) hb (by show 0 + 8 ≤ 10; decide) ?_
    intro w3 hb3 hc3
    replace hK := hK.chg hc3 (by simp; omega)
    replace hC := hC.trans1 hc3 (by first | exact .inr (by omega) | exact .inl (by simp))
    replace hb := hb3
    rw [hash_first (by omega)] at hb
    exact TE.sub [0, 1] rfl (hj1 () _ ⟨hC, hK, hb⟩)
  ·
    rw [hash_big (by omega)] at hb
    refine TE.skip ?_
    exact TE.sub [0, 1] rfl (hj1 () _ ⟨hC, hK, hb⟩)
  ·
    revert s_ w_ h_
    rintro ⟨⟩ w1 ⟨hC, hK, hb⟩
    try dsimp only
    refine TE.seq ?_
    refine TE.region ?_
    refine OL.pure (Pure.move rfl) rfl ?_
    refine OL.pure (Pure.nilCheck rfl) rfl ?_
    refine OL.pure (Pure.fieldAddr (r := 9) Tryd.runUnderlying145 rfl Tryd.sizeOf3 rfl rfl) rfl ?_
    refine OL.val (Run.load (i := 9) rfl Tryd.isAgg3 hb (by omega) rfl) rfl ?_
    refine OL.pure (Pure.move rfl) rfl ?_
    refine OL.pure (Pure.lenStr Tryd.runUnderlying9 rfl) rfl ?_
    refine OL.pure (Pure.add rfl rfl (i64 (by omega) (by omega))) rfl ?_
    refine OL.pure (Pure.nilCheck rfl) rfl ?_
    refine OL.pure (Pure.fieldAddr (r := 9) Tryd.runUnderlying145 rfl Tryd.sizeOf3 rfl rfl) rfl ?_
    refine OL.store (j := 9) rfl rfl Tryd.sizeOf3 rfl hb (by omega) (rfl) ?_
    intro w4 hb4 hc4
    replace hK := hK.chg hc4 (by simp; omega)
    replace hC := hC.trans1 hc4 (by first | exact .inr (by omega) | exact .inl (by simp))
    replace hb := hb4
    replace hb : Blk w4 g 145 (hcells (absorb init (m.take (cut m))) (m.drop (cut m)) (m.length + l.length)) := hb
    refine OL.nil ?_
    refine TE.seq ?_
    refine TE.region ?_
    refine OL.pure (Pure.move rfl) rfl ?_
    refine OL.pure (Pure.nilCheck rfl) rfl ?_
    refine OL.pure (Pure.fieldAddr (r := 8) Tryd.runUnderlying145 rfl Tryd.sizeOf9 rfl rfl) rfl ?_
    refine OL.val (Run.load (i := 8) rfl Tryd.isAgg9 hb (by omega) rfl) rfl ?_
    refine OL.pure (Pure.move rfl) rfl ?_
    refine OL.pure (Pure.strAdd (l := (m.drop (cut m))) (m := l) rfl rfl (by simp; omega)) rfl ?_
    refine OL.pure (Pure.assign rfl) rfl ?_
    refine OL.nil ?_
    refine TE.seq ?_
    refine TE.block ?_
    obtain ⟨A, hA⟩ : ∃ A, A = m.drop (cut m) ++ l := ⟨_, rfl⟩
    have hAl : A.length ≤ m.length + l.length := by rw [hA, List.length_append, List.length_drop]; omega
    refine TE.cast (.string (str A)) 1 rfl (by rw [hA]) ?_
    replace hb : Blk w4 g 145 (hcells (absorb (absorb init (m.take (cut m))) (A.take 0)) (m.drop (cut m)) (m.length + l.length)) := by rw [absorb_zero]; exact hb
    refine TE.loopInv (σ := Nat) [0, 1] (fun s_ w_ => s_ % 64 = 0 ∧ s_ ≤ A.length ∧ Chg [g] w w_ ∧ Blk w_ 1 tK (iv .u32 K) ∧  Blk w_ g 145 (hcells (absorb (absorb init (m.take (cut m))) (A.take s_)) (m.drop (cut m)) (m.length + l.length))) (fun s_ => [(0, .pointer (some ⟨g, 0, none⟩)), (1, .string (str (A.drop s_)))]) (fun s_ => A.length - s_) 0 ⟨rfl, by omega, hC, hK, hb⟩ rfl ?_
    rintro j w5 ⟨hj, hjl, hC, hK, hb⟩ ih5
    refine TE.seq ?_
    refine TE.seq ?_
    refine TE.region ?_
    refine OL.pure (Pure.move rfl) rfl ?_
    refine OL.pure (Pure.lenStr Tryd.runUnderlying9 rfl) rfl ?_
    refine OL.pure (Pure.geq rfl rfl) rfl ?_
    refine OL.nil ?_
    refine TE.ite rfl (fun hge => ?_) (fun hge => ?_)
    ·
      have hjl2 : j + 64 ≤ A.length := by simp at hge; omega
      refine TE.skip ?_
      refine TE.block ?_
      refine TE.seq ?_
      refine TE.plan 10 (.cons (0, true) (.cons (1, true) (.cons (2, true) (.cons (3, true) (.cons (4, true) (.cons (5, true) (.cons (6, true) (.cons (7, false) (.cons (8, true) (.cons (9, true) .nil)))))))))) (fun w_ => Chg [] w5 w_) rfl (by kernel_rfl) rfl ?_
      have hS6 : Chg [] w5 w5.drew := Chg.drew _ _
      refine PL.takeP rfl (Pure.move rfl) rfl hS6 ?_
      refine PL.takeP rfl (Pure.move rfl) rfl hS6 ?_
      refine PL.takeP rfl (Pure.nilCheck rfl) rfl hS6 ?_
      refine PL.takeP rfl (Pure.fieldAddr (r := 0) Tryd.runUnderlying145 rfl Tryd.sizeOf143 rfl rfl) rfl hS6 ?_
      refine PL.take rfl (fun w_ h_ => Run.loadRow (i := 0) (vs := sv (absorb (absorb init (m.take (cut m))) (A.take j))) rfl Tryd.underlying143 rfl rfl (hb.chg0 h_) (by omega) rfl) rfl hS6 ?_
      refine PL.takeP rfl (Pure.move rfl) rfl hS6 ?_
      refine PL.takeP rfl (Pure.sliceTo (l := (A.drop j)) (q := 64) Tryd.underlying9 rfl rfl (by omega) (by simp; omega)) rfl hS6 ?_
      refine PL.call rfl rfl Tryd.call85 rfl (block_any (absorb (absorb init (m.take (cut m))) (A.take j)) ((A.drop j).take 64) (by simp; omega) _ (hK.chg0 hS6)) ?_
      rintro _ w7 ⟨rfl, hc7⟩
      have hS8 := hS6.then_ hc7
      refine ⟨_, rfl, hS8, ?_⟩
      refine PL.takeP rfl (Pure.nilCheck rfl) rfl hS8 ?_
      refine PL.takeP rfl (Pure.fieldAddr (r := 0) Tryd.runUnderlying145 rfl Tryd.sizeOf143 rfl rfl) rfl hS8 ?_
      refine PL.nilTail ?_
      replace hK := hK.chg0 hS8
      replace hb := hb.chg0 hS8
      replace hC := hC.then_ hS8
      refine OL.storeRow (vs := sv (comp (absorb (absorb init (m.take (cut m))) (A.take j)) (bt ((A.drop j).take 64)))) rfl rfl (rfl) (by simp [sv, iv, S8.l, Value.oneCell']) hb (by show 0 + 8 ≤ 10; decide) ?_
      intro w9 hb9 hc9
      replace hK := hK.chg hc9 (by simp; omega)
      replace hC := hC.trans1 hc9 (by first | exact .inr (by omega) | exact .inl (by simp))
      replace hb := hb9
      replace hb : Blk w9 g 145 (hcells (absorb (absorb init (m.take (cut m))) (A.take (j + 64))) (m.drop (cut m)) (m.length + l.length)) := by rw [absorb_next _ A j (j / 64) (by omega) (by omega)]; exact hb
      refine OL.nil ?_
      refine TE.region ?_
      refine OL.pure (Pure.move rfl) rfl ?_
      refine OL.pure (Pure.sliceFrom (l := (A.drop j)) (p := 64) Tryd.underlying9 rfl rfl (by omega) (by simp; omega)) rfl ?_
      refine OL.pure (Pure.assign rfl) rfl ?_
      refine OL.nil ?_
      refine TE.inBlock ?_
      refine TE.cast (.string (str (A.drop (j + 64)))) 1 rfl (by rw [← List.drop_drop]) ?_
      exact TE.sub [0, 1] rfl (ih5 (j + 64) _ ⟨by omega, by omega, hC, hK, hb⟩ (by omega))
    ·
      obtain ⟨d1, d2, d3⟩ := write_at m l A hA j hj hjl (by simp at hge; omega)
      rw [d3] at hb
      refine TE.exit rfl ?_
      refine TE.seq ?_
      refine TE.region ?_
      refine OL.pure (Pure.move rfl) rfl ?_
      refine OL.pure (Pure.move rfl) rfl ?_
      refine OL.toBytes Tryd.underlying9 Tryd.underlying34 Tryd.underlying5 rfl rfl ?_
      intro v0 w10 hv0 hc10 ho_v0
      have hm_v0 : Mine w.heap.size v0 := Mine.new ho_v0 (by have := hC.size; omega)
      replace hK := hK.chg0 hc10
      replace hb := hb.chg0 hc10
      replace hC := hC.then_ hc10
      refine OL.val (Run.rowStr Tryd.underlying34 Tryd.underlying5 Tryd.underlying9 rfl hv0) rfl ?_
      refine OL.pure (Pure.nilCheck rfl) rfl ?_
      refine OL.pure (Pure.fieldAddr (r := 8) Tryd.runUnderlying145 rfl Tryd.sizeOf9 rfl rfl) rfl ?_
      refine OL.store (j := 8) rfl rfl Tryd.sizeOf9 rfl hb (by omega) (rfl) ?_
      intro w11 hb11 hc11
      replace hK := hK.chg hc11 (by simp; omega)
      replace hv0 := hv0.chg hc11 (hv0.apart hb (by decide))
      replace hC := hC.trans1 hc11 (by first | exact .inr (by omega) | exact .inl (by simp))
      replace hb := hb11
      replace hb : Blk w11 g 145 (hcells (absorb init ((m ++ l).take (cut (m ++ l)))) ((m ++ l).drop (cut (m ++ l))) (m ++ l).length) := by rw [← d2, List.length_append]; exact hb
      refine OL.nil ?_
      refine TE.seq ?_
      refine TE.seq ?_
      refine TE.region ?_
      refine OL.pure (Pure.move rfl) rfl ?_
      refine OL.pure (Pure.nilCheck rfl) rfl ?_
      refine OL.pure (Pure.fieldAddr (r := 9) Tryd.runUnderlying145 rfl Tryd.sizeOf3 rfl rfl) rfl ?_
      refine OL.val (Run.load (i := 9) rfl Tryd.isAgg3 hb (by omega) rfl) rfl ?_
      refine OL.pure (Pure.lss rfl rfl) rfl ?_
      refine OL.nil ?_
      refine TE.ite rfl (fun hs => ?_) (fun hs => ?_)
      ·
        have hs2 : (m ++ l).length < 64 := by simp at hs ⊢; omega
        refine TE.region ?_
        refine OL.pure (Pure.move rfl) rfl ?_
        refine OL.pure (Pure.build (cs := sv zero8) rfl (by kernel_rfl)) rfl ?_
        refine OL.pure (Pure.nilCheck rfl) rfl ?_
        refine OL.pure (Pure.fieldAddr (r := 0) Tryd.runUnderlying145 rfl Tryd.sizeOf143 rfl rfl) rfl ?_
        refine OL.storeRow (vs := sv zero8) rfl rfl (rfl) (by simp [sv, iv, S8.l, Value.oneCell']) hb (by show 0 + 8 ≤ 10; decide) ?_
        intro w12 hb12 hc12
        replace hK := hK.chg hc12 (by simp; omega)
        replace hv0 := hv0.chg hc12 (hv0.apart hb (by decide))
        replace hC := hC.trans1 hc12 (by first | exact .inr (by omega) | exact .inl (by simp))
        replace hb := hb12
        refine OL.nil ?_
        refine TE.seq ?_
        refine TE.region ?_
        refine OL.pure (Pure.assign rfl) rfl ?_
        refine OL.nil ?_
        exact TE.ret (vs := [.int .i64 0]) Tryd.results82 (⟨rfl, trivial⟩) ⟨rfl, hC, by rw [hash_small hs2]; exact hb⟩
      ·
        refine TE.skip ?_
        refine TE.seq ?_
        refine TE.region ?_
        refine OL.pure (Pure.assign rfl) rfl ?_
        refine OL.nil ?_
        have hs2 : ¬ (m ++ l).length < 64 := by simp at hs ⊢; omega
        exact TE.ret (vs := [.int .i64 0]) Tryd.results82 (⟨rfl, trivial⟩) ⟨rfl, hC, by rw [hash_big hs2]; exact hb⟩

set_option maxHeartbeats 1000000 in
theorem hsum_any {tK : TypeId} (m : List UInt8) (hm : m.length ≤ 4294967296) (g : Nat) (w : World) (hK : Blk w 1 tK (iv .u32 K)) (hb : Blk w g 145 (hashCells m)) : Calls Tryd.prog 83 #[.pointer (some ⟨g, 0, none⟩)] w (RetC (.agg (iv .u8 (sum m)).toArray) w) := by
  refine calls_of_TE (vs := [.pointer (some ⟨g, 0, none⟩)]) Tryd.func83 Tryd.ntmps83 rfl (by simp) ?_
  have h0w : 1 < w.heap.size := hK.lt
  have hC : Chg [] w w := Chg.refl _ _
  refine TE.seq ?_
  refine TE.region ?_
  refine OL.alloc Tryd.zeroValue133 rfl ?_
  intro gr w1 hr hc1 hg_gr
  have lt_1_gr : 1 < gr := by have := hK.lt; omega
  have lt_g_gr : g < gr := by have := hb.lt; omega
  have ge_gr : w.heap.size ≤ gr := by have := hC.size; omega
  replace hK := hK.chg0 hc1
  replace hb := hb.chg0 hc1
  replace hC := hC.then_ hc1
  have hr : Blk w1 gr 133 (iv .u8 (List.replicate 32 0)) := hr
  refine OL.nil ?_
  refine TE.seq ?_
  refine TE.seq ?_
  refine TE.region ?_
  refine OL.pure (Pure.move rfl) rfl ?_
  refine OL.pure (Pure.eqlNil Tryd.underlying148 rfl rfl) rfl ?_
  refine OL.nil ?_
  refine TE.condF rfl rfl ?_
  refine TE.skip ?_
  refine TE.seq ?_
  refine TE.region ?_
  refine OL.pure (Pure.move rfl) rfl ?_
  refine OL.pure (Pure.nilCheck rfl) rfl ?_
  refine OL.pure (Pure.fieldAddr (r := 0) Tryd.runUnderlying145 rfl Tryd.sizeOf143 rfl rfl) rfl ?_
  refine OL.val (Run.loadRow (i := 0) (vs := sv (stOf m)) rfl Tryd.underlying143 rfl rfl hb (by omega) rfl) rfl ?_
  refine OL.alloc Tryd.zeroValue143 rfl ?_
  intro gs w2 hs hc2 hg_gs
  have lt_1_gs : 1 < gs := by have := hK.lt; omega
  have lt_g_gs : g < gs := by have := hb.lt; omega
  have lt_gr_gs : gr < gs := by have := hr.lt; omega
  have ge_gs : w.heap.size ≤ gs := by have := hC.size; omega
  replace hK := hK.chg0 hc2
  replace hb := hb.chg0 hc2
  replace hr := hr.chg0 hc2
  replace hC := hC.then_ hc2
  refine OL.storeRow (vs := sv (stOf m)) rfl rfl (rfl) (by simp [sv, iv, S8.l, Value.oneCell']) hs (Nat.le_refl 8) ?_
  intro w3 hb3 hc3
  replace hK := hK.chg hc3 (by simp; omega)
  replace hb := hb.chg hc3 (by simpa using hb.ne hs (by decide))
  replace hr := hr.chg hc3 (by simpa using hr.ne hs (by decide))
  replace hC := hC.trans1 hc3 (by first | exact .inr (by omega) | exact .inl (by simp))
  replace hs := hb3
  replace hs := hs.all rfl
  refine OL.nil ?_
  refine TE.seq ?_
  refine TE.seq ?_
  refine TE.region ?_
  refine OL.pure (Pure.move rfl) rfl ?_
  refine OL.pure (Pure.nilCheck rfl) rfl ?_
  refine OL.pure (Pure.fieldAddr (r := 9) Tryd.runUnderlying145 rfl Tryd.sizeOf3 rfl rfl) rfl ?_
  refine OL.val (Run.load (i := 9) rfl Tryd.isAgg3 hb (by omega) rfl) rfl ?_
  refine OL.pure (Pure.lss rfl rfl) rfl ?_
  refine OL.nil ?_
  refine TE.join (σ := Unit) [0, 2, 3] (fun s_ w_ => Chg [] w w_ ∧ Blk w_ 1 tK (iv .u32 K) ∧ Blk w_ g 145 (hashCells m) ∧ Blk w_ gr 133 (iv .u8 (List.replicate 32 0)) ∧ Blk w_ gs 143 (sv (absorb init (m.take (cut m))))) (fun s_ => [(0, .pointer (some ⟨g, 0, none⟩)), (2, .pointer (some ⟨gr, 0, none⟩)), (3, .pointer (some ⟨gs, 0, none⟩))]) rfl (fun hlt hj4 => ?_) (fun hlt hj4 => ?_) (fun s_ w_ h_ => ?_)
  ·
    refine TE.region ?_
    refine OL.call rfl Tryd.call84 rfl (begin_any _) ?_
    rintro _ w5 ⟨rfl, hc5⟩
    replace hK := hK.chg0 hc5
    replace hb := hb.chg0 hc5
    replace hr := hr.chg0 hc5
    replace hs := hs.chg0 hc5
    replace hC := hC.then_ hc5
    refine ⟨_, rfl, ?_⟩
    refine OL.storeRow (vs := sv init) rfl rfl (rfl) (by simp [sv, iv, S8.l, Value.oneCell']) hs (Nat.le_refl 8) ?_
    intro w6 hb6 hc6
    replace hK := hK.chg hc6 (by simp; omega)
    replace hb := hb.chg hc6 (by simpa using hb.ne hs (by decide))
    replace hr := hr.chg hc6 (by simpa using hr.ne hs (by decide))
    replace hC := hC.trans1 hc6 (by first | exact .inr (by omega) | exact .inl (by simp))
    replace hs := hb6
    replace hs := hs.all rfl
    exact TE.sub [0, 2, 3] rfl (hj4 () _ ⟨hC, hK, hb, hr, by rw [st_small (by omega)]; exact hs⟩)
  ·
    refine TE.skip ?_
    exact TE.sub [0, 2, 3] rfl (hj4 () _ ⟨hC, hK, hb, hr, by rw [← st_big (by omega)]; exact hs⟩)
  ·
    revert s_ w_ h_
    rintro ⟨⟩ w4 ⟨hC, hK, hb, hr, hs⟩
    try dsimp only
    obtain ⟨S0, hS0⟩ : ∃ S0, S0 = (absorb init (m.take (cut m))) := ⟨_, rfl⟩
    rw [← hS0] at hs
    have hD := rest_len m
    refine TE.seq ?_
    refine TE.region ?_
    refine OL.pure (Pure.move rfl) rfl ?_
    refine OL.pure (Pure.nilCheck rfl) rfl ?_
    refine OL.pure (Pure.fieldAddr (r := 8) Tryd.runUnderlying145 rfl Tryd.sizeOf9 rfl rfl) rfl ?_
    refine OL.val (Run.load (i := 8) rfl Tryd.isAgg9 hb (by omega) rfl) rfl ?_
    refine OL.toBytes Tryd.underlying9 Tryd.underlying34 Tryd.underlying5 rfl rfl ?_
    intro v0 w7 hv0 hc7 ho_v0
    have hm_v0 : Mine w.heap.size v0 := Mine.new ho_v0 (by have := hC.size; omega)
    replace hK := hK.chg0 hc7
    replace hb := hb.chg0 hc7
    replace hr := hr.chg0 hc7
    replace hs := hs.chg0 hc7
    replace hC := hC.then_ hc7
    refine OL.pure (Pure.assign rfl) rfl ?_
    refine OL.nil ?_
    refine TE.seq ?_
    refine TE.region ?_
    refine OL.pure (Pure.move rfl) rfl ?_
    refine OL.buildSlice (cs := [.int .u8 128]) rfl Tryd.runUnderlying34 Tryd.sizeOf5 Tryd.zeroValue5 (by decide) (by decide) (by kernel_rfl) rfl ?_
    intro q w8 hq hc8 hg_q
    have lt_1_q : 1 < q := by have := hK.lt; omega
    have lt_g_q : g < q := by have := hb.lt; omega
    have lt_gr_q : gr < q := by have := hr.lt; omega
    have lt_gs_q : gs < q := by have := hs.lt; omega
    have ge_q : w.heap.size ≤ q := by have := hC.size; omega
    replace hK := hK.chg0 hc8
    replace hb := hb.chg0 hc8
    replace hr := hr.chg0 hc8
    replace hs := hs.chg0 hc8
    replace hv0 := hv0.chg0 hc8
    replace hC := hC.then_ hc8
    refine OL.append (size := 1) (news := [.int .u8 128]) (v := v0) rfl rfl Tryd.underlying34 (.inl Tryd.underlying34) info5 rfl rfl rfl (by decide) rfl hv0 ((Src.of_blk hq rfl rfl)) (by simp [Value.oneCell']) (by show _ * 1 ≤ _; omega) ?_
    intro v1 w9 hv1 hc9 ho_v1
    have hm_v1 : Mine w.heap.size v1 := Mine.step hm_v0 (by have := hC.size; omega) ho_v1
    replace hK := hK.chg hc9 (fun h_ => absurd (hm_v0 _ h_) (by omega))
    replace hb := hb.chg hc9 (hv0.notin hb (by decide))
    replace hr := hr.chg hc9 (hv0.notin hr (by decide))
    replace hs := hs.chg hc9 (hv0.notin hs (by decide))
    replace hC := hC.own hc9 hm_v0
    have hv : Row w9 5 1 v1 ((m.drop (cut m)).length + 1 + 0) (bv ((m.drop (cut m)) ++ [128] ++ List.replicate 0 0)) := by simpa [bv] using hv1
    refine OL.pure (Pure.assign rfl) rfl ?_
    refine OL.nil ?_
    refine TE.seq ?_
    refine TE.block ?_
    refine TE.loopInv (σ := Nat × Value) [0, 2, 3, 4] (fun s_ w_ => match s_ with | (j, v) => j ≤ zeros m.length ∧ Row w_ 5 1 v ((m.drop (cut m)).length + 1 + j) (bv ((m.drop (cut m)) ++ [128] ++ List.replicate j 0)) ∧ Mine w.heap.size v ∧ Chg [] w w_ ∧ Blk w_ 1 tK (iv .u32 K) ∧ Blk w_ g 145 (hashCells m) ∧ Blk w_ gr 133 (iv .u8 (List.replicate 32 0)) ∧  Blk w_ gs 143 (sv S0)) (fun s_ => [(0, .pointer (some ⟨g, 0, none⟩)), (2, .pointer (some ⟨gr, 0, none⟩)), (3, .pointer (some ⟨gs, 0, none⟩)), (4, s_.2)]) (fun s_ => zeros m.length - s_.1) (0, v1) ⟨by omega, hv, hm_v1, hC, hK, hb, hr, hs⟩ rfl ?_
    rintro ⟨j, v⟩ w10 ⟨hj, hv, hm_v, hC, hK, hb, hr, hs⟩ ih10
    try dsimp only
    have hz := zeros_bd m.length
    refine TE.seq ?_
    refine TE.seq ?_
    refine TE.region ?_
    refine OL.pure (Pure.move rfl) rfl ?_
    refine OL.pure (Pure.lenRow Tryd.runUnderlying34 rfl hv) rfl ?_
    refine OL.pure (Pure.rem rfl rfl (by omega) (by omega)) rfl ?_
    refine OL.pure (Pure.neq rfl rfl) rfl ?_
    refine OL.nil ?_
    refine TE.ite rfl (fun hne => ?_) (fun hne => ?_)
    ·
      have hj1 : j < zeros m.length := by unfold zeros at hj ⊢; omega
      refine TE.skip ?_
      refine TE.block ?_
      refine TE.region ?_
      refine OL.pure (Pure.move rfl) rfl ?_
      refine OL.buildSlice (cs := [.int .u8 0]) rfl Tryd.runUnderlying34 Tryd.sizeOf5 Tryd.zeroValue5 (by decide) (by decide) (by kernel_rfl) rfl ?_
      intro q w11 hq hc11 hg_q
      have lt_1_q : 1 < q := by have := hK.lt; omega
      have lt_g_q : g < q := by have := hb.lt; omega
      have lt_gr_q : gr < q := by have := hr.lt; omega
      have lt_gs_q : gs < q := by have := hs.lt; omega
      have ge_q : w.heap.size ≤ q := by have := hC.size; omega
      replace hK := hK.chg0 hc11
      replace hb := hb.chg0 hc11
      replace hr := hr.chg0 hc11
      replace hs := hs.chg0 hc11
      replace hv := hv.chg0 hc11
      replace hC := hC.then_ hc11
      refine OL.append (size := 1) (news := [.int .u8 0]) (v := v) rfl rfl Tryd.underlying34 (.inl Tryd.underlying34) info5 rfl rfl rfl (by decide) rfl hv ((Src.of_blk hq rfl rfl)) (by simp [Value.oneCell']) (by show _ * 1 ≤ _; omega) ?_
      intro v2 w12 hv2 hc12 ho_v2
      have hm_v2 : Mine w.heap.size v2 := Mine.step hm_v (by have := hC.size; omega) ho_v2
      replace hK := hK.chg hc12 (fun h_ => absurd (hm_v _ h_) (by omega))
      replace hb := hb.chg hc12 (hv.notin hb (by decide))
      replace hr := hr.chg hc12 (hv.notin hr (by decide))
      replace hs := hs.chg hc12 (hv.notin hs (by decide))
      replace hC := hC.own hc12 hm_v
      replace hv2 : Row w12 5 1 v2 ((m.drop (cut m)).length + 1 + (j + 1)) (bv ((m.drop (cut m)) ++ [128] ++ List.replicate (j + 1) 0)) := by rw [rep_snoc, ← List.append_assoc, ← bv_one]; exact hv2
      refine OL.pure (Pure.assign rfl) rfl ?_
      refine OL.nil ?_
      refine TE.inBlock ?_
      exact TE.sub [0, 2, 3, 4] rfl (ih10 (j + 1, v2) _ ⟨by omega, hv2, hm_v2, hC, hK, hb, hr, hs⟩ (by simp only []; omega))
    ·
      obtain rfl : j = zeros m.length := by unfold zeros at hj ⊢; omega
      refine TE.exit rfl ?_
      refine TE.seq ?_
      refine TE.seq ?_
      refine TE.region ?_
      refine OL.pure (Pure.assign rfl) rfl ?_
      refine OL.nil ?_
      refine TE.block ?_
      have hv : Row w10 5 1 v ((m.drop (cut m)).length + 1 + zeros m.length + 0) (bv ((m.drop (cut m)) ++ [128] ++ List.replicate (zeros m.length) 0 ++ (len8 (8 * m.length)).take 0)) := by simpa using hv
      refine TE.loopInv (σ := Nat × Value) [0, 2, 3, 4, 5] (fun s_ w_ => match s_ with | (k, v) => k ≤ 8 ∧ Row w_ 5 1 v ((m.drop (cut m)).length + 1 + zeros m.length + k) (bv ((m.drop (cut m)) ++ [128] ++ List.replicate (zeros m.length) 0 ++ (len8 (8 * m.length)).take k)) ∧ Mine w.heap.size v ∧ Chg [] w w_ ∧ Blk w_ 1 tK (iv .u32 K) ∧ Blk w_ g 145 (hashCells m) ∧ Blk w_ gr 133 (iv .u8 (List.replicate 32 0)) ∧  Blk w_ gs 143 (sv S0)) (fun s_ => [(0, .pointer (some ⟨g, 0, none⟩)), (2, .pointer (some ⟨gr, 0, none⟩)), (3, .pointer (some ⟨gs, 0, none⟩)), (4, s_.2), (5, .int .i64 (7 - (s_.1 : Int)))]) (fun s_ => 8 - s_.1) (0, v) ⟨by omega, hv, hm_v, hC, hK, hb, hr, hs⟩ rfl ?_
      rintro ⟨k, v⟩ w13 ⟨hk, hv, hm_v, hC, hK, hb, hr, hs⟩ ih13
      try dsimp only
      refine TE.seq ?_
      refine TE.seq ?_
      refine TE.region ?_
      refine OL.pure (Pure.move rfl) rfl ?_
      refine OL.pure (Pure.geq rfl rfl) rfl ?_
      refine OL.nil ?_
      refine TE.ite rfl (fun hge => ?_) (fun hge => ?_)
      ·
        refine TE.skip ?_
        refine TE.seq ?_
        refine TE.block ?_
        refine TE.region ?_
        refine OL.pure (Pure.move rfl) rfl ?_
        refine OL.pure (Pure.move rfl) rfl ?_
        refine OL.pure (Pure.nilCheck rfl) rfl ?_
        refine OL.pure (Pure.fieldAddr (r := 9) Tryd.runUnderlying145 rfl Tryd.sizeOf3 rfl rfl) rfl ?_
        refine OL.val (Run.load (i := 9) rfl Tryd.isAgg3 hb (by omega) rfl) rfl ?_
        refine OL.pure (Pure.conv Tryd.runUnderlying3 Tryd.runUnderlying113 rfl (u64in (by omega) (by omega))) rfl ?_
        refine OL.pure (Pure.mul rfl rfl (u64in (by omega) (by omega))) rfl ?_
        refine OL.pure (Pure.move rfl) rfl ?_
        refine OL.pure (Pure.mul rfl rfl (i64 (by omega) (by omega))) rfl ?_
        refine OL.pure (Pure.shr (p := 2 ^ (8 * (7 - k))) rfl rfl (by omega) (by congr 1; simp [IntKind.bits]; omega)) rfl ?_
        refine OL.pure (Pure.conv Tryd.runUnderlying113 Tryd.runUnderlying5 rfl (u8w _)) rfl ?_
        refine OL.cast (.int .u8 (((UInt8.ofNat (8 * m.length / 2 ^ (8 * (7 - k)))).toNat : Nat) : Int)) 52 rfl (by rw [← u8nat, Int.mul_comm (m.length : Int) 8]; push_cast; rfl) ?_
        refine OL.buildSlice (cs := [.int .u8 (((UInt8.ofNat (8 * m.length / 2 ^ (8 * (7 - k)))).toNat : Nat) : Int)]) rfl Tryd.runUnderlying34 Tryd.sizeOf5 Tryd.zeroValue5 (by decide) (by decide) (by kernel_rfl) rfl ?_
        intro q w14 hq hc14 hg_q
        have lt_1_q : 1 < q := by have := hK.lt; omega
        have lt_g_q : g < q := by have := hb.lt; omega
        have lt_gr_q : gr < q := by have := hr.lt; omega
        have lt_gs_q : gs < q := by have := hs.lt; omega
        have ge_q : w.heap.size ≤ q := by have := hC.size; omega
        replace hK := hK.chg0 hc14
        replace hb := hb.chg0 hc14
        replace hr := hr.chg0 hc14
        replace hs := hs.chg0 hc14
        replace hv := hv.chg0 hc14
        replace hC := hC.then_ hc14
        refine OL.append (size := 1) (news := [.int .u8 (((UInt8.ofNat (8 * m.length / 2 ^ (8 * (7 - k)))).toNat : Nat) : Int)]) (v := v) rfl rfl Tryd.underlying34 (.inl Tryd.underlying34) info5 rfl rfl rfl (by decide) rfl hv ((Src.of_blk hq rfl rfl)) (by simp [Value.oneCell']) (by show _ * 1 ≤ _; omega) ?_
        intro v2 w15 hv2 hc15 ho_v2
        have hm_v2 : Mine w.heap.size v2 := Mine.step hm_v (by have := hC.size; omega) ho_v2
        replace hK := hK.chg hc15 (fun h_ => absurd (hm_v _ h_) (by omega))
        replace hb := hb.chg hc15 (hv.notin hb (by decide))
        replace hr := hr.chg hc15 (hv.notin hr (by decide))
        replace hs := hs.chg hc15 (hv.notin hs (by decide))
        replace hC := hC.own hc15 hm_v
        replace hv2 : Row w15 5 1 v2 ((m.drop (cut m)).length + 1 + zeros m.length + (k + 1)) (bv ((m.drop (cut m)) ++ [128] ++ List.replicate (zeros m.length) 0 ++ (len8 (8 * m.length)).take (k + 1))) := by rw [len8_take _ _ (by omega), ← List.append_assoc, ← bv_one]; exact hv2
        refine OL.pure (Pure.assign rfl) rfl ?_
        refine OL.nil ?_
        refine TE.inBlock ?_
        refine TE.region ?_
        refine OL.pure (Pure.move rfl) rfl ?_
        refine OL.pure (Pure.sub rfl rfl (i64 (by omega) (by omega))) rfl ?_
        refine OL.pure (Pure.assign rfl) rfl ?_
        refine OL.nil ?_
        refine TE.cast (.int .i64 (7 - ((k + 1 : Nat) : Int))) 5 rfl (congrArg (Value.int .i64) (by omega)) ?_
        exact TE.sub [0, 2, 3, 4, 5] rfl (ih13 (k + 1, v2) _ ⟨by omega, hv2, hm_v2, hC, hK, hb, hr, hs⟩ (by simp only []; omega))
      ·
        obtain rfl : k = 8 := by omega
        obtain ⟨R, hR⟩ : ∃ R, R = (pad m).drop (cut m) := ⟨_, rfl⟩
        have hRl : R.length = (m.drop (cut m)).length + 1 + zeros m.length + 8 := by rw [hR, padR_len, hD]
        have hRm : R.length % 64 = 0 := by rw [hR, padR_mod]
        replace hv : Row w13 5 1 v R.length (bv R) := by rw [hRl, hR, pad_drop]; exact hv
        obtain ⟨gv, cap, cs, rfl, hvb, hvc, hvl, hvt⟩ := hv.form (by omega)
        refine TE.exit rfl ?_
        refine TE.seq ?_
        refine TE.seq ?_
        refine TE.region ?_
        refine OL.pure (Pure.assign rfl) rfl ?_
        refine OL.nil ?_
        refine TE.block ?_
        replace hs : Blk w13 gs 143 (sv (absorb S0 (R.take 0))) := by rw [absorb_zero]; exact hs
        refine TE.loopInv (σ := Nat) [0, 2, 3, 4, 6] (fun s_ w_ => s_ % 64 = 0 ∧ s_ ≤ R.length ∧ Chg [] w w_ ∧ Blk w_ 1 tK (iv .u32 K) ∧ Blk w_ g 145 (hashCells m) ∧ Blk w_ gr 133 (iv .u8 (List.replicate 32 0)) ∧  Blk w_ gv 5 cs ∧ Blk w_ gs 143 (sv (absorb S0 (R.take s_)))) (fun s_ => [(0, .pointer (some ⟨g, 0, none⟩)), (2, .pointer (some ⟨gr, 0, none⟩)), (3, .pointer (some ⟨gs, 0, none⟩)), (4, .slice (some ⟨gv, 0, none⟩) R.length cap), (6, .int .i64 (↑s_))]) (fun s_ => R.length - s_) 0 ⟨rfl, by omega, hC, hK, hb, hr, hvb, hs⟩ rfl ?_
        rintro j w16 ⟨hj, hjl, hC, hK, hb, hr, hvb, hs⟩ ih16
        refine TE.seq ?_
        refine TE.seq ?_
        refine TE.region ?_
        refine OL.pure (Pure.move rfl) rfl ?_
        refine OL.pure (Pure.move rfl) rfl ?_
        refine OL.pure (Pure.lenSlice Tryd.runUnderlying34 rfl) rfl ?_
        refine OL.pure (Pure.lss rfl rfl) rfl ?_
        refine OL.nil ?_
        refine TE.ite rfl (fun hlt => ?_) (fun hlt => ?_)
        ·
          have hjl2 : j + 64 ≤ R.length := by omega
          refine TE.skip ?_
          refine TE.seq ?_
          refine TE.block ?_
          refine TE.plan 8 (.cons (0, true) (.cons (1, true) (.cons (2, true) (.cons (3, true) (.cons (4, true) (.cons (5, true) (.cons (6, false) (.cons (7, false) .nil)))))))) (fun w_ => Chg [] w16 w_) rfl (by kernel_rfl) rfl ?_
          have hS17 : Chg [] w16 w16.drew := Chg.drew _ _
          refine PL.take rfl (fun w_ h_ => Run.loadRow (i := 0) (vs := sv (absorb S0 (R.take j))) rfl Tryd.underlying143 rfl rfl (hs.chg0 h_) (by omega) rfl) rfl hS17 ?_
          refine PL.takeP rfl (Pure.move rfl) rfl hS17 ?_
          refine PL.takeP rfl (Pure.move rfl) rfl hS17 ?_
          refine PL.takeP rfl (Pure.move rfl) rfl hS17 ?_
          refine PL.takeP rfl (Pure.add rfl rfl (i64 (by omega) (by omega))) rfl hS17 ?_
          refine PL.takeP rfl (Pure.sliceSl (p := j) (q := j + 64) (r := j) Tryd.runUnderlying34 Tryd.sizeOf5 rfl rfl rfl rfl (by omega) (by omega) (by omega) (by omega) (by omega)) rfl hS17 ?_
          refine PL.val rfl (Run.toStr (bs := (R.drop j).take 64) Tryd.underlying34 Tryd.underlying5 Tryd.underlying9 rfl (hvb.chg0 hS17) (by simp; omega) (absorb_sub hvt (by omega))) rfl hS17 ?_
          refine PL.call rfl rfl Tryd.call85 rfl (block_any (absorb S0 (R.take j)) ((R.drop j).take 64) (by simp; omega) _ (hK.chg0 hS17)) ?_
          rintro _ w18 ⟨rfl, hc18⟩
          have hS19 := hS17.then_ hc18
          refine ⟨_, rfl, hS19, ?_⟩
          refine PL.nilTail ?_
          replace hK := hK.chg0 hS19
          replace hb := hb.chg0 hS19
          replace hr := hr.chg0 hS19
          replace hs := hs.chg0 hS19
          replace hvb := hvb.chg0 hS19
          replace hC := hC.then_ hS19
          refine OL.storeRow (vs := sv (comp (absorb S0 (R.take j)) (bt ((R.drop j).take 64)))) rfl rfl (rfl) (by simp [sv, iv, S8.l, Value.oneCell']) hs (Nat.le_refl 8) ?_
          intro w20 hb20 hc20
          replace hK := hK.chg hc20 (by simp; omega)
          replace hb := hb.chg hc20 (by simpa using hb.ne hs (by decide))
          replace hr := hr.chg hc20 (by simpa using hr.ne hs (by decide))
          replace hvb := hvb.chg hc20 (by simpa using hvb.ne hs (by decide))
          replace hC := hC.trans1 hc20 (by first | exact .inr (by omega) | exact .inl (by simp))
          replace hs := hb20
          replace hs := hs.all rfl
          rw [← absorb_next _ R j (j / 64) (by omega) (by omega)] at hs
          refine OL.nil ?_
          refine TE.inBlock ?_
          refine TE.region ?_
          refine OL.pure (Pure.move rfl) rfl ?_
          refine OL.pure (Pure.add rfl rfl (i64 (by omega) (by omega))) rfl ?_
          refine OL.pure (Pure.assign rfl) rfl ?_
          refine OL.nil ?_
          exact TE.sub [0, 2, 3, 4, 6] rfl (ih16 (j + 64) _ ⟨by omega, by omega, hC, hK, hb, hr, hvb, hs⟩ (by omega))
        ·
          obtain rfl : j = R.length := by omega
          obtain ⟨S, hS⟩ : ∃ S, S = absorb S0 (R.take R.length) := ⟨_, rfl⟩
          rw [← hS] at hs
          refine TE.exit rfl ?_
          refine TE.seq ?_
          refine TE.region ?_
          refine OL.alloc Tryd.zeroValue133 rfl ?_
          intro gd w21 hd hc21 hg_gd
          have lt_1_gd : 1 < gd := by have := hK.lt; omega
          have lt_g_gd : g < gd := by have := hb.lt; omega
          have lt_gr_gd : gr < gd := by have := hr.lt; omega
          have lt_gs_gd : gs < gd := by have := hs.lt; omega
          have ge_gd : w.heap.size ≤ gd := by have := hC.size; omega
          replace hK := hK.chg0 hc21
          replace hb := hb.chg0 hc21
          replace hr := hr.chg0 hc21
          replace hs := hs.chg0 hc21
          replace hC := hC.then_ hc21
          have hd : Blk w21 gd 133 (iv .u8 (digTo S 0)) := hd
          refine OL.nil ?_
          refine TE.seq ?_
          refine TE.seq ?_
          refine TE.region ?_
          refine OL.val (Run.loadAll rfl Tryd.underlying143 rfl hs (rfl)) rfl ?_
          refine OL.pure (Pure.move rfl) rfl ?_
          refine OL.nil ?_
          refine TE.block ?_
          refine TE.loopInv (σ := Nat) [2, 7, 69, 70] (fun s_ w_ => s_ ≤ 8 ∧ Chg [] w w_ ∧ Blk w_ gr 133 (iv .u8 (List.replicate 32 0)) ∧ Blk w_ gd 133 (iv .u8 (digTo S s_))) (fun s_ => [(2, .pointer (some ⟨gr, 0, none⟩)), (7, .pointer (some ⟨gd, 0, none⟩)), (69, .agg (sv S).toArray), (70, .int .i64 (↑s_))]) (fun s_ => 8 - s_) 0 ⟨by omega, hC, hr, hd⟩ rfl ?_
          rintro t w22 ⟨ht, hC, hr, hd⟩ ih22
          refine TE.seq ?_
          refine TE.region ?_
          refine OL.pure (Pure.lss rfl rfl) rfl ?_
          refine OL.nil ?_
          refine TE.seq ?_
          refine TE.ite rfl (fun hlt => ?_) (fun hlt => ?_)
          ·
            refine TE.skip ?_
            refine TE.seq ?_
            refine TE.block ?_
            refine TE.seq ?_
            refine TE.region ?_
            refine OL.pure (Pure.move rfl) rfl ?_
            refine OL.pure (Pure.indexAgg (cs := sv S) (j := t) (v := .int .u32 (S.l.getD t 0)) Tryd.runUnderlying143 Tryd.sizeOf142 Tryd.isAgg142 rfl rfl rfl (by omega) (iv_get (show t < 8 by omega))) rfl ?_
            refine OL.pure (Pure.assign rfl) rfl ?_
            refine OL.pure (Pure.assign rfl) rfl ?_
            refine OL.nil ?_
            refine TE.region ?_
            refine OL.pure (Pure.move rfl) rfl ?_
            refine OL.pure (Pure.mul rfl rfl (i64 (by omega) (by omega))) rfl ?_
            refine OL.pure (Pure.move rfl) rfl ?_
            refine OL.pure (Pure.mul rfl rfl (i64 (by omega) (by omega))) rfl ?_
            refine OL.pure (Pure.add rfl rfl (i64 (by omega) (by omega))) rfl ?_
            refine OL.pure (Pure.move rfl) rfl ?_
            refine OL.pure (Pure.mul rfl rfl (i64 (by omega) (by omega))) rfl ?_
            refine OL.pure (Pure.add rfl rfl (i64 (by omega) (by omega))) rfl ?_
            refine OL.pure (Pure.move rfl) rfl ?_
            refine OL.pure (Pure.mul rfl rfl (i64 (by omega) (by omega))) rfl ?_
            refine OL.pure (Pure.add rfl rfl (i64 (by omega) (by omega))) rfl ?_
            refine OL.pure (Pure.move rfl) rfl ?_
            refine OL.pure (Pure.shr (p := 16777216) rfl rfl (by decide) (by decide)) rfl ?_
            refine OL.pure (Pure.conv Tryd.runUnderlying142 Tryd.runUnderlying5 rfl (u8w _)) rfl ?_
            refine OL.pure (Pure.move rfl) rfl ?_
            refine OL.pure (Pure.shr (p := 65536) rfl rfl (by decide) (by decide)) rfl ?_
            refine OL.pure (Pure.conv Tryd.runUnderlying142 Tryd.runUnderlying5 rfl (u8w _)) rfl ?_
            refine OL.pure (Pure.move rfl) rfl ?_
            refine OL.pure (Pure.shr (p := 256) rfl rfl (by decide) (by decide)) rfl ?_
            refine OL.pure (Pure.conv Tryd.runUnderlying142 Tryd.runUnderlying5 rfl (u8w _)) rfl ?_
            refine OL.pure (Pure.move rfl) rfl ?_
            refine OL.pure (Pure.conv Tryd.runUnderlying142 Tryd.runUnderlying5 rfl (u8w _)) rfl ?_
            refine OL.pure (Pure.indexAddrA (r := 4 * t) Tryd.runUnderlying133 Tryd.sizeOf5 rfl rfl (by omega) (by omega) (by omega)) rfl ?_
            refine OL.store (j := 4 * t) rfl rfl Tryd.sizeOf5 rfl hd (by omega) (iv_get (by simp [digTo_len]; omega)) ?_
            intro w23 hb23 hc23
            replace hr := hr.chg hc23 (by simp; omega)
            replace hC := hC.trans1 hc23 (by first | exact .inr (by omega) | exact .inl (by simp))
            replace hd := hb23
            rw [iv_set] at hd
            refine OL.pure (Pure.indexAddrA (r := 4 * t + 1) Tryd.runUnderlying133 Tryd.sizeOf5 rfl rfl (by omega) (by omega) (by omega)) rfl ?_
            refine OL.store (j := 4 * t + 1) rfl rfl Tryd.sizeOf5 rfl hd (by omega) (iv_get (by simp [digTo_len]; omega)) ?_
            intro w24 hb24 hc24
            replace hr := hr.chg hc24 (by simp; omega)
            replace hC := hC.trans1 hc24 (by first | exact .inr (by omega) | exact .inl (by simp))
            replace hd := hb24
            rw [iv_set] at hd
            refine OL.pure (Pure.indexAddrA (r := 4 * t + 2) Tryd.runUnderlying133 Tryd.sizeOf5 rfl rfl (by omega) (by omega) (by omega)) rfl ?_
            refine OL.store (j := 4 * t + 2) rfl rfl Tryd.sizeOf5 rfl hd (by omega) (iv_get (by simp [digTo_len]; omega)) ?_
            intro w25 hb25 hc25
            replace hr := hr.chg hc25 (by simp; omega)
            replace hC := hC.trans1 hc25 (by first | exact .inr (by omega) | exact .inl (by simp))
            replace hd := hb25
            rw [iv_set] at hd
            refine OL.pure (Pure.indexAddrA (r := 4 * t + 3) Tryd.runUnderlying133 Tryd.sizeOf5 rfl rfl (by omega) (by omega) (by omega)) rfl ?_
            refine OL.store (j := 4 * t + 3) rfl rfl Tryd.sizeOf5 rfl hd (by omega) (iv_get (by simp [digTo_len]; omega)) ?_
            intro w26 hb26 hc26
            replace hr := hr.chg hc26 (by simp; omega)
            replace hC := hC.trans1 hc26 (by first | exact .inr (by omega) | exact .inl (by simp))
            replace hd := hb26
            rw [iv_set] at hd
            refine OL.nil ?_
            refine TE.inBlock ?_
            refine TE.region ?_
            refine OL.pure (Pure.add rfl rfl (i64 (by omega) (by omega))) rfl ?_
            refine OL.pure (Pure.move rfl) rfl ?_
            refine OL.nil ?_
            exact TE.sub [2, 7, 69, 70] rfl (ih22 (t + 1) _ ⟨by omega, hC, hr, hd⟩ (by omega))
          ·
            obtain rfl : t = 8 := by omega
            rw [digTo_all] at hd
            refine TE.exit rfl ?_
            refine TE.seq ?_
            refine TE.region ?_
            refine OL.val (Run.loadRow (i := 0) (vs := iv .u8 (dig S)) rfl Tryd.underlying133 rfl rfl hd (by omega) rfl) rfl ?_
            refine OL.storeRow (vs := iv .u8 (dig S)) rfl rfl (rfl) (by simp only [iv, List.mem_map]; rintro _ ⟨x, _, rfl⟩; rfl) hr (Nat.le_refl 32) ?_
            intro w27 hb27 hc27
            replace hd := hd.chg hc27 (by simp; omega)
            replace hC := hC.trans1 hc27 (by first | exact .inr (by omega) | exact .inl (by simp))
            replace hr := hb27
            replace hr := hr.all rfl
            have hfin : dig S = sum m := by rw [hS, List.take_length, hS0, hR, sum_of_parts]; rfl
            refine OL.nil ?_
            exact TE.ret (vs := [.agg (iv .u8 (sum m)).toArray]) Tryd.results83 (⟨⟨_, rfl, hfin ▸ loadRow_at Tryd.underlying133 rfl rfl hr rfl⟩, trivial⟩) ⟨rfl, hC⟩

end Go.Proofs.YtcologcjhenmkaaDoor
/- Sum of both, walked -/
set_option linter.unusedVariables false
set_option maxRecDepth 4000
namespace Go.Proofs.YtcologcjhenmkaaDoor
open Go.V Go.Sha
theorem sum_any {tK : TypeId} (m : List UInt8) (hm : m.length ≤ 4294967296) (w : World) (hK : Blk w 1 tK (iv .u32 K)) : Calls Tryd.prog 81 #[.string (str m)] w (RetC (.agg (iv .u8 (sum m)).toArray) w) := by
  refine calls_of_TE (vs := [.string (str m)]) Tryd.func81 Tryd.ntmps81 rfl (by simp) ?_
  have hC : Chg [] w w := Chg.refl _ _
  refine TE.seq ?_
  refine TE.region ?_
  refine OL.alloc Tryd.zeroValue133 rfl ?_
  intro gr w1 hr hc1 hg_gr
  have lt_1_gr : 1 < gr := by have := hK.lt; omega
  have ge_gr : w.heap.size ≤ gr := by have := hC.size; omega
  replace hK := hK.chg0 hc1
  replace hC := hC.then_ hc1
  have hr : Blk w1 gr 133 (iv .u8 (List.replicate 32 0)) := hr
  refine OL.nil ?_
  refine TE.seq ?_
  refine TE.region ?_
  refine OL.alloc Tryd.zeroValue145 rfl ?_
  intro gh w2 hh hc2 hg_gh
  have lt_1_gh : 1 < gh := by have := hK.lt; omega
  have lt_gr_gh : gr < gh := by have := hr.lt; omega
  have ge_gh : w.heap.size ≤ gh := by have := hC.size; omega
  replace hK := hK.chg0 hc2
  replace hr := hr.chg0 hc2
  replace hC := hC.then_ hc2
  have hh : Blk w2 gh 145 (hashCells []) := hh
  refine OL.nil ?_
  refine TE.seq ?_
  refine TE.region ?_
  refine OL.pure (Pure.move rfl) rfl ?_
  refine OL.call rfl Tryd.call82 rfl (write_any [] m (by simpa using hm) gh (by omega) _ hK hh) ?_
  rintro _ w9 ⟨rfl, hc9, hh9⟩
  replace hK := hK.chg hc9 (by simp; omega)
  replace hr := hr.chg hc9 (by simpa using hr.ne hh (by decide))
  replace hC := hC.trans1 hc9 (by first | exact .inr (by omega) | exact .inl (by simp))
  replace hh : Blk w9 gh 145 (hashCells m) := hh9
  refine ⟨_, rfl, ?_⟩
  refine OL.nil ?_
  refine TE.seq ?_
  refine TE.region ?_
  refine OL.call rfl Tryd.call83 rfl (hsum_any m hm gh _ hK hh) ?_
  rintro _ w3 ⟨rfl, hc3⟩
  replace hK := hK.chg0 hc3
  replace hr := hr.chg0 hc3
  replace hh := hh.chg0 hc3
  replace hC := hC.then_ hc3
  refine ⟨_, rfl, ?_⟩
  refine OL.storeRow (vs := iv .u8 (sum m)) rfl rfl (rfl) (by simp only [iv, List.mem_map]; rintro _ ⟨x, _, rfl⟩; rfl) hr (Nat.le_refl 32) ?_
  intro w4 hb4 hc4
  replace hK := hK.chg hc4 (by simp; omega)
  replace hh := hh.chg hc4 (by simpa using hh.ne hr (by decide))
  replace hC := hC.trans1 hc4 (by first | exact .inr (by omega) | exact .inl (by simp))
  replace hr := hb4
  replace hr := hr.all rfl
  refine OL.nil ?_
  exact TE.ret (vs := [.agg (iv .u8 (sum m)).toArray]) Tryd.results81 (⟨⟨_, rfl, loadRow_at Tryd.underlying133 rfl rfl hr rfl⟩, trivial⟩) ⟨rfl, hC⟩

end Go.Proofs.YtcologcjhenmkaaDoor
/- Join and its reference, walked -/
set_option linter.unusedVariables false
set_option maxRecDepth 4000
namespace Go.Proofs.YtcologcjhenmkaaDoor
open Go.V Go.Sha
theorem join_big (t : UInt8) (A : Option Addr) (cap : Nat) (L : List (List UInt8)) (hl : 255 < L.length) (w : World) : Calls Tryd.prog 80 #[.int .u8 ((t.toNat : Nat) : Int), .slice A L.length cap] w (RetC (.tuple #[.string (str []), .int .i64 9]) w) := by
  refine calls_of_TE (vs := [.int .u8 ((t.toNat : Nat) : Int), .slice A L.length cap]) Tryd.func80 Tryd.ntmps80 rfl (by simp) ?_
  have hC : Chg [] w w := Chg.refl _ _
  refine TE.seq ?_
  refine TE.region ?_
  refine OL.pure (Pure.assign rfl) rfl ?_
  refine OL.pure (Pure.assign rfl) rfl ?_
  refine OL.nil ?_
  refine TE.seq ?_
  refine TE.seq ?_
  refine TE.region ?_
  refine OL.pure (Pure.move rfl) rfl ?_
  refine OL.pure (Pure.lenSlice Tryd.runUnderlying42 rfl) rfl ?_
  refine OL.pure (Pure.gtr rfl rfl) rfl ?_
  refine OL.nil ?_
  refine TE.condT rfl (decide_eq_true (by omega)) ?_
  refine TE.seq ?_
  refine TE.region ?_
  refine OL.pure (Pure.assign rfl) rfl ?_
  refine OL.pure (Pure.assign rfl) rfl ?_
  refine OL.nil ?_
  exact TE.ret (vs := [.string (str []), .int .i64 9]) Tryd.results80 (⟨rfl, rfl, trivial⟩) ⟨rfl, hC⟩

set_option maxHeartbeats 1000000 in
theorem join_any (t : UInt8) (A : Option Addr) (cap : Nat) (L : List (List UInt8)) (hl : L.length ≤ 255) (hb : (jparts L).length ≤ 4294967296) (w : World) (hA : Cells w A L) : Calls Tryd.prog 80 #[.int .u8 ((t.toNat : Nat) : Int), .slice A L.length cap] w (RetC (.tuple #[.string (str (join t L)), .int .i64 0]) w) := by
  refine calls_of_TE (vs := [.int .u8 ((t.toNat : Nat) : Int), .slice A L.length cap]) Tryd.func80 Tryd.ntmps80 rfl (by simp) ?_
  have hC : Chg [] w w := Chg.refl _ _
  refine TE.seq ?_
  refine TE.region ?_
  refine OL.pure (Pure.assign rfl) rfl ?_
  refine OL.pure (Pure.assign rfl) rfl ?_
  refine OL.nil ?_
  refine TE.seq ?_
  refine TE.seq ?_
  refine TE.region ?_
  refine OL.pure (Pure.move rfl) rfl ?_
  refine OL.pure (Pure.lenSlice Tryd.runUnderlying42 rfl) rfl ?_
  refine OL.pure (Pure.gtr rfl rfl) rfl ?_
  refine OL.nil ?_
  refine TE.condF rfl (decide_eq_false (by omega)) ?_
  refine TE.skip ?_
  refine TE.seq ?_
  refine TE.region ?_
  refine OL.pure (Pure.move rfl) rfl ?_
  refine OL.pure (Pure.move rfl) rfl ?_
  refine OL.pure (Pure.lenSlice Tryd.runUnderlying42 rfl) rfl ?_
  refine OL.pure (Pure.conv Tryd.runUnderlying3 Tryd.runUnderlying5 rfl (u8w _)) rfl ?_
  refine OL.cast (.int .u8 (((UInt8.ofNat L.length).toNat : Nat) : Int)) 16 rfl (congrArg _ (u8nat _)) ?_
  refine OL.buildSlice (cs := [.int .u8 ((t.toNat : Nat) : Int), .int .u8 (((UInt8.ofNat L.length).toNat : Nat) : Int)]) rfl Tryd.runUnderlying34 Tryd.sizeOf5 Tryd.zeroValue5 (by decide) (by decide) (by kernel_rfl) rfl ?_
  intro q w1 hq hc1 hg_q
  have ge_q : w.heap.size ≤ q := by have := hC.size; omega
  replace hC := hC.then_ hc1
  have hm_v0 := Mine.slice ge_q 0 2 2
  have hv0 : Row w1 5 1 (.slice (some ⟨q, 0, none⟩) 2 2) (2 + (jparts (L.take 0)).length) (bv ([t, UInt8.ofNat L.length] ++ jparts (L.take 0))) := Row.lit hq rfl
  refine OL.pure (Pure.assign rfl) rfl ?_
  refine OL.nil ?_
  refine TE.seq ?_
  refine TE.seq ?_
  refine TE.region ?_
  refine OL.pure (Pure.move rfl) rfl ?_
  refine OL.pure (Pure.lenSlice Tryd.runUnderlying42 rfl) rfl ?_
  refine OL.pure (Pure.move rfl) rfl ?_
  refine OL.nil ?_
  refine TE.block ?_
  refine TE.loopInv (σ := Nat × Value) [6, 18, 19, 20] (fun s_ w_ => match s_ with | (j, v) => j ≤ L.length ∧ Row w_ 5 1 v (2 + (jparts (L.take j)).length) (bv ([t, UInt8.ofNat L.length] ++ jparts (L.take j))) ∧ Mine w.heap.size v ∧ Chg [] w w_) (fun s_ => [(6, s_.2), (18, .slice A L.length cap), (19, .int .i64 (↑L.length)), (20, .int .i64 (↑s_.1))]) (fun s_ => L.length - s_.1) (0, .slice (some ⟨q, 0, none⟩) 2 2) ⟨by omega, hv0, hm_v0, hC⟩ rfl ?_
  rintro ⟨j, v⟩ w2 ⟨hj, hv, hm_v, hC⟩ ih2
  try dsimp only
  refine TE.seq ?_
  refine TE.region ?_
  refine OL.pure (Pure.lss rfl rfl) rfl ?_
  refine OL.nil ?_
  refine TE.seq ?_
  refine TE.ite rfl (fun hlt => ?_) (fun hlt => ?_)
  ·
    obtain ⟨g, o, rfl, hcell⟩ := hA j (by omega)
    have hcell0 := cell_chg hcell hC (by simp)
    obtain ⟨X, hX⟩ : ∃ X, X = L.getD j [] := ⟨_, rfl⟩
    rw [← hX] at hcell0 hcell
    have hsx := jparts_succ (show j < L.length by omega)
    rw [← hX] at hsx
    have hlx : (jparts (L.take (j + 1))).length = (jparts (L.take j)).length + (4 + X.length) := by rw [hsx, List.length_append, jpart_len]
    have hle := jparts_take_le L (j + 1)
    refine TE.skip ?_
    refine TE.seq ?_
    refine TE.block ?_
    refine TE.seq ?_
    refine TE.region ?_
    refine OL.pure (Pure.indexAddrS (r := o + j) Tryd.runUnderlying42 Tryd.sizeOf9 rfl rfl (by omega) (by omega) (by omega)) rfl ?_
    refine OL.val (Run.loadCell rfl Tryd.isAgg9 hcell0) rfl ?_
    refine OL.pure (Pure.assign rfl) rfl ?_
    refine OL.nil ?_
    refine TE.seq ?_
    refine TE.region ?_
    refine OL.pure (Pure.move rfl) rfl ?_
    refine OL.pure (Pure.lenStr Tryd.runUnderlying9 rfl) rfl ?_
    refine OL.pure (Pure.conv Tryd.runUnderlying3 Tryd.runUnderlying142 rfl (u32in (by omega) (by omega))) rfl ?_
    refine OL.pure (Pure.assign rfl) rfl ?_
    refine OL.nil ?_
    refine TE.seq ?_
    refine TE.region ?_
    refine OL.pure (Pure.move rfl) rfl ?_
    refine OL.pure (Pure.move rfl) rfl ?_
    refine OL.pure (Pure.shr (p := 16777216) rfl rfl (by decide) (by decide)) rfl ?_
    refine OL.pure (Pure.conv Tryd.runUnderlying142 Tryd.runUnderlying5 rfl (u8w _)) rfl ?_
    refine OL.pure (Pure.move rfl) rfl ?_
    refine OL.pure (Pure.shr (p := 65536) rfl rfl (by decide) (by decide)) rfl ?_
    refine OL.pure (Pure.conv Tryd.runUnderlying142 Tryd.runUnderlying5 rfl (u8w _)) rfl ?_
    refine OL.pure (Pure.move rfl) rfl ?_
    refine OL.pure (Pure.shr (p := 256) rfl rfl (by decide) (by decide)) rfl ?_
    refine OL.pure (Pure.conv Tryd.runUnderlying142 Tryd.runUnderlying5 rfl (u8w _)) rfl ?_
    refine OL.pure (Pure.move rfl) rfl ?_
    refine OL.pure (Pure.conv Tryd.runUnderlying142 Tryd.runUnderlying5 rfl (u8w _)) rfl ?_
    refine OL.cast (.int .u8 (((UInt8.ofNat (X.length / 16777216)).toNat : Nat) : Int)) 30 rfl (congrArg (Value.int .u8) (u8sh X.length 16777216)) ?_
    refine OL.cast (.int .u8 (((UInt8.ofNat (X.length / 65536)).toNat : Nat) : Int)) 33 rfl (congrArg (Value.int .u8) (u8sh X.length 65536)) ?_
    refine OL.cast (.int .u8 (((UInt8.ofNat (X.length / 256)).toNat : Nat) : Int)) 36 rfl (congrArg (Value.int .u8) (u8sh X.length 256)) ?_
    refine OL.cast (.int .u8 (((UInt8.ofNat X.length).toNat : Nat) : Int)) 38 rfl (congrArg _ (u8nat _)) ?_
    refine OL.buildSlice (cs := [.int .u8 (((UInt8.ofNat (X.length / 16777216)).toNat : Nat) : Int), .int .u8 (((UInt8.ofNat (X.length / 65536)).toNat : Nat) : Int), .int .u8 (((UInt8.ofNat (X.length / 256)).toNat : Nat) : Int), .int .u8 (((UInt8.ofNat X.length).toNat : Nat) : Int)]) rfl Tryd.runUnderlying34 Tryd.sizeOf5 Tryd.zeroValue5 (by decide) (by decide) (by kernel_rfl) rfl ?_
    intro q w3 hq hc3 hg_q
    have ge_q : w.heap.size ≤ q := by have := hC.size; omega
    replace hv := hv.chg0 hc3
    replace hC := hC.then_ hc3
    refine OL.append (size := 1) (news := [.int .u8 (((UInt8.ofNat (X.length / 16777216)).toNat : Nat) : Int), .int .u8 (((UInt8.ofNat (X.length / 65536)).toNat : Nat) : Int), .int .u8 (((UInt8.ofNat (X.length / 256)).toNat : Nat) : Int), .int .u8 (((UInt8.ofNat X.length).toNat : Nat) : Int)]) (v := v) rfl rfl Tryd.underlying34 (.inl Tryd.underlying34) info5 rfl rfl rfl (by decide) rfl hv ((Src.of_blk hq rfl rfl)) (by simp [Value.oneCell']) (by show _ * 1 ≤ _; omega) ?_
    intro v2 w4 hv2 hc4 ho_v2
    have hm_v2 : Mine w.heap.size v2 := Mine.step hm_v (by have := hC.size; omega) ho_v2
    replace hC := hC.own hc4 hm_v
    replace hv2 : Row w4 5 1 v2 (2 + (jparts (L.take j)).length + 4) (bv ([t, UInt8.ofNat L.length] ++ jparts (L.take j) ++ be4 X.length)) := by rw [← bv_append _ (be4 X.length)]; exact hv2
    refine OL.pure (Pure.assign rfl) rfl ?_
    refine OL.nil ?_
    refine TE.region ?_
    refine OL.pure (Pure.move rfl) rfl ?_
    refine OL.pure (Pure.move rfl) rfl ?_
    refine OL.append (size := 1) (news := (bv X)) (v := v2) rfl rfl Tryd.underlying34 (.inr Tryd.underlying9) info5 rfl rfl rfl (by decide) rfl hv2 ((Src.str _ X _)) (by intro u hu; simp only [bv, List.mem_map] at hu; obtain ⟨b, _, rfl⟩ := hu; rfl) (by show _ * 1 ≤ _; omega) ?_
    intro v3 w5 hv3 hc5 ho_v3
    have hm_v3 : Mine w.heap.size v3 := Mine.step hm_v2 (by have := hC.size; omega) ho_v3
    replace hC := hC.own hc5 hm_v2
    replace hv3 : Row w5 5 1 v3 (2 + (jparts (L.take (j + 1))).length) (bv ([t, UInt8.ofNat L.length] ++ jparts (L.take (j + 1)))) := by
      rw [hlx, hsx, jpart, ← List.append_assoc, ← List.append_assoc, ← bv_append _ X, show 2 + ((jparts (L.take j)).length + (4 + X.length)) = 2 + (jparts (L.take j)).length + 4 + X.length by omega]; exact hv3
    refine OL.pure (Pure.assign rfl) rfl ?_
    refine OL.nil ?_
    refine TE.inBlock ?_
    refine TE.region ?_
    refine OL.pure (Pure.add rfl rfl (i64 (by omega) (by omega))) rfl ?_
    refine OL.pure (Pure.move rfl) rfl ?_
    refine OL.nil ?_
    exact TE.sub [6, 18, 19, 20] rfl (ih2 (j + 1, v3) _ ⟨by omega, hv3, hm_v3, hC⟩ (by simp only []; omega))
  ·
    obtain rfl : j = L.length := by omega
    rw [List.take_length] at hv
    replace hv : Row _ 5 1 v (2 + (jparts L).length) (bv (join t L)) := hv
    refine TE.exit rfl ?_
    refine TE.seq ?_
    refine TE.region ?_
    refine OL.pure (Pure.move rfl) rfl ?_
    refine OL.val (Run.rowStr Tryd.underlying34 Tryd.underlying5 Tryd.underlying9 rfl hv) rfl ?_
    refine OL.pure (Pure.assign rfl) rfl ?_
    refine OL.pure (Pure.assign rfl) rfl ?_
    refine OL.nil ?_
    exact TE.ret (vs := [.string (str (join t L)), .int .i64 0]) Tryd.results80 (⟨rfl, rfl, trivial⟩) ⟨rfl, hC⟩

end Go.Proofs.YtcologcjhenmkaaDoor
/- Tagged and its reference, walked -/
set_option linter.unusedVariables false
set_option maxRecDepth 4000
namespace Go.Proofs.YtcologcjhenmkaaDoor
open Go.V Go.Sha
theorem tagged_any {tK : TypeId} (t : UInt8) (A : Option Addr) (cap : Nat) (L : List (List UInt8)) (hl : L.length ≤ 255) (hb : (jparts L).length ≤ 4294967200) (w : World) (hK : Blk w 1 tK (iv .u32 K)) (hA : Cells w A L) : Calls Tryd.prog 77 #[.int .u8 ((t.toNat : Nat) : Int), .slice A L.length cap] w (RetC (.tuple #[.agg (iv .u8 (sum (join t L))).toArray, .int .i64 0]) w) := by
  refine calls_of_TE (vs := [.int .u8 ((t.toNat : Nat) : Int), .slice A L.length cap]) Tryd.func77 Tryd.ntmps77 rfl (by simp) ?_
  have hC : Chg [] w w := Chg.refl _ _
  refine TE.seq ?_
  refine TE.region ?_
  refine OL.alloc Tryd.zeroValue133 rfl ?_
  intro gr w1 hr hc1 hg_gr
  have lt_1_gr : 1 < gr := by have := hK.lt; omega
  have nb_hA_gr := hA.fresh (g := gr) (by omega)
  have ge_gr : w.heap.size ≤ gr := by have := hC.size; omega
  replace hK := hK.chg0 hc1
  replace hA := hA.chg0 hc1
  replace hC := hC.then_ hc1
  have hr : Blk w1 gr 133 (iv .u8 (List.replicate 32 0)) := hr
  refine OL.pure (Pure.assign rfl) rfl ?_
  refine OL.nil ?_
  refine TE.seq ?_
  refine TE.region ?_
  refine OL.pure (Pure.move rfl) rfl ?_
  refine OL.pure (Pure.move rfl) rfl ?_
  refine OL.call rfl Tryd.call80 rfl (join_any t A cap L hl (by omega) _ hA) ?_
  rintro _ w2 ⟨rfl, hc2⟩
  replace hK := hK.chg0 hc2
  replace hA := hA.chg0 hc2
  replace hr := hr.chg0 hc2
  replace hC := hC.then_ hc2
  refine ⟨_, rfl, ?_⟩
  have hjl : (join t L).length ≤ 4294967296 := by rw [join_len]; omega
  refine OL.pure (Pure.move rfl) rfl ?_
  refine OL.pure (Pure.extract (vs := [.string (str (join t L)), .int .i64 0]) (i := 0) rfl rfl) rfl ?_
  refine OL.pure (Pure.extract (vs := [.string (str (join t L)), .int .i64 0]) (i := 1) rfl rfl) rfl ?_
  refine OL.pure (Pure.assign rfl) rfl ?_
  refine OL.pure (Pure.assign rfl) rfl ?_
  refine OL.nil ?_
  refine TE.seq ?_
  refine TE.seq ?_
  refine TE.region ?_
  refine OL.pure (Pure.move rfl) rfl ?_
  refine OL.pure (Pure.neq rfl rfl) rfl ?_
  refine OL.cast (.bool false) 15 rfl (rfl) ?_
  refine OL.nil ?_
  refine TE.condF rfl rfl ?_
  refine TE.skip ?_
  refine TE.seq ?_
  refine TE.region ?_
  refine OL.pure (Pure.move rfl) rfl ?_
  refine OL.call rfl Tryd.call81 rfl (sum_any _ hjl _ hK) ?_
  rintro _ w3 ⟨rfl, hc3⟩
  replace hK := hK.chg0 hc3
  replace hA := hA.chg0 hc3
  replace hr := hr.chg0 hc3
  replace hC := hC.then_ hc3
  refine ⟨_, rfl, ?_⟩
  refine OL.storeRow (vs := iv .u8 (sum (join t L))) rfl rfl (rfl) (by simp only [iv, List.mem_map]; rintro _ ⟨x, _, rfl⟩; rfl) hr (Nat.le_refl 32) ?_
  intro w4 hb4 hc4
  replace hK := hK.chg hc4 (by simp; omega)
  replace hA := hA.chg hc4 nb_hA_gr
  replace hC := hC.trans1 hc4 (by first | exact .inr (by omega) | exact .inl (by simp))
  replace hr := hb4
  replace hr := hr.all rfl
  refine OL.pure (Pure.assign rfl) rfl ?_
  refine OL.nil ?_
  exact TE.ret (vs := [.agg (iv .u8 (sum (join t L))).toArray, .int .i64 0]) Tryd.results77 (⟨⟨_, rfl, loadRow_at Tryd.underlying133 rfl rfl hr rfl⟩, rfl, trivial⟩) ⟨rfl, hC⟩

theorem tagged_big {tK : TypeId} (t : UInt8) (A : Option Addr) (cap : Nat) (L : List (List UInt8)) (hl : 255 < L.length) (w : World) (hK : Blk w 1 tK (iv .u32 K)) (hA : Cells w A L) : Calls Tryd.prog 77 #[.int .u8 ((t.toNat : Nat) : Int), .slice A L.length cap] w (RetC (.tuple #[.agg (iv .u8 (List.replicate 32 0)).toArray, .int .i64 9]) w) := by
  refine calls_of_TE (vs := [.int .u8 ((t.toNat : Nat) : Int), .slice A L.length cap]) Tryd.func77 Tryd.ntmps77 rfl (by simp) ?_
  have hC : Chg [] w w := Chg.refl _ _
  refine TE.seq ?_
  refine TE.region ?_
  refine OL.alloc Tryd.zeroValue133 rfl ?_
  intro gr w1 hr hc1 hg_gr
  have lt_1_gr : 1 < gr := by have := hK.lt; omega
  have nb_hA_gr := hA.fresh (g := gr) (by omega)
  have ge_gr : w.heap.size ≤ gr := by have := hC.size; omega
  replace hK := hK.chg0 hc1
  replace hA := hA.chg0 hc1
  replace hC := hC.then_ hc1
  have hr : Blk w1 gr 133 (iv .u8 (List.replicate 32 0)) := hr
  refine OL.pure (Pure.assign rfl) rfl ?_
  refine OL.nil ?_
  refine TE.seq ?_
  refine TE.region ?_
  refine OL.pure (Pure.move rfl) rfl ?_
  refine OL.pure (Pure.move rfl) rfl ?_
  refine OL.call rfl Tryd.call80 rfl (join_big t A cap L hl _) ?_
  rintro _ w2 ⟨rfl, hc2⟩
  replace hK := hK.chg0 hc2
  replace hA := hA.chg0 hc2
  replace hr := hr.chg0 hc2
  replace hC := hC.then_ hc2
  refine ⟨_, rfl, ?_⟩
  refine OL.pure (Pure.move rfl) rfl ?_
  refine OL.pure (Pure.extract (vs := [.string (str []), .int .i64 9]) (i := 0) rfl rfl) rfl ?_
  refine OL.pure (Pure.extract (vs := [.string (str []), .int .i64 9]) (i := 1) rfl rfl) rfl ?_
  refine OL.pure (Pure.assign rfl) rfl ?_
  refine OL.pure (Pure.assign rfl) rfl ?_
  refine OL.nil ?_
  refine TE.seq ?_
  refine TE.seq ?_
  refine TE.region ?_
  refine OL.pure (Pure.move rfl) rfl ?_
  refine OL.pure (Pure.neq rfl rfl) rfl ?_
  refine OL.cast (.bool true) 15 rfl (rfl) ?_
  refine OL.nil ?_
  refine TE.condT rfl rfl ?_
  refine TE.seq ?_
  refine TE.region ?_
  refine OL.pure (Pure.build (cs := iv .u8 (List.replicate 32 0)) rfl (by kernel_rfl)) rfl ?_
  refine OL.pure (Pure.move rfl) rfl ?_
  refine OL.storeRow (vs := iv .u8 (List.replicate 32 0)) rfl rfl (rfl) (by simp only [iv, List.mem_map]; rintro _ ⟨x, _, rfl⟩; rfl) hr (Nat.le_refl 32) ?_
  intro w3 hb3 hc3
  replace hK := hK.chg hc3 (by simp; omega)
  replace hA := hA.chg hc3 nb_hA_gr
  replace hC := hC.trans1 hc3 (by first | exact .inr (by omega) | exact .inl (by simp))
  replace hr := hb3
  replace hr := hr.all rfl
  refine OL.pure (Pure.assign rfl) rfl ?_
  refine OL.nil ?_
  exact TE.ret (vs := [.agg (iv .u8 (List.replicate 32 0)).toArray, .int .i64 9]) Tryd.results77 (⟨⟨_, rfl, loadRow_at Tryd.underlying133 rfl rfl hr rfl⟩, rfl, trivial⟩) ⟨rfl, hC⟩

end Go.Proofs.YtcologcjhenmkaaDoor
