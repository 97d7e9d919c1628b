/- the reference: its block, walked -/
import Derived.Test.YtigjmemoaapmgaaDoorProg
import Derived.Test.YtigjmemoaapmgaaDoorEng
import Derived.Test.YtigjmemoaapmgaaDoorShaSpec
set_option linter.unusedVariables false
set_option maxRecDepth 4000
namespace Go.Proofs.YtigjmemoaapmgaaDoor
open Go.V Go.Sha
theorem begin_any (w : World) : Calls Tryd.prog 59 #[] w (RetC (.agg (sv init).toArray) w) := by
  refine calls_of_TE (vs := []) Tryd.func59 Tryd.ntmps59 rfl (by simp) ?_
  have hC : Chg [] w w := Chg.refl _ _
  refine TE.seq ?_
  refine TE.region ?_
  refine OL.alloc Tryd.zeroValue106 rfl ?_
  intro gr w1 hr hc1 hg_gr
  have ge_gr : w.heap.size ≤ gr := by have := hC.size; omega
  replace hC := hC.then_ hc1
  refine OL.nil ?_
  refine TE.seq ?_
  refine TE.region ?_
  refine OL.pure (Pure.build (cs := sv init) rfl (by kernel_rfl)) rfl ?_
  refine OL.storeRow (vs := sv init) rfl rfl (rfl) (by simp [sv, iv, S8.l, Value.oneCell']) hr (Nat.le_refl 8) ?_
  intro w2 hb2 hc2
  replace hC := hC.trans1 hc2 (by first | exact .inr (by omega) | exact .inl (by simp))
  replace hr := hb2
  replace hr := hr.all rfl
  refine OL.nil ?_
  exact TE.ret (vs := [.agg (sv init).toArray]) Tryd.results59 (⟨⟨_, rfl, loadRow_at Tryd.underlying106 rfl rfl hr rfl⟩, trivial⟩) ⟨rfl, hC⟩

theorem rK_any (w : World) : Calls Tryd.prog 57 #[] w (RetC (.agg (iv .u32 K).toArray) w) := by
  refine calls_of_TE (vs := []) Tryd.func57 Tryd.ntmps57 rfl (by simp) ?_
  have hC : Chg [] w w := Chg.refl _ _
  refine TE.seq ?_
  refine TE.region ?_
  refine OL.alloc Tryd.zeroValue113 rfl ?_
  intro gr w1 hr hc1 hg_gr
  have ge_gr : w.heap.size ≤ gr := by have := hC.size; omega
  replace hC := hC.then_ hc1
  refine OL.nil ?_
  refine TE.seq ?_
  refine TE.region ?_
  refine OL.pure (Pure.build (cs := iv .u32 K) rfl (by kernel_rfl)) rfl ?_
  refine OL.storeRow (vs := iv .u32 K) rfl rfl (rfl) (by simp [iv, K, Value.oneCell']) hr (Nat.le_refl 64) ?_
  intro w2 hb2 hc2
  replace hC := hC.trans1 hc2 (by first | exact .inr (by omega) | exact .inl (by simp))
  replace hr := hb2
  replace hr := hr.all rfl
  refine OL.nil ?_
  exact TE.ret (vs := [.agg (iv .u32 K).toArray]) Tryd.results57 (⟨⟨_, rfl, loadRow_at Tryd.underlying113 rfl rfl hr rfl⟩, trivial⟩) ⟨rfl, hC⟩

theorem turn_any (x : Int) (m : Nat) (h0 : 0 < m) (h1 : m < 32) (w : World) : Calls Tryd.prog 58 #[.int .i64 (m : Int), .int .u32 x] w (RetC (.int .u32 (rotr m x)) w) := by
  refine calls_of_TE (vs := [.int .i64 (m : Int), .int .u32 x]) Tryd.func58 Tryd.ntmps58 rfl (by simp) ?_
  refine TE.seq ?_
  refine TE.region ?_
  refine OL.pure (Pure.assign rfl) rfl ?_
  refine OL.nil ?_
  refine TE.seq ?_
  refine TE.planAll (.cons (0, true) (.cons (1, true) (.cons (2, true) (.cons (3, true) (.cons (4, true) (.cons (5, true) (.cons (6, true) (.cons (7, true) (.cons (8, true) .nil))))))))) (fun w_ => Chg [] w w_) rfl (by kernel_rfl) ?_
  have hS1 : Chg [] w w.drew := Chg.drew _ _
  refine PL.takeP rfl (Pure.move rfl) rfl hS1 ?_
  refine PL.takeP rfl (Pure.move rfl) rfl hS1 ?_
  refine PL.takeP rfl (Pure.shr (p := 2 ^ m) rfl rfl (by omega) (by congr 1; simp [IntKind.bits]; omega)) rfl hS1 ?_
  refine PL.takeP rfl (Pure.move rfl) rfl hS1 ?_
  refine PL.takeP rfl (Pure.move rfl) rfl hS1 ?_
  refine PL.takeP rfl (Pure.sub rfl rfl (i64 (by omega) (by omega))) rfl hS1 ?_
  refine PL.takeP rfl (Pure.shl (p := 2 ^ (32 - m)) rfl rfl (by omega) (by congr 1; simp [IntKind.bits]) (u32w _)) rfl hS1 ?_
  refine PL.takeP rfl (Pure.bits rfl rfl rfl) rfl hS1 ?_
  refine PL.takeP rfl (Pure.assign rfl) rfl hS1 ?_
  refine PL.nil ?_
  exact TE.ret (vs := [.int .u32 (rotr m x)]) Tryd.results58 (⟨by rw [rotr_comm]; rfl, trivial⟩) ⟨by rw [rotr_comm]; rfl, hS1⟩

set_option maxHeartbeats 1000000 in
theorem schedule_any (l : List UInt8) (hl : l.length = 64) (gb ob cap : Nat) (cs : List Value) (hsub : (cs.drop ob).take 64 = bv l) (w : World) (hb : Blk w gb 5 cs) : Calls Tryd.prog 56 #[.slice (some ⟨gb, ob, none⟩) 64 cap] w (RetC (.agg (iv .u32 (schedTo (bt l) 64)).toArray) w) := by
  refine calls_of_TE (vs := [.slice (some ⟨gb, ob, none⟩) 64 cap]) Tryd.func56 Tryd.ntmps56 rfl (by simp) ?_
  have hC : Chg [] w w := Chg.refl _ _
  refine TE.seq ?_
  refine TE.region ?_
  refine OL.alloc Tryd.zeroValue113 rfl ?_
  intro gr w1 hr hc1 hg_gr
  have lt_gb_gr : gb < gr := by have := hb.lt; omega
  have ge_gr : w.heap.size ≤ gr := by have := hC.size; omega
  replace hb := hb.chg0 hc1
  replace hC := hC.then_ hc1
  have hr : Blk w1 gr 113 (iv .u32 (schedTo (bt l) 0)) := hr
  refine OL.nil ?_
  refine TE.seq ?_
  refine TE.region ?_
  refine OL.alloc Tryd.zeroValue113 rfl ?_
  intro gw w2 hw hc2 hg_gw
  have lt_gb_gw : gb < gw := by have := hb.lt; omega
  have lt_gr_gw : gr < gw := by have := hr.lt; omega
  have ge_gw : w.heap.size ≤ gw := by have := hC.size; omega
  replace hb := hb.chg0 hc2
  replace hr := hr.chg0 hc2
  replace hC := hC.then_ hc2
  have hw : Blk w2 gw 113 (iv .u32 (schedTo (bt l) 0)) := hw
  refine OL.nil ?_
  refine TE.seq ?_
  refine TE.seq ?_
  refine TE.region ?_
  refine OL.pure (Pure.assign rfl) rfl ?_
  refine OL.nil ?_
  refine TE.block ?_
  refine TE.loopInv (σ := Nat) [0, 2, 3, 4] (fun s_ w_ => s_ ≤ 64 ∧ Chg [] w w_ ∧ Blk w_ gb 5 cs ∧ Blk w_ gr 113 (iv .u32 (schedTo (bt l) 0)) ∧ Blk w_ gw 113 (iv .u32 (schedTo (bt l) s_))) (fun s_ => [(0, .slice (some ⟨gb, ob, none⟩) 64 cap), (2, .pointer (some ⟨gr, 0, none⟩)), (3, .pointer (some ⟨gw, 0, none⟩)), (4, .int .i64 (↑s_))]) (fun s_ => 64 - s_) 0 ⟨by omega, hC, hb, hr, hw⟩ rfl ?_
  rintro t w3 ⟨ht, hC, hb, hr, hw⟩ ih3
  refine TE.seq ?_
  refine TE.seq ?_
  refine TE.region ?_
  refine OL.pure (Pure.move rfl) rfl ?_
  refine OL.pure (Pure.lss rfl rfl) rfl ?_
  refine OL.nil ?_
  refine TE.ite rfl (fun hlt => ?_) (fun hlt => ?_)
  ·
    refine TE.skip ?_
    refine TE.seq ?_
    refine TE.block ?_
    refine TE.seq ?_
    refine TE.seq ?_
    refine TE.region ?_
    refine OL.pure (Pure.move rfl) rfl ?_
    refine OL.pure (Pure.lss rfl rfl) rfl ?_
    refine OL.nil ?_
    refine TE.ite rfl (fun h16 => ?_) (fun h16 => ?_)
    ·
      refine TE.seq ?_
      refine TE.plan 35 (.cons (0, true) (.cons (1, true) (.cons (2, true) (.cons (3, true) (.cons (4, true) (.cons (5, true) (.cons (6, true) (.cons (7, true) (.cons (8, true) (.cons (9, true) (.cons (10, true) (.cons (11, true) (.cons (12, true) (.cons (13, true) (.cons (14, true) (.cons (15, true) (.cons (16, true) (.cons (17, true) (.cons (18, true) (.cons (19, true) (.cons (20, true) (.cons (21, true) (.cons (22, true) (.cons (23, true) (.cons (24, true) (.cons (25, true) (.cons (26, true) (.cons (27, true) (.cons (28, true) (.cons (29, true) (.cons (30, true) (.cons (31, true) (.cons (32, true) (.cons (33, true) (.cons (34, true) .nil))))))))))))))))))))))))))))))))))) (fun w_ => Chg [] w3 w_) rfl (by kernel_rfl) rfl ?_
      have hS4 : Chg [] w3 w3.drew := Chg.drew _ _
      refine PL.takeP rfl (Pure.move rfl) rfl hS4 ?_
      refine PL.takeP rfl (Pure.move rfl) rfl hS4 ?_
      refine PL.takeP rfl (Pure.move rfl) rfl hS4 ?_
      refine PL.takeP rfl (Pure.mul rfl rfl (i64 (by omega) (by omega))) rfl hS4 ?_
      refine PL.takeP rfl (Pure.indexAddrS (r := ob + 4 * t) Tryd.runUnderlying24 Tryd.sizeOf5 rfl rfl (by omega) (by omega) (by omega)) rfl hS4 ?_
      refine PL.take rfl (fun w_ h_ => Run.load (i := ob + 4 * t) rfl Tryd.isAgg5 (hb.chg0 h_) (by omega) (sub_get hsub (by omega) hl)) rfl hS4 ?_
      refine PL.takeP rfl (Pure.conv Tryd.runUnderlying5 Tryd.runUnderlying105 rfl (u32bt _ _)) rfl hS4 ?_
      refine PL.takeP rfl (Pure.shl (p := 16777216) rfl rfl (by decide) (by decide) (u32w _)) rfl hS4 ?_
      refine PL.takeP rfl (Pure.move rfl) rfl hS4 ?_
      refine PL.takeP rfl (Pure.move rfl) rfl hS4 ?_
      refine PL.takeP rfl (Pure.mul rfl rfl (i64 (by omega) (by omega))) rfl hS4 ?_
      refine PL.takeP rfl (Pure.add rfl rfl (i64 (by omega) (by omega))) rfl hS4 ?_
      refine PL.takeP rfl (Pure.indexAddrS (r := ob + 4 * t + 1) Tryd.runUnderlying24 Tryd.sizeOf5 rfl rfl (by omega) (by omega) (by omega)) rfl hS4 ?_
      refine PL.take rfl (fun w_ h_ => Run.load (i := ob + (4 * t + 1)) rfl Tryd.isAgg5 (hb.chg0 h_) (by omega) (sub_get hsub (by omega) hl)) rfl hS4 ?_
      refine PL.takeP rfl (Pure.conv Tryd.runUnderlying5 Tryd.runUnderlying105 rfl (u32bt _ _)) rfl hS4 ?_
      refine PL.takeP rfl (Pure.shl (p := 65536) rfl rfl (by decide) (by decide) (u32w _)) rfl hS4 ?_
      refine PL.takeP rfl (Pure.add rfl rfl (u32w _)) rfl hS4 ?_
      refine PL.takeP rfl (Pure.move rfl) rfl hS4 ?_
      refine PL.takeP rfl (Pure.move rfl) rfl hS4 ?_
      refine PL.takeP rfl (Pure.mul rfl rfl (i64 (by omega) (by omega))) rfl hS4 ?_
      refine PL.takeP rfl (Pure.add rfl rfl (i64 (by omega) (by omega))) rfl hS4 ?_
      refine PL.takeP rfl (Pure.indexAddrS (r := ob + 4 * t + 2) Tryd.runUnderlying24 Tryd.sizeOf5 rfl rfl (by omega) (by omega) (by omega)) rfl hS4 ?_
      refine PL.take rfl (fun w_ h_ => Run.load (i := ob + (4 * t + 2)) rfl Tryd.isAgg5 (hb.chg0 h_) (by omega) (sub_get hsub (by omega) hl)) rfl hS4 ?_
      refine PL.takeP rfl (Pure.conv Tryd.runUnderlying5 Tryd.runUnderlying105 rfl (u32bt _ _)) rfl hS4 ?_
      refine PL.takeP rfl (Pure.shl (p := 256) rfl rfl (by decide) (by decide) (u32w _)) rfl hS4 ?_
      refine PL.takeP rfl (Pure.add rfl rfl (u32w _)) rfl hS4 ?_
      refine PL.takeP rfl (Pure.move rfl) rfl hS4 ?_
      refine PL.takeP rfl (Pure.move rfl) rfl hS4 ?_
      refine PL.takeP rfl (Pure.mul rfl rfl (i64 (by omega) (by omega))) rfl hS4 ?_
      refine PL.takeP rfl (Pure.add rfl rfl (i64 (by omega) (by omega))) rfl hS4 ?_
      refine PL.takeP rfl (Pure.indexAddrS (r := ob + 4 * t + 3) Tryd.runUnderlying24 Tryd.sizeOf5 rfl rfl (by omega) (by omega) (by omega)) rfl hS4 ?_
      refine PL.take rfl (fun w_ h_ => Run.load (i := ob + (4 * t + 3)) rfl Tryd.isAgg5 (hb.chg0 h_) (by omega) (sub_get hsub (by omega) hl)) rfl hS4 ?_
      refine PL.takeP rfl (Pure.conv Tryd.runUnderlying5 Tryd.runUnderlying105 rfl (u32bt _ _)) rfl hS4 ?_
      refine PL.takeP rfl (Pure.add rfl rfl (u32w _)) rfl hS4 ?_
      refine PL.takeP rfl (Pure.indexAddrA (r := t) Tryd.runUnderlying113 Tryd.sizeOf105 rfl rfl (by omega) (by omega) (by omega)) rfl hS4 ?_
      refine PL.cast (.int .u32 (word (bt l) t)) 48 rfl (congrArg _ (word_add l t)) ?_
      refine PL.nilTail ?_
      replace hb := hb.chg0 hS4
      replace hr := hr.chg0 hS4
      replace hw := hw.chg0 hS4
      replace hC := hC.then_ hS4
      refine OL.store (j := t) rfl rfl Tryd.sizeOf105 rfl hw (by omega) (iv_get (by rw [schedTo_len]; omega)) ?_
      intro w5 hb5 hc5
      replace hb := hb.chg hc5 (by simpa using hb.ne hw (by decide))
      replace hr := hr.chg hc5 (by simp; omega)
      replace hC := hC.trans1 hc5 (by first | exact .inr (by omega) | exact .inl (by simp))
      replace hw := hb5
      rw [iv_set, ← schedTo_lt (bt l) (show t < 16 by omega)] at hw
      refine OL.nil ?_
      refine TE.exit rfl ?_
      refine TE.region ?_
      refine OL.pure (Pure.move rfl) rfl ?_
      refine OL.pure (Pure.add rfl rfl (i64 (by omega) (by omega))) rfl ?_
      refine OL.pure (Pure.assign rfl) rfl ?_
      refine OL.nil ?_
      exact TE.sub [0, 2, 3, 4] rfl (ih3 (t + 1) _ ⟨by omega, hC, hb, hr, hw⟩ (by omega))
    ·
      refine TE.skip ?_
      refine TE.seq ?_
      refine TE.planAll (.cons (0, true) (.cons (1, true) (.cons (2, true) (.cons (3, true) (.cons (4, true) (.cons (5, true) (.cons (6, true) (.cons (7, true) (.cons (8, true) (.cons (9, true) .nil)))))))))) (fun w_ => Chg [] w3 w_) rfl (by kernel_rfl) ?_
      have hS6 : Chg [] w3 w3.drew := Chg.drew _ _
      refine PL.takeP rfl (Pure.move rfl) rfl hS6 ?_
      refine PL.takeP rfl (Pure.sub rfl rfl (i64 (by omega) (by omega))) rfl hS6 ?_
      refine PL.takeP rfl (Pure.indexAddrA (r := t - 15) Tryd.runUnderlying113 Tryd.sizeOf105 rfl rfl (by omega) (by omega) (by omega)) rfl hS6 ?_
      refine PL.take rfl (fun w_ h_ => Run.load (i := t - 15) rfl Tryd.isAgg105 (hw.chg0 h_) (by omega) (iv_get (by rw [schedTo_len]; omega))) rfl hS6 ?_
      refine PL.takeP rfl (Pure.move rfl) rfl hS6 ?_
      refine PL.takeP rfl (Pure.sub rfl rfl (i64 (by omega) (by omega))) rfl hS6 ?_
      refine PL.takeP rfl (Pure.indexAddrA (r := t - 2) Tryd.runUnderlying113 Tryd.sizeOf105 rfl rfl (by omega) (by omega) (by omega)) rfl hS6 ?_
      refine PL.take rfl (fun w_ h_ => Run.load (i := t - 2) rfl Tryd.isAgg105 (hw.chg0 h_) (by omega) (iv_get (by rw [schedTo_len]; omega))) rfl hS6 ?_
      refine PL.takeP rfl (Pure.assign rfl) rfl hS6 ?_
      refine PL.takeP rfl (Pure.assign rfl) rfl hS6 ?_
      refine PL.nil ?_
      replace hb := hb.chg0 hS6
      replace hr := hr.chg0 hS6
      replace hw := hw.chg0 hS6
      replace hC := hC.then_ hS6
      refine TE.seq ?_
      refine TE.region ?_
      refine OL.pure (Pure.move rfl) rfl ?_
      refine OL.call rfl Tryd.call58 rfl (turn_any _ 7 (by omega) (by omega) _) ?_
      rintro _ w7 ⟨rfl, hc7⟩
      replace hb := hb.chg0 hc7
      replace hr := hr.chg0 hc7
      replace hw := hw.chg0 hc7
      replace hC := hC.then_ hc7
      refine ⟨_, rfl, ?_⟩
      refine OL.pure (Pure.move rfl) rfl ?_
      refine OL.call rfl Tryd.call58 rfl (turn_any _ 18 (by omega) (by omega) _) ?_
      rintro _ w8 ⟨rfl, hc8⟩
      replace hb := hb.chg0 hc8
      replace hr := hr.chg0 hc8
      replace hw := hw.chg0 hc8
      replace hC := hC.then_ hc8
      refine ⟨_, rfl, ?_⟩
      refine OL.pure (Pure.bits rfl rfl rfl) rfl ?_
      refine OL.pure (Pure.move rfl) rfl ?_
      refine OL.pure (Pure.shr (p := 8) rfl rfl (by decide) (by decide)) rfl ?_
      refine OL.pure (Pure.bits rfl rfl rfl) rfl ?_
      refine OL.pure (Pure.assign rfl) rfl ?_
      refine OL.nil ?_
      refine TE.seq ?_
      refine TE.region ?_
      refine OL.pure (Pure.move rfl) rfl ?_
      refine OL.call rfl Tryd.call58 rfl (turn_any _ 17 (by omega) (by omega) _) ?_
      rintro _ w9 ⟨rfl, hc9⟩
      replace hb := hb.chg0 hc9
      replace hr := hr.chg0 hc9
      replace hw := hw.chg0 hc9
      replace hC := hC.then_ hc9
      refine ⟨_, rfl, ?_⟩
      refine OL.pure (Pure.move rfl) rfl ?_
      refine OL.call rfl Tryd.call58 rfl (turn_any _ 19 (by omega) (by omega) _) ?_
      rintro _ w10 ⟨rfl, hc10⟩
      replace hb := hb.chg0 hc10
      replace hr := hr.chg0 hc10
      replace hw := hw.chg0 hc10
      replace hC := hC.then_ hc10
      refine ⟨_, rfl, ?_⟩
      refine OL.pure (Pure.bits rfl rfl rfl) rfl ?_
      refine OL.pure (Pure.move rfl) rfl ?_
      refine OL.pure (Pure.shr (p := 1024) rfl rfl (by decide) (by decide)) rfl ?_
      refine OL.pure (Pure.bits rfl rfl rfl) rfl ?_
      refine OL.pure (Pure.assign rfl) rfl ?_
      refine OL.nil ?_
      refine TE.plan 15 (.cons (0, true) (.cons (1, true) (.cons (2, true) (.cons (3, true) (.cons (4, true) (.cons (5, true) (.cons (6, true) (.cons (7, true) (.cons (8, true) (.cons (9, true) (.cons (10, true) (.cons (11, true) (.cons (12, true) (.cons (13, true) (.cons (14, true) .nil))))))))))))))) (fun w_ => Chg [] w10 w_) rfl (by kernel_rfl) rfl ?_
      have hS11 : Chg [] w10 w10.drew := Chg.drew _ _
      refine PL.takeP rfl (Pure.move rfl) rfl hS11 ?_
      refine PL.takeP rfl (Pure.move rfl) rfl hS11 ?_
      refine PL.takeP rfl (Pure.sub rfl rfl (i64 (by omega) (by omega))) rfl hS11 ?_
      refine PL.takeP rfl (Pure.indexAddrA (r := t - 16) Tryd.runUnderlying113 Tryd.sizeOf105 rfl rfl (by omega) (by omega) (by omega)) rfl hS11 ?_
      refine PL.take rfl (fun w_ h_ => Run.load (i := t - 16) rfl Tryd.isAgg105 (hw.chg0 h_) (by omega) (iv_get (by rw [schedTo_len]; omega))) rfl hS11 ?_
      refine PL.takeP rfl (Pure.move rfl) rfl hS11 ?_
      refine PL.takeP rfl (Pure.add rfl rfl (u32w _)) rfl hS11 ?_
      refine PL.takeP rfl (Pure.move rfl) rfl hS11 ?_
      refine PL.takeP rfl (Pure.sub rfl rfl (i64 (by omega) (by omega))) rfl hS11 ?_
      refine PL.takeP rfl (Pure.indexAddrA (r := t - 7) Tryd.runUnderlying113 Tryd.sizeOf105 rfl rfl (by omega) (by omega) (by omega)) rfl hS11 ?_
      refine PL.take rfl (fun w_ h_ => Run.load (i := t - 7) rfl Tryd.isAgg105 (hw.chg0 h_) (by omega) (iv_get (by rw [schedTo_len]; omega))) rfl hS11 ?_
      refine PL.takeP rfl (Pure.add rfl rfl (u32w _)) rfl hS11 ?_
      refine PL.takeP rfl (Pure.move rfl) rfl hS11 ?_
      refine PL.takeP rfl (Pure.add rfl rfl (u32w _)) rfl hS11 ?_
      refine PL.takeP rfl (Pure.indexAddrA (r := t) Tryd.runUnderlying113 Tryd.sizeOf105 rfl rfl (by omega) (by omega) (by omega)) rfl hS11 ?_
      refine PL.cast (.int .u32 (next (schedTo (bt l) t) t)) 87 rfl (rfl) ?_
      refine PL.nilTail ?_
      replace hb := hb.chg0 hS11
      replace hr := hr.chg0 hS11
      replace hw := hw.chg0 hS11
      replace hC := hC.then_ hS11
      refine OL.store (j := t) rfl rfl Tryd.sizeOf105 rfl hw (by omega) (iv_get (by rw [schedTo_len]; omega)) ?_
      intro w12 hb12 hc12
      replace hb := hb.chg hc12 (by simpa using hb.ne hw (by decide))
      replace hr := hr.chg hc12 (by simp; omega)
      replace hC := hC.trans1 hc12 (by first | exact .inr (by omega) | exact .inl (by simp))
      replace hw := hb12
      rw [iv_set, ← schedTo_ge (bt l) (show 16 ≤ t by omega)] at hw
      refine OL.nil ?_
      refine TE.inBlock ?_
      refine TE.region ?_
      refine OL.pure (Pure.move rfl) rfl ?_
      refine OL.pure (Pure.add rfl rfl (i64 (by omega) (by omega))) rfl ?_
      refine OL.pure (Pure.assign rfl) rfl ?_
      refine OL.nil ?_
      exact TE.sub [0, 2, 3, 4] rfl (ih3 (t + 1) _ ⟨by omega, hC, hb, hr, hw⟩ (by omega))
  ·
    obtain rfl : t = 64 := by omega
    have hGl := schedTo_len (bt l) 64
    generalize schedTo (bt l) 64 = G at hw hGl ⊢
    refine TE.exit rfl ?_
    refine TE.seq ?_
    refine TE.region ?_
    refine OL.val (Run.loadAll rfl Tryd.underlying113 rfl hw (by rw [iv_len, hGl]; rfl)) rfl ?_
    refine OL.storeRow (vs := iv .u32 G) rfl rfl (by rw [iv_len, hGl]; rfl) (by simp only [iv, List.mem_map]; rintro _ ⟨x, _, rfl⟩; rfl) hr (by rw [iv_len, hGl]; exact Nat.le_refl 64) ?_
    intro w13 hb13 hc13
    replace hb := hb.chg hc13 (by simpa using hb.ne hr (by decide))
    replace hw := hw.chg hc13 (by simp; omega)
    replace hC := hC.trans1 hc13 (by first | exact .inr (by omega) | exact .inl (by simp))
    replace hr := hb13
    replace hr := hr.all (by rw [iv_len, iv_len, schedTo_len, hGl])
    refine OL.nil ?_
    exact TE.ret (vs := [.agg (iv .u32 G).toArray]) Tryd.results56 (⟨⟨_, rfl, loadRow_at Tryd.underlying113 rfl (by rw [iv_len, hGl]; rfl) hr (by rw [List.drop_zero, List.take_length])⟩, trivial⟩) ⟨rfl, hC⟩

set_option maxHeartbeats 2000000 in
theorem rblock_any (s : S8) (l : List UInt8) (hl : l.length = 64) (gb ob cap : Nat) (cs : List Value) (hsub : (cs.drop ob).take 64 = bv l) (w : World) (hb : Blk w gb 5 cs) : Calls Tryd.prog 53 #[.agg (sv s).toArray, .slice (some ⟨gb, ob, none⟩) 64 cap] w (RetC (.agg (sv (comp s (bt l))).toArray) w) := by
  refine calls_of_TE (vs := [.agg (sv s).toArray, .slice (some ⟨gb, ob, none⟩) 64 cap]) Tryd.func53 Tryd.ntmps53 rfl (by simp) ?_
  have hC : Chg [] w w := Chg.refl _ _
  refine TE.seq ?_
  refine TE.region ?_
  refine OL.box rfl rfl ?_
  intro gs w1 hs hc1 hg_gs
  have lt_gb_gs : gb < gs := by have := hb.lt; omega
  have ge_gs : w.heap.size ≤ gs := by have := hC.size; omega
  replace hb := hb.chg0 hc1
  replace hC := hC.then_ hc1
  have hs : Blk w1 gs 106 (sv s) := hs
  refine OL.alloc Tryd.zeroValue106 rfl ?_
  intro gr w2 hr hc2 hg_gr
  have lt_gb_gr : gb < gr := by have := hb.lt; omega
  have lt_gs_gr : gs < gr := by have := hs.lt; omega
  have ge_gr : w.heap.size ≤ gr := by have := hC.size; omega
  replace hb := hb.chg0 hc2
  replace hs := hs.chg0 hc2
  replace hC := hC.then_ hc2
  have hr : Blk w2 gr 106 (sv zero8) := hr
  refine OL.nil ?_
  refine TE.seq ?_
  refine TE.region ?_
  refine OL.pure (Pure.move rfl) rfl ?_
  refine OL.call rfl Tryd.call56 rfl (schedule_any l hl gb ob cap cs hsub _ hb) ?_
  rintro _ w3 ⟨rfl, hc3⟩
  replace hb := hb.chg0 hc3
  replace hs := hs.chg0 hc3
  replace hr := hr.chg0 hc3
  replace hC := hC.then_ hc3
  refine ⟨_, rfl, ?_⟩
  refine OL.call rfl Tryd.call57 rfl (rK_any _) ?_
  rintro _ w4 ⟨rfl, hc4⟩
  replace hb := hb.chg0 hc4
  replace hs := hs.chg0 hc4
  replace hr := hr.chg0 hc4
  replace hC := hC.then_ hc4
  refine ⟨_, rfl, ?_⟩
  have hGl := schedTo_len (bt l) 64
  refine OL.alloc Tryd.zeroValue113 rfl ?_
  intro gw w5 hw hc5 hg_gw
  have lt_gb_gw : gb < gw := by have := hb.lt; omega
  have lt_gs_gw : gs < gw := by have := hs.lt; omega
  have lt_gr_gw : gr < gw := by have := hr.lt; omega
  have ge_gw : w.heap.size ≤ gw := by have := hC.size; omega
  replace hb := hb.chg0 hc5
  replace hs := hs.chg0 hc5
  replace hr := hr.chg0 hc5
  replace hC := hC.then_ hc5
  refine OL.alloc Tryd.zeroValue113 rfl ?_
  intro gk w6 hk hc6 hg_gk
  have lt_gb_gk : gb < gk := by have := hb.lt; omega
  have lt_gs_gk : gs < gk := by have := hs.lt; omega
  have lt_gr_gk : gr < gk := by have := hr.lt; omega
  have lt_gw_gk : gw < gk := by have := hw.lt; omega
  have ge_gk : w.heap.size ≤ gk := by have := hC.size; omega
  replace hb := hb.chg0 hc6
  replace hs := hs.chg0 hc6
  replace hr := hr.chg0 hc6
  replace hw := hw.chg0 hc6
  replace hC := hC.then_ hc6
  refine OL.storeRow (vs := iv .u32 (schedTo (bt l) 64)) rfl rfl (by rw [iv_len, hGl]; rfl) (by simp only [iv, List.mem_map]; rintro _ ⟨x, _, rfl⟩; rfl) hw (by rw [iv_len, hGl]; exact Nat.le_refl 64) ?_
  intro w7 hb7 hc7
  replace hb := hb.chg hc7 (by simpa using hb.ne hw (by decide))
  replace hs := hs.chg hc7 (by simpa using hs.ne hw (by decide))
  replace hr := hr.chg hc7 (by simpa using hr.ne hw (by decide))
  replace hk := hk.chg hc7 (by simp; omega)
  replace hC := hC.trans1 hc7 (by first | exact .inr (by omega) | exact .inl (by simp))
  replace hw := hb7
  replace hw := hw.all (by rw [iv_len, hGl]; rfl)
  refine OL.storeRow (vs := iv .u32 K) rfl rfl (rfl) (by simp [iv, K, Value.oneCell']) hk (Nat.le_refl 64) ?_
  intro w8 hb8 hc8
  replace hb := hb.chg hc8 (by simpa using hb.ne hk (by decide))
  replace hs := hs.chg hc8 (by simpa using hs.ne hk (by decide))
  replace hr := hr.chg hc8 (by simpa using hr.ne hk (by decide))
  replace hw := hw.chg hc8 (by simp; omega)
  replace hC := hC.trans1 hc8 (by first | exact .inr (by omega) | exact .inl (by simp))
  replace hk := hb8
  replace hk := hk.all rfl
  refine OL.nil ?_
  refine TE.seq ?_
  refine TE.region ?_
  refine OL.val (Run.loadAll rfl Tryd.underlying106 rfl hs (rfl)) rfl ?_
  refine OL.alloc Tryd.zeroValue106 rfl ?_
  intro gx w9 hx hc9 hg_gx
  have lt_gb_gx : gb < gx := by have := hb.lt; omega
  have lt_gs_gx : gs < gx := by have := hs.lt; omega
  have lt_gr_gx : gr < gx := by have := hr.lt; omega
  have lt_gw_gx : gw < gx := by have := hw.lt; omega
  have lt_gk_gx : gk < gx := by have := hk.lt; omega
  have ge_gx : w.heap.size ≤ gx := by have := hC.size; omega
  replace hb := hb.chg0 hc9
  replace hs := hs.chg0 hc9
  replace hr := hr.chg0 hc9
  replace hw := hw.chg0 hc9
  replace hk := hk.chg0 hc9
  replace hC := hC.then_ hc9
  refine OL.storeRow (vs := sv s) rfl rfl (rfl) (by simp [sv, iv, S8.l, Value.oneCell']) hx (Nat.le_refl 8) ?_
  intro w10 hb10 hc10
  replace hb := hb.chg hc10 (by simpa using hb.ne hx (by decide))
  replace hs := hs.chg hc10 (by simp; omega)
  replace hr := hr.chg hc10 (by simp; omega)
  replace hw := hw.chg hc10 (by simpa using hw.ne hx (by decide))
  replace hk := hk.chg hc10 (by simpa using hk.ne hx (by decide))
  replace hC := hC.trans1 hc10 (by first | exact .inr (by omega) | exact .inl (by simp))
  replace hx := hb10
  replace hx := hx.all rfl
  refine OL.nil ?_
  refine TE.seq ?_
  refine TE.seq ?_
  refine TE.region ?_
  refine OL.pure (Pure.assign rfl) rfl ?_
  refine OL.nil ?_
  refine TE.block ?_
  refine TE.loopInv (σ := Nat) [2, 4, 5, 6, 7, 8] (fun s_ w_ => s_ ≤ 64 ∧ Chg [] w w_ ∧ Blk w_ gs 106 (sv s) ∧ Blk w_ gr 106 (sv zero8) ∧ Blk w_ gk 113 (iv .u32 K) ∧ Blk w_ gw 113 (iv .u32 (schedTo (bt l) 64)) ∧ Blk w_ gx 106 (sv (rounds (schedTo (bt l) 64) s s_))) (fun s_ => [(2, .pointer (some ⟨gs, 0, none⟩)), (4, .pointer (some ⟨gr, 0, none⟩)), (5, .pointer (some ⟨gw, 0, none⟩)), (6, .pointer (some ⟨gk, 0, none⟩)), (7, .pointer (some ⟨gx, 0, none⟩)), (8, .int .i64 (↑s_))]) (fun s_ => 64 - s_) 0 ⟨by omega, hC, hs, hr, hk, hw, hx⟩ rfl ?_
  rintro t w11 ⟨ht, hC, hs, hr, hk, hw, hx⟩ ih11
  refine TE.seq ?_
  refine TE.seq ?_
  refine TE.region ?_
  refine OL.pure (Pure.move rfl) rfl ?_
  refine OL.pure (Pure.lss rfl rfl) rfl ?_
  refine OL.nil ?_
  refine TE.ite rfl (fun hlt => ?_) (fun hlt => ?_)
  ·
    generalize hR : rounds (schedTo (bt l) 64) s t = R at hx
    refine TE.skip ?_
    refine TE.seq ?_
    refine TE.block ?_
    refine TE.seq ?_
    refine TE.planAll (.cons (0, true) (.cons (1, true) (.cons (2, true) (.cons (3, true) (.cons (5, true) (.cons (6, true) (.cons (9, true) (.cons (10, true) (.cons (14, true) (.cons (15, true) (.cons (16, true) (.cons (17, true) (.cons (18, true) (.cons (19, true) (.cons (20, true) (.cons (21, true) (.cons (22, true) (.cons (23, true) (.cons (24, true) (.cons (25, true) (.cons (27, true) (.cons (28, true) (.cons (29, true) (.cons (31, true) (.cons (32, true) (.cons (33, true) (.cons (4, false) (.cons (7, false) (.cons (8, true) (.cons (11, false) (.cons (12, true) (.cons (13, true) (.cons (26, true) (.cons (30, true) (.cons (34, true) (.cons (35, true) .nil)))))))))))))))))))))))))))))))))))) (fun w_ => Chg [] w11 w_) rfl (by kernel_rfl) ?_
    have hS12 : Chg [] w11 w11.drew := Chg.drew _ _
    refine PL.takeP rfl (Pure.indexAddrA (r := 7) Tryd.runUnderlying106 Tryd.sizeOf105 rfl rfl (by omega) (by omega) (by omega)) rfl hS12 ?_
    refine PL.take rfl (fun w_ h_ => Run.load (i := 7) rfl Tryd.isAgg105 (hx.chg0 h_) (by omega) rfl) rfl hS12 ?_
    refine PL.takeP rfl (Pure.indexAddrA (r := 4) Tryd.runUnderlying106 Tryd.sizeOf105 rfl rfl (by omega) (by omega) (by omega)) rfl hS12 ?_
    refine PL.take rfl (fun w_ h_ => Run.load (i := 4) rfl Tryd.isAgg105 (hx.chg0 h_) (by omega) rfl) rfl hS12 ?_
    refine PL.takeP rfl (Pure.indexAddrA (r := 4) Tryd.runUnderlying106 Tryd.sizeOf105 rfl rfl (by omega) (by omega) (by omega)) rfl hS12 ?_
    refine PL.take rfl (fun w_ h_ => Run.load (i := 4) rfl Tryd.isAgg105 (hx.chg0 h_) (by omega) rfl) rfl hS12 ?_
    refine PL.takeP rfl (Pure.indexAddrA (r := 4) Tryd.runUnderlying106 Tryd.sizeOf105 rfl rfl (by omega) (by omega) (by omega)) rfl hS12 ?_
    refine PL.take rfl (fun w_ h_ => Run.load (i := 4) rfl Tryd.isAgg105 (hx.chg0 h_) (by omega) rfl) rfl hS12 ?_
    refine PL.takeP rfl (Pure.indexAddrA (r := 4) Tryd.runUnderlying106 Tryd.sizeOf105 rfl rfl (by omega) (by omega) (by omega)) rfl hS12 ?_
    refine PL.take rfl (fun w_ h_ => Run.load (i := 4) rfl Tryd.isAgg105 (hx.chg0 h_) (by omega) rfl) rfl hS12 ?_
    refine PL.takeP rfl (Pure.indexAddrA (r := 5) Tryd.runUnderlying106 Tryd.sizeOf105 rfl rfl (by omega) (by omega) (by omega)) rfl hS12 ?_
    refine PL.take rfl (fun w_ h_ => Run.load (i := 5) rfl Tryd.isAgg105 (hx.chg0 h_) (by omega) rfl) rfl hS12 ?_
    refine PL.takeP rfl (Pure.bits rfl rfl rfl) rfl hS12 ?_
    refine PL.takeP rfl (Pure.indexAddrA (r := 4) Tryd.runUnderlying106 Tryd.sizeOf105 rfl rfl (by omega) (by omega) (by omega)) rfl hS12 ?_
    refine PL.take rfl (fun w_ h_ => Run.load (i := 4) rfl Tryd.isAgg105 (hx.chg0 h_) (by omega) rfl) rfl hS12 ?_
    refine PL.takeP rfl (Pure.bits rfl rfl rfl) rfl hS12 ?_
    refine PL.takeP rfl (Pure.indexAddrA (r := 6) Tryd.runUnderlying106 Tryd.sizeOf105 rfl rfl (by omega) (by omega) (by omega)) rfl hS12 ?_
    refine PL.take rfl (fun w_ h_ => Run.load (i := 6) rfl Tryd.isAgg105 (hx.chg0 h_) (by omega) rfl) rfl hS12 ?_
    refine PL.takeP rfl (Pure.bits rfl rfl rfl) rfl hS12 ?_
    refine PL.takeP rfl (Pure.bits rfl rfl rfl) rfl hS12 ?_
    refine PL.takeP rfl (Pure.move rfl) rfl hS12 ?_
    refine PL.takeP rfl (Pure.indexAddrA (r := t) Tryd.runUnderlying113 Tryd.sizeOf105 rfl rfl (by omega) (by omega) (by omega)) rfl hS12 ?_
    refine PL.take rfl (fun w_ h_ => Run.load (i := t) rfl Tryd.isAgg105 (hk.chg0 h_) (by omega) (iv_get (by rw [K_len]; omega))) rfl hS12 ?_
    refine PL.takeP rfl (Pure.move rfl) rfl hS12 ?_
    refine PL.takeP rfl (Pure.indexAddrA (r := t) Tryd.runUnderlying113 Tryd.sizeOf105 rfl rfl (by omega) (by omega) (by omega)) rfl hS12 ?_
    refine PL.take rfl (fun w_ h_ => Run.load (i := t) rfl Tryd.isAgg105 (hw.chg0 h_) (by omega) (iv_get (by rw [schedTo_len]; omega))) rfl hS12 ?_
    refine PL.call rfl rfl Tryd.call58 rfl (turn_any _ 6 (by omega) (by omega) _) ?_
    rintro _ w13 ⟨rfl, hc13⟩
    have hS14 := hS12.then_ hc13
    refine ⟨_, rfl, hS14, ?_⟩
    refine PL.call rfl rfl Tryd.call58 rfl (turn_any _ 11 (by omega) (by omega) _) ?_
    rintro _ w15 ⟨rfl, hc15⟩
    have hS16 := hS14.then_ hc15
    refine ⟨_, rfl, hS16, ?_⟩
    refine PL.takeP rfl (Pure.bits rfl rfl rfl) rfl hS16 ?_
    refine PL.call rfl rfl Tryd.call58 rfl (turn_any _ 25 (by omega) (by omega) _) ?_
    rintro _ w17 ⟨rfl, hc17⟩
    have hS18 := hS16.then_ hc17
    refine ⟨_, rfl, hS18, ?_⟩
    refine PL.takeP rfl (Pure.bits rfl rfl rfl) rfl hS18 ?_
    refine PL.takeP rfl (Pure.add rfl rfl (u32w _)) rfl hS18 ?_
    refine PL.takeP rfl (Pure.add rfl rfl (u32w _)) rfl hS18 ?_
    refine PL.takeP rfl (Pure.add rfl rfl (u32w _)) rfl hS18 ?_
    refine PL.takeP rfl (Pure.add rfl rfl (u32w _)) rfl hS18 ?_
    refine PL.takeP rfl (Pure.assign rfl) rfl hS18 ?_
    refine PL.nil ?_
    replace hs := hs.chg0 hS18
    replace hr := hr.chg0 hS18
    replace hk := hk.chg0 hS18
    replace hw := hw.chg0 hS18
    replace hx := hx.chg0 hS18
    replace hC := hC.then_ hS18
    refine TE.seq ?_
    refine TE.planAll (.cons (0, true) (.cons (1, true) (.cons (3, true) (.cons (4, true) (.cons (7, true) (.cons (8, true) (.cons (11, true) (.cons (12, true) (.cons (13, true) (.cons (14, true) (.cons (15, true) (.cons (16, true) (.cons (17, true) (.cons (18, true) (.cons (19, true) (.cons (20, true) (.cons (21, true) (.cons (22, true) (.cons (23, true) (.cons (24, true) (.cons (25, true) (.cons (26, true) (.cons (27, true) (.cons (2, false) (.cons (5, false) (.cons (6, true) (.cons (9, false) (.cons (10, true) (.cons (28, true) (.cons (29, true) .nil)))))))))))))))))))))))))))))) (fun w_ => Chg [] w17 w_) rfl (by kernel_rfl) ?_
    have hS19 : Chg [] w17 w17.drew := Chg.drew _ _
    refine PL.takeP rfl (Pure.indexAddrA (r := 0) Tryd.runUnderlying106 Tryd.sizeOf105 rfl rfl (by omega) (by omega) (by omega)) rfl hS19 ?_
    refine PL.take rfl (fun w_ h_ => Run.load (i := 0) rfl Tryd.isAgg105 (hx.chg0 h_) (by omega) rfl) rfl hS19 ?_
    refine PL.takeP rfl (Pure.indexAddrA (r := 0) Tryd.runUnderlying106 Tryd.sizeOf105 rfl rfl (by omega) (by omega) (by omega)) rfl hS19 ?_
    refine PL.take rfl (fun w_ h_ => Run.load (i := 0) rfl Tryd.isAgg105 (hx.chg0 h_) (by omega) rfl) rfl hS19 ?_
    refine PL.takeP rfl (Pure.indexAddrA (r := 0) Tryd.runUnderlying106 Tryd.sizeOf105 rfl rfl (by omega) (by omega) (by omega)) rfl hS19 ?_
    refine PL.take rfl (fun w_ h_ => Run.load (i := 0) rfl Tryd.isAgg105 (hx.chg0 h_) (by omega) rfl) rfl hS19 ?_
    refine PL.takeP rfl (Pure.indexAddrA (r := 0) Tryd.runUnderlying106 Tryd.sizeOf105 rfl rfl (by omega) (by omega) (by omega)) rfl hS19 ?_
    refine PL.take rfl (fun w_ h_ => Run.load (i := 0) rfl Tryd.isAgg105 (hx.chg0 h_) (by omega) rfl) rfl hS19 ?_
    refine PL.takeP rfl (Pure.indexAddrA (r := 1) Tryd.runUnderlying106 Tryd.sizeOf105 rfl rfl (by omega) (by omega) (by omega)) rfl hS19 ?_
    refine PL.take rfl (fun w_ h_ => Run.load (i := 1) rfl Tryd.isAgg105 (hx.chg0 h_) (by omega) rfl) rfl hS19 ?_
    refine PL.takeP rfl (Pure.bits rfl rfl rfl) rfl hS19 ?_
    refine PL.takeP rfl (Pure.indexAddrA (r := 0) Tryd.runUnderlying106 Tryd.sizeOf105 rfl rfl (by omega) (by omega) (by omega)) rfl hS19 ?_
    refine PL.take rfl (fun w_ h_ => Run.load (i := 0) rfl Tryd.isAgg105 (hx.chg0 h_) (by omega) rfl) rfl hS19 ?_
    refine PL.takeP rfl (Pure.indexAddrA (r := 2) Tryd.runUnderlying106 Tryd.sizeOf105 rfl rfl (by omega) (by omega) (by omega)) rfl hS19 ?_
    refine PL.take rfl (fun w_ h_ => Run.load (i := 2) rfl Tryd.isAgg105 (hx.chg0 h_) (by omega) rfl) rfl hS19 ?_
    refine PL.takeP rfl (Pure.bits rfl rfl rfl) rfl hS19 ?_
    refine PL.takeP rfl (Pure.bits rfl rfl rfl) rfl hS19 ?_
    refine PL.takeP rfl (Pure.indexAddrA (r := 1) Tryd.runUnderlying106 Tryd.sizeOf105 rfl rfl (by omega) (by omega) (by omega)) rfl hS19 ?_
    refine PL.take rfl (fun w_ h_ => Run.load (i := 1) rfl Tryd.isAgg105 (hx.chg0 h_) (by omega) rfl) rfl hS19 ?_
    refine PL.takeP rfl (Pure.indexAddrA (r := 2) Tryd.runUnderlying106 Tryd.sizeOf105 rfl rfl (by omega) (by omega) (by omega)) rfl hS19 ?_
    refine PL.take rfl (fun w_ h_ => Run.load (i := 2) rfl Tryd.isAgg105 (hx.chg0 h_) (by omega) rfl) rfl hS19 ?_
    refine PL.takeP rfl (Pure.bits rfl rfl rfl) rfl hS19 ?_
    refine PL.takeP rfl (Pure.bits rfl rfl rfl) rfl hS19 ?_
    refine PL.call rfl rfl Tryd.call58 rfl (turn_any _ 2 (by omega) (by omega) _) ?_
    rintro _ w20 ⟨rfl, hc20⟩
    have hS21 := hS19.then_ hc20
    refine ⟨_, rfl, hS21, ?_⟩
    refine PL.call rfl rfl Tryd.call58 rfl (turn_any _ 13 (by omega) (by omega) _) ?_
    rintro _ w22 ⟨rfl, hc22⟩
    have hS23 := hS21.then_ hc22
    refine ⟨_, rfl, hS23, ?_⟩
    refine PL.takeP rfl (Pure.bits rfl rfl rfl) rfl hS23 ?_
    refine PL.call rfl rfl Tryd.call58 rfl (turn_any _ 22 (by omega) (by omega) _) ?_
    rintro _ w24 ⟨rfl, hc24⟩
    have hS25 := hS23.then_ hc24
    refine ⟨_, rfl, hS25, ?_⟩
    refine PL.takeP rfl (Pure.bits rfl rfl rfl) rfl hS25 ?_
    refine PL.takeP rfl (Pure.add rfl rfl (u32w _)) rfl hS25 ?_
    refine PL.takeP rfl (Pure.assign rfl) rfl hS25 ?_
    refine PL.nil ?_
    replace hs := hs.chg0 hS25
    replace hr := hr.chg0 hS25
    replace hk := hk.chg0 hS25
    replace hw := hw.chg0 hS25
    replace hx := hx.chg0 hS25
    replace hC := hC.then_ hS25
    refine TE.region ?_
    refine OL.pure (Pure.move rfl) rfl ?_
    refine OL.pure (Pure.move rfl) rfl ?_
    refine OL.pure (Pure.add rfl rfl (u32w _)) rfl ?_
    refine OL.pure (Pure.indexAddrA (r := 0) Tryd.runUnderlying106 Tryd.sizeOf105 rfl rfl (by omega) (by omega) (by omega)) rfl ?_
    refine OL.val (Run.load (i := 0) rfl Tryd.isAgg105 hx (by omega) rfl) rfl ?_
    refine OL.pure (Pure.indexAddrA (r := 1) Tryd.runUnderlying106 Tryd.sizeOf105 rfl rfl (by omega) (by omega) (by omega)) rfl ?_
    refine OL.val (Run.load (i := 1) rfl Tryd.isAgg105 hx (by omega) rfl) rfl ?_
    refine OL.pure (Pure.indexAddrA (r := 2) Tryd.runUnderlying106 Tryd.sizeOf105 rfl rfl (by omega) (by omega) (by omega)) rfl ?_
    refine OL.val (Run.load (i := 2) rfl Tryd.isAgg105 hx (by omega) rfl) rfl ?_
    refine OL.pure (Pure.indexAddrA (r := 3) Tryd.runUnderlying106 Tryd.sizeOf105 rfl rfl (by omega) (by omega) (by omega)) rfl ?_
    refine OL.val (Run.load (i := 3) rfl Tryd.isAgg105 hx (by omega) rfl) rfl ?_
    refine OL.pure (Pure.move rfl) rfl ?_
    refine OL.pure (Pure.add rfl rfl (u32w _)) rfl ?_
    refine OL.pure (Pure.indexAddrA (r := 4) Tryd.runUnderlying106 Tryd.sizeOf105 rfl rfl (by omega) (by omega) (by omega)) rfl ?_
    refine OL.val (Run.load (i := 4) rfl Tryd.isAgg105 hx (by omega) rfl) rfl ?_
    refine OL.pure (Pure.indexAddrA (r := 5) Tryd.runUnderlying106 Tryd.sizeOf105 rfl rfl (by omega) (by omega) (by omega)) rfl ?_
    refine OL.val (Run.load (i := 5) rfl Tryd.isAgg105 hx (by omega) rfl) rfl ?_
    refine OL.pure (Pure.indexAddrA (r := 6) Tryd.runUnderlying106 Tryd.sizeOf105 rfl rfl (by omega) (by omega) (by omega)) rfl ?_
    refine OL.val (Run.load (i := 6) rfl Tryd.isAgg105 hx (by omega) rfl) rfl ?_
    refine OL.pure (Pure.build (cs := sv (round R (K.getD t 0) ((schedTo (bt l) 64).getD t 0))) rfl (by kernel_rfl)) rfl ?_
    refine OL.storeRow (vs := sv (round R (K.getD t 0) ((schedTo (bt l) 64).getD t 0))) rfl rfl (rfl) (by simp [sv, iv, S8.l, Value.oneCell']) hx (Nat.le_refl 8) ?_
    intro w26 hb26 hc26
    replace hs := hs.chg hc26 (by simp; omega)
    replace hr := hr.chg hc26 (by simp; omega)
    replace hk := hk.chg hc26 (by simpa using hk.ne hx (by decide))
    replace hw := hw.chg hc26 (by simpa using hw.ne hx (by decide))
    replace hC := hC.trans1 hc26 (by first | exact .inr (by omega) | exact .inl (by simp))
    replace hx := hb26
    replace hx := hx.all rfl
    rw [← hR] at hx
    refine OL.nil ?_
    refine TE.inBlock ?_
    refine TE.region ?_
    refine OL.pure (Pure.move rfl) rfl ?_
    refine OL.pure (Pure.add rfl rfl (i64 (by omega) (by omega))) rfl ?_
    refine OL.pure (Pure.assign rfl) rfl ?_
    refine OL.nil ?_
    exact TE.sub [2, 4, 5, 6, 7, 8] rfl (ih11 (t + 1) _ ⟨by omega, hC, hs, hr, hk, hw, hx⟩ (by omega))
  ·
    obtain rfl : t = 64 := by omega
    generalize hR : rounds (schedTo (bt l) 64) s 64 = R at hx
    refine TE.exit rfl ?_
    refine TE.seq ?_
    refine TE.seq ?_
    refine TE.region ?_
    refine OL.pure (Pure.assign rfl) rfl ?_
    refine OL.nil ?_
    refine TE.block ?_
    refine TE.loopInv (σ := Nat) [2, 4, 7, 11] (fun s_ w_ => s_ ≤ 8 ∧ Chg [] w w_ ∧ Blk w_ gr 106 (sv zero8) ∧ Blk w_ gx 106 (sv R) ∧ Blk w_ gs 106 (iv .u32 (addTo s.l R.l s_))) (fun s_ => [(2, .pointer (some ⟨gs, 0, none⟩)), (4, .pointer (some ⟨gr, 0, none⟩)), (7, .pointer (some ⟨gx, 0, none⟩)), (11, .int .i64 (↑s_))]) (fun s_ => 8 - s_) 0 ⟨by omega, hC, hr, hx, hs⟩ rfl ?_
    rintro t w27 ⟨ht, hC, hr, hx, hs⟩ ih27
    refine TE.seq ?_
    refine TE.seq ?_
    refine TE.region ?_
    refine OL.pure (Pure.move rfl) rfl ?_
    refine OL.pure (Pure.lss rfl rfl) rfl ?_
    refine OL.nil ?_
    refine TE.ite rfl (fun hlt => ?_) (fun hlt => ?_)
    ·
      refine TE.skip ?_
      refine TE.seq ?_
      refine TE.block ?_
      refine TE.plan 9 (.cons (0, true) (.cons (1, true) (.cons (2, true) (.cons (3, true) (.cons (4, true) (.cons (5, true) (.cons (6, true) (.cons (7, true) (.cons (8, true) .nil))))))))) (fun w_ => Chg [] w27 w_) rfl (by kernel_rfl) rfl ?_
      have hS28 : Chg [] w27 w27.drew := Chg.drew _ _
      refine PL.takeP rfl (Pure.move rfl) rfl hS28 ?_
      refine PL.takeP rfl (Pure.move rfl) rfl hS28 ?_
      refine PL.takeP rfl (Pure.indexAddrA (r := t) Tryd.runUnderlying106 Tryd.sizeOf105 rfl rfl (by omega) (by omega) (by omega)) rfl hS28 ?_
      refine PL.take rfl (fun w_ h_ => Run.load (i := t) rfl Tryd.isAgg105 (hs.chg0 h_) (by omega) (iv_get (by rw [addTo_len]; show _ < 8; omega))) rfl hS28 ?_
      refine PL.takeP rfl (Pure.move rfl) rfl hS28 ?_
      refine PL.takeP rfl (Pure.indexAddrA (r := t) Tryd.runUnderlying106 Tryd.sizeOf105 rfl rfl (by omega) (by omega) (by omega)) rfl hS28 ?_
      refine PL.take rfl (fun w_ h_ => Run.load (i := t) rfl Tryd.isAgg105 (hx.chg0 h_) (by omega) (iv_get (show _ < 8 by omega))) rfl hS28 ?_
      refine PL.takeP rfl (Pure.add rfl rfl (u32w _)) rfl hS28 ?_
      refine PL.takeP rfl (Pure.indexAddrA (r := t) Tryd.runUnderlying106 Tryd.sizeOf105 rfl rfl (by omega) (by omega) (by omega)) rfl hS28 ?_
      refine PL.nilTail ?_
      replace hr := hr.chg0 hS28
      replace hx := hx.chg0 hS28
      replace hs := hs.chg0 hS28
      replace hC := hC.then_ hS28
      refine OL.store (j := t) rfl rfl Tryd.sizeOf105 rfl hs (by omega) (iv_get (by rw [addTo_len]; show _ < 8; omega)) ?_
      intro w29 hb29 hc29
      replace hr := hr.chg hc29 (by simp; omega)
      replace hx := hx.chg hc29 (by simp; omega)
      replace hC := hC.trans1 hc29 (by first | exact .inr (by omega) | exact .inl (by simp))
      replace hs := hb29
      rw [iv_set] at hs
      refine OL.nil ?_
      refine TE.inBlock ?_
      refine TE.region ?_
      refine OL.pure (Pure.move rfl) rfl ?_
      refine OL.pure (Pure.add rfl rfl (i64 (by omega) (by omega))) rfl ?_
      refine OL.pure (Pure.assign rfl) rfl ?_
      refine OL.nil ?_
      exact TE.sub [2, 4, 7, 11] rfl (ih27 (t + 1) _ ⟨by omega, hC, hr, hx, hs⟩ (by omega))
    ·
      obtain rfl : t = 8 := by omega
      replace hs : Blk _ gs 106 (sv (addS s R)) := hs
      refine TE.exit rfl ?_
      refine TE.seq ?_
      refine TE.region ?_
      refine OL.val (Run.loadAll rfl Tryd.underlying106 rfl hs (rfl)) rfl ?_
      refine OL.storeRow (vs := sv (addS s R)) rfl rfl (rfl) (by simp [sv, iv, S8.l, Value.oneCell']) hr (Nat.le_refl 8) ?_
      intro w30 hb30 hc30
      replace hx := hx.chg hc30 (by simp; omega)
      replace hs := hs.chg hc30 (by simp; omega)
      replace hC := hC.trans1 hc30 (by first | exact .inr (by omega) | exact .inl (by simp))
      replace hr := hb30
      replace hr := hr.all rfl
      refine OL.nil ?_
      subst hR
      exact TE.ret (vs := [.agg (sv (comp s (bt l))).toArray]) Tryd.results53 (⟨⟨_, rfl, loadRow_at Tryd.underlying106 rfl rfl hr rfl⟩, trivial⟩) ⟨rfl, hC⟩

end Go.Proofs.YtigjmemoaapmgaaDoor
