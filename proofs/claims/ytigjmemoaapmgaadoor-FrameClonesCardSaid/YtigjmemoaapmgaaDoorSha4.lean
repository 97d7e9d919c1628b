/- Sum of both, walked -/
import Derived.Test.YtigjmemoaapmgaaDoorProg
import Derived.Test.YtigjmemoaapmgaaDoorEng2
import Derived.Test.YtigjmemoaapmgaaDoorShaSpec2
import Derived.Test.YtigjmemoaapmgaaDoorSha1
import Derived.Test.YtigjmemoaapmgaaDoorSha2
import Derived.Test.YtigjmemoaapmgaaDoorSha3
set_option linter.unusedVariables false
set_option maxRecDepth 4000
namespace Go.Proofs.YtigjmemoaapmgaaDoor
open Go.V Go.Sha
theorem sum_any {tK : TypeId} (m : List UInt8) (hm : m.length ≤ 4294967296) (w : World) (hK : Blk w 1 tK (iv .u32 K)) : Calls Tryd.prog 51 #[.string (str m)] w (RetC (.agg (iv .u8 (sum m)).toArray) w) := by
  refine calls_of_TE (vs := [.string (str m)]) Tryd.func51 Tryd.ntmps51 rfl (by simp) ?_
  have hC : Chg [] w w := Chg.refl _ _
  refine TE.seq ?_
  refine TE.region ?_
  refine OL.alloc Tryd.zeroValue98 rfl ?_
  intro gr w1 hr hc1 hg_gr
  have lt_1_gr : 1 < gr := by have := hK.lt; omega
  have ge_gr : w.heap.size ≤ gr := by have := hC.size; omega
  replace hK := hK.chg0 hc1
  replace hC := hC.then_ hc1
  have hr : Blk w1 gr 98 (iv .u8 (List.replicate 32 0)) := hr
  refine OL.nil ?_
  refine TE.seq ?_
  refine TE.region ?_
  refine OL.alloc Tryd.zeroValue110 rfl ?_
  intro gh w2 hh hc2 hg_gh
  have lt_1_gh : 1 < gh := by have := hK.lt; omega
  have lt_gr_gh : gr < gh := by have := hr.lt; omega
  have ge_gh : w.heap.size ≤ gh := by have := hC.size; omega
  replace hK := hK.chg0 hc2
  replace hr := hr.chg0 hc2
  replace hC := hC.then_ hc2
  have hh : Blk w2 gh 110 (hashCells []) := hh
  refine OL.nil ?_
  refine TE.seq ?_
  refine TE.region ?_
  refine OL.pure (Pure.move rfl) rfl ?_
  refine OL.call rfl Tryd.call54 rfl (write_any [] m (by simpa using hm) gh (by omega) _ hK hh) ?_
  rintro _ w9 ⟨rfl, hc9, hh9⟩
  replace hK := hK.chg hc9 (by simp; omega)
  replace hr := hr.chg hc9 (by simpa using hr.ne hh (by decide))
  replace hC := hC.trans1 hc9 (by first | exact .inr (by omega) | exact .inl (by simp))
  replace hh : Blk w9 gh 110 (hashCells m) := hh9
  refine ⟨_, rfl, ?_⟩
  refine OL.nil ?_
  refine TE.seq ?_
  refine TE.region ?_
  refine OL.call rfl Tryd.call55 rfl (hsum_any m hm gh _ hK hh) ?_
  rintro _ w3 ⟨rfl, hc3⟩
  replace hK := hK.chg0 hc3
  replace hr := hr.chg0 hc3
  replace hh := hh.chg0 hc3
  replace hC := hC.then_ hc3
  refine ⟨_, rfl, ?_⟩
  refine OL.storeRow (vs := iv .u8 (sum m)) rfl rfl (rfl) (by simp only [iv, List.mem_map]; rintro _ ⟨x, _, rfl⟩; rfl) hr (Nat.le_refl 32) ?_
  intro w4 hb4 hc4
  replace hK := hK.chg hc4 (by simp; omega)
  replace hh := hh.chg hc4 (by simpa using hh.ne hr (by decide))
  replace hC := hC.trans1 hc4 (by first | exact .inr (by omega) | exact .inl (by simp))
  replace hr := hb4
  replace hr := hr.all rfl
  refine OL.nil ?_
  exact TE.ret (vs := [.agg (iv .u8 (sum m)).toArray]) Tryd.results51 (⟨⟨_, rfl, loadRow_at Tryd.underlying98 rfl rfl hr rfl⟩, trivial⟩) ⟨rfl, hC⟩

set_option maxHeartbeats 1000000 in
theorem rsum_any (m : List UInt8) (hm : m.length ≤ 4294967296) (w : World) : Calls Tryd.prog 48 #[.string (str m)] w (RetC (.agg (iv .u8 (sum m)).toArray) w) := by
  refine calls_of_TE (vs := [.string (str m)]) Tryd.func48 Tryd.ntmps48 rfl (by simp) ?_
  have hC : Chg [] w w := Chg.refl _ _
  refine TE.seq ?_
  refine TE.region ?_
  refine OL.alloc Tryd.zeroValue90 rfl ?_
  intro gr w1 hr hc1 hg_gr
  have ge_gr : w.heap.size ≤ gr := by have := hC.size; omega
  replace hC := hC.then_ hc1
  have hr : Blk w1 gr 90 (iv .u8 (List.replicate 32 0)) := hr
  refine OL.nil ?_
  refine TE.seq ?_
  refine TE.region ?_
  refine OL.pure (Pure.build (cs := sv init) rfl (by kernel_rfl)) rfl ?_
  refine OL.alloc Tryd.zeroValue106 rfl ?_
  intro gs w2 hs hc2 hg_gs
  have lt_gr_gs : gr < gs := by have := hr.lt; omega
  have ge_gs : w.heap.size ≤ gs := by have := hC.size; omega
  replace hr := hr.chg0 hc2
  replace hC := hC.then_ hc2
  refine OL.storeRow (vs := sv init) rfl rfl (rfl) (by simp [sv, iv, S8.l, Value.oneCell']) hs (Nat.le_refl 8) ?_
  intro w3 hb3 hc3
  replace hr := hr.chg hc3 (by simpa using hr.ne hs (by decide))
  replace hC := hC.trans1 hc3 (by first | exact .inr (by omega) | exact .inl (by simp))
  replace hs := hb3
  replace hs := hs.all rfl
  refine OL.nil ?_
  refine TE.seq ?_
  refine TE.region ?_
  refine OL.pure (Pure.move rfl) rfl ?_
  refine OL.call rfl Tryd.call52 rfl (rPad_any m hm _) ?_
  rintro _ w4 ⟨v, rfl, hv, hc4, hm_v⟩
  replace hm_v : Mine w.heap.size v := fun k hk => Nat.le_trans hC.size (hm_v k hk)
  replace hr := hr.chg0 hc4
  replace hs := hs.chg0 hc4
  replace hC := hC.then_ hc4
  refine ⟨_, rfl, ?_⟩
  have hRm := pad_len m
  have hRl : (pad m).length = m.length + 1 + zeros m.length + 8 := by simp [pad, len8]; omega
  have hz := zeros_bd m.length
  obtain ⟨R, hR⟩ : ∃ R, R = pad m := ⟨_, rfl⟩
  rw [← hR] at hv hRm hRl
  obtain ⟨gv, cap, cs, rfl, hvb, hvc, hvl, hvt⟩ := hv.form (by omega)
  refine OL.pure (Pure.assign rfl) rfl ?_
  refine OL.nil ?_
  refine TE.seq ?_
  refine TE.seq ?_
  refine TE.region ?_
  refine OL.pure (Pure.assign rfl) rfl ?_
  refine OL.nil ?_
  refine TE.block ?_
  replace hs : Blk w4 gs 106 (sv (absorb init (R.take 0))) := by rw [absorb_zero]; exact hs
  refine TE.loopInv (σ := Nat) [2, 3, 4, 5] (fun s_ w_ => s_ % 64 = 0 ∧ s_ ≤ R.length ∧ Chg [] w w_ ∧ Blk w_ gr 90 (iv .u8 (List.replicate 32 0)) ∧  Blk w_ gv 5 cs ∧ Blk w_ gs 106 (sv (absorb init (R.take s_)))) (fun s_ => [(2, .pointer (some ⟨gr, 0, none⟩)), (3, .pointer (some ⟨gs, 0, none⟩)), (4, .slice (some ⟨gv, 0, none⟩) R.length cap), (5, .int .i64 (↑s_))]) (fun s_ => R.length - s_) 0 ⟨rfl, by omega, hC, hr, hvb, hs⟩ rfl ?_
  rintro j w5 ⟨hj, hjl, hC, hr, hvb, hs⟩ ih5
  refine TE.seq ?_
  refine TE.seq ?_
  refine TE.region ?_
  refine OL.pure (Pure.move rfl) rfl ?_
  refine OL.pure (Pure.move rfl) rfl ?_
  refine OL.pure (Pure.lenSlice Tryd.runUnderlying24 rfl) rfl ?_
  refine OL.pure (Pure.lss rfl rfl) rfl ?_
  refine OL.nil ?_
  refine TE.ite rfl (fun hlt => ?_) (fun hlt => ?_)
  ·
    have hjl2 : j + 64 ≤ R.length := by omega
    refine TE.skip ?_
    refine TE.seq ?_
    refine TE.block ?_
    refine TE.plan 7 (.cons (0, true) (.cons (1, true) (.cons (2, true) (.cons (3, true) (.cons (4, true) (.cons (5, true) (.cons (6, false) .nil))))))) (fun w_ => Chg [] w5 w_) rfl (by kernel_rfl) rfl ?_
    have hS6 : Chg [] w5 w5.drew := Chg.drew _ _
    refine PL.take rfl (fun w_ h_ => Run.loadRow (i := 0) (vs := sv (absorb init (R.take j))) rfl Tryd.underlying106 rfl rfl (hs.chg0 h_) (by omega) rfl) rfl hS6 ?_
    refine PL.takeP rfl (Pure.move rfl) rfl hS6 ?_
    refine PL.takeP rfl (Pure.move rfl) rfl hS6 ?_
    refine PL.takeP rfl (Pure.move rfl) rfl hS6 ?_
    refine PL.takeP rfl (Pure.add rfl rfl (i64 (by omega) (by omega))) rfl hS6 ?_
    refine PL.takeP rfl (Pure.sliceSl (p := j) (q := j + 64) (r := j) Tryd.runUnderlying24 Tryd.sizeOf5 rfl rfl rfl rfl (by omega) (by omega) (by omega) (by omega) (by omega)) rfl hS6 ?_
    refine PL.cast (.slice (some ⟨gv, j, none⟩) 64 (cap - j)) 22 rfl (by rw [Nat.add_sub_cancel_left]) ?_
    refine PL.call rfl rfl Tryd.call53 rfl (rblock_any (absorb init (R.take j)) ((R.drop j).take 64) (by simp; omega) gv j (cap - j) cs (by have := absorb_sub hvt hjl2; rwa [Nat.add_sub_cancel_left] at this) _ (hvb.chg0 hS6)) ?_
    rintro _ w7 ⟨rfl, hc7⟩
    have hS8 := hS6.then_ hc7
    refine ⟨_, rfl, hS8, ?_⟩
    refine PL.nilTail ?_
    replace hr := hr.chg0 hS8
    replace hs := hs.chg0 hS8
    replace hvb := hvb.chg0 hS8
    replace hC := hC.then_ hS8
    refine OL.storeRow (vs := sv (comp (absorb init (R.take j)) (bt ((R.drop j).take 64)))) rfl rfl (rfl) (by simp [sv, iv, S8.l, Value.oneCell']) hs (Nat.le_refl 8) ?_
    intro w9 hb9 hc9
    replace hr := hr.chg hc9 (by simpa using hr.ne hs (by decide))
    replace hvb := hvb.chg hc9 (by simpa using hvb.ne hs (by decide))
    replace hC := hC.trans1 hc9 (by first | exact .inr (by omega) | exact .inl (by simp))
    replace hs := hb9
    replace hs := hs.all rfl
    rw [← absorb_next _ R j (j / 64) (by omega) (by omega)] at hs
    refine OL.nil ?_
    refine TE.inBlock ?_
    refine TE.region ?_
    refine OL.pure (Pure.move rfl) rfl ?_
    refine OL.pure (Pure.add rfl rfl (i64 (by omega) (by omega))) rfl ?_
    refine OL.pure (Pure.assign rfl) rfl ?_
    refine OL.nil ?_
    exact TE.sub [2, 3, 4, 5] rfl (ih5 (j + 64) _ ⟨by omega, by omega, hC, hr, hvb, hs⟩ (by omega))
  ·
    obtain rfl : j = R.length := by omega
    obtain ⟨S, hS⟩ : ∃ S, S = absorb init (R.take R.length) := ⟨_, rfl⟩
    rw [← hS] at hs
    refine TE.exit rfl ?_
    refine TE.seq ?_
    refine TE.region ?_
    refine OL.alloc Tryd.zeroValue90 rfl ?_
    intro gd w10 hd hc10 hg_gd
    have lt_gr_gd : gr < gd := by have := hr.lt; omega
    have lt_gs_gd : gs < gd := by have := hs.lt; omega
    have ge_gd : w.heap.size ≤ gd := by have := hC.size; omega
    replace hr := hr.chg0 hc10
    replace hs := hs.chg0 hc10
    replace hC := hC.then_ hc10
    have hd : Blk w10 gd 90 (iv .u8 (digTo2 S 0)) := hd
    refine OL.nil ?_
    refine TE.seq ?_
    refine TE.seq ?_
    refine TE.region ?_
    refine OL.pure (Pure.assign rfl) rfl ?_
    refine OL.nil ?_
    refine TE.block ?_
    refine TE.loopInv (σ := Nat) [2, 3, 6, 7] (fun s_ w_ => s_ ≤ 32 ∧ Chg [] w w_ ∧ Blk w_ gr 90 (iv .u8 (List.replicate 32 0)) ∧  Blk w_ gs 106 (sv S) ∧ Blk w_ gd 90 (iv .u8 (digTo2 S s_))) (fun s_ => [(2, .pointer (some ⟨gr, 0, none⟩)), (3, .pointer (some ⟨gs, 0, none⟩)), (6, .pointer (some ⟨gd, 0, none⟩)), (7, .int .i64 (↑s_))]) (fun s_ => 32 - s_) 0 ⟨by omega, hC, hr, hs, hd⟩ rfl ?_
    rintro t w11 ⟨ht, hC, hr, hs, hd⟩ ih11
    refine TE.seq ?_
    refine TE.seq ?_
    refine TE.region ?_
    refine OL.pure (Pure.move rfl) rfl ?_
    refine OL.pure (Pure.lss rfl rfl) rfl ?_
    refine OL.nil ?_
    refine TE.ite rfl (fun hlt => ?_) (fun hlt => ?_)
    ·
      refine TE.skip ?_
      refine TE.seq ?_
      refine TE.block ?_
      refine TE.region ?_
      refine OL.pure (Pure.move rfl) rfl ?_
      refine OL.pure (Pure.move rfl) rfl ?_
      refine OL.pure (Pure.quo rfl rfl (by omega) (by omega) (i64in (by omega) (by omega))) rfl ?_
      refine OL.pure (Pure.indexAddrA (r := (t / 4)) Tryd.runUnderlying106 Tryd.sizeOf105 rfl rfl (by omega) (by omega) (by omega)) rfl ?_
      refine OL.val (Run.load (i := (t / 4)) rfl Tryd.isAgg105 hs (by omega) (iv_get (show t / 4 < 8 by omega))) rfl ?_
      refine OL.pure (Pure.move rfl) rfl ?_
      refine OL.pure (Pure.rem rfl rfl (by omega) (by omega)) rfl ?_
      refine OL.pure (Pure.mul rfl rfl (i64 (by omega) (by omega))) rfl ?_
      refine OL.pure (Pure.sub rfl rfl (i64 (by omega) (by omega))) rfl ?_
      refine OL.pure (Pure.shr (p := 2 ^ (24 - 8 * (t % 4))) rfl rfl (by omega) (by congr 1; simp [IntKind.bits]; omega)) rfl ?_
      refine OL.pure (Pure.conv Tryd.runUnderlying105 Tryd.runUnderlying5 rfl (u8w _)) rfl ?_
      refine OL.pure (Pure.indexAddrA (r := t) Tryd.runUnderlying90 Tryd.sizeOf5 rfl rfl (by omega) (by omega) (by omega)) rfl ?_
      refine OL.store (j := t) rfl rfl Tryd.sizeOf5 rfl hd (by omega) (iv_get (by rw [digTo2_len]; omega)) ?_
      intro w12 hb12 hc12
      replace hr := hr.chg hc12 (by simp; omega)
      replace hs := hs.chg hc12 (by simpa using hs.ne hd (by decide))
      replace hC := hC.trans1 hc12 (by first | exact .inr (by omega) | exact .inl (by simp))
      replace hd := hb12
      rw [iv_set] at hd
      refine OL.nil ?_
      refine TE.inBlock ?_
      refine TE.region ?_
      refine OL.pure (Pure.move rfl) rfl ?_
      refine OL.pure (Pure.add rfl rfl (i64 (by omega) (by omega))) rfl ?_
      refine OL.pure (Pure.assign rfl) rfl ?_
      refine OL.nil ?_
      exact TE.sub [2, 3, 6, 7] rfl (ih11 (t + 1) _ ⟨by omega, hC, hr, hs, hd⟩ (by omega))
    ·
      obtain rfl : t = 32 := by omega
      rw [digTo2_all] at hd
      refine TE.exit rfl ?_
      refine TE.seq ?_
      refine TE.region ?_
      refine OL.val (Run.loadRow (i := 0) (vs := iv .u8 (dig S)) rfl Tryd.underlying90 rfl rfl hd (by omega) rfl) rfl ?_
      refine OL.storeRow (vs := iv .u8 (dig S)) rfl rfl (rfl) (by simp only [iv, List.mem_map]; rintro _ ⟨x, _, rfl⟩; rfl) hr (Nat.le_refl 32) ?_
      intro w13 hb13 hc13
      replace hs := hs.chg hc13 (by simpa using hs.ne hr (by decide))
      replace hd := hd.chg hc13 (by simp; omega)
      replace hC := hC.trans1 hc13 (by first | exact .inr (by omega) | exact .inl (by simp))
      replace hr := hb13
      replace hr := hr.all rfl
      have hfin : dig S = sum m := by rw [hS, List.take_length, hR]; rfl
      refine OL.nil ?_
      exact TE.ret (vs := [.agg (iv .u8 (sum m)).toArray]) Tryd.results48 (⟨⟨_, rfl, hfin ▸ loadRow_at Tryd.underlying90 rfl rfl hr rfl⟩, trivial⟩) ⟨rfl, hC⟩

end Go.Proofs.YtigjmemoaapmgaaDoor
