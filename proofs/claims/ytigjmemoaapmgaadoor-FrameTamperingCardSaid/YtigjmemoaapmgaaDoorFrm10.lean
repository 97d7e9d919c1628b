/- The law of changed bytes, walked -/
import Derived.Test.YtigjmemoaapmgaaDoorProg
import Derived.Test.YtigjmemoaapmgaaDoorEng6
import Derived.Test.YtigjmemoaapmgaaDoorFrameSpec2
import Derived.Test.YtigjmemoaapmgaaDoorFrm1
import Derived.Test.YtigjmemoaapmgaaDoorFrm2
import Derived.Test.YtigjmemoaapmgaaDoorFrm3
import Derived.Test.YtigjmemoaapmgaaDoorFrm4
import Derived.Test.YtigjmemoaapmgaaDoorFrm5
import Derived.Test.YtigjmemoaapmgaaDoorFrm6
set_option linter.unusedVariables false
set_option maxRecDepth 4000
namespace Go.Proofs.YtigjmemoaapmgaaDoor
open Go.V Go.Sha Go.Frm
set_option maxHeartbeats 1000000 in
theorem tampering_law_any {tK tF : TypeId} (f0 : Fr) (n : Nat) (hn : n ≤ 65535) (c : UInt8) (w : World) (hK : Blk w 1 tK (iv .u32 K)) (hF : Blk w 0 tF (iv .i64 fldL)) : Calls Tryd.prog 6 #[.agg (f0).cells.toArray, .int .u16 (n : Int), .int .u8 ((c.toNat : Nat) : Int)] w (RetC (.bool true) w) := by
  refine calls_of_TE (vs := [.agg (f0).cells.toArray, .int .u16 (n : Int), .int .u8 ((c.toNat : Nat) : Int)]) Tryd.func6 Tryd.ntmps6 rfl (by simp) ?_
  have hC : Chg [] w w := Chg.refl _ _
  have h0w : 1 < w.heap.size := hK.lt
  have h1w : 0 < w.heap.size := hF.lt
  have hsh := fun w => short_any f0 w
  have hfl : (Fr.short f0).payload.length ≤ 300 := by simp [Fr.short]; omega
  generalize Fr.short f0 = f at hsh hfl
  have hc0 : ((c.toNat : Nat) : Int) = 0 ↔ c = 0 := ⟨fun h => UInt8.toNat_inj.1 (by simpa using h), fun h => by rw [h]; rfl⟩
  refine TE.seq ?_
  refine TE.region ?_
  refine OL.box rfl rfl ?_
  intro g3 w1 h3 hc1 hg_g3
  have lt_1_g3 : 1 < g3 := by have := hK.lt; omega
  have lt_0_g3 : 0 < g3 := by have := hF.lt; omega
  have ge_g3 : w.heap.size ≤ g3 := by have := hC.size; omega
  replace hK := hK.chg0 hc1
  replace hF := hF.chg0 hc1
  replace hC := hC.then_ hc1
  have h3 : Blk w1 g3 34 (f0.cells) := h3
  refine OL.pure (Pure.assign rfl) rfl ?_
  refine OL.nil ?_
  refine TE.seq ?_
  refine TE.region ?_
  refine OL.val (Run.loadAll rfl Tryd.underlying34 rfl h3 (rfl)) rfl ?_
  refine OL.call rfl Tryd.call18 rfl (hsh _) ?_
  rintro _ w2 ⟨rfl, hc2⟩
  replace hK := hK.chg0 hc2
  replace hF := hF.chg0 hc2
  replace h3 := h3.chg0 hc2
  replace hC := hC.then_ hc2
  refine ⟨_, rfl, ?_⟩
  refine OL.storeRow (vs := (f).cells) rfl rfl (rfl) (by simp [Fr.cells, Value.oneCell']) h3 (Nat.le_refl 4) ?_
  intro w3 hb3 hc3
  replace hK := hK.chg hc3 (by simp; omega)
  replace hF := hF.chg hc3 (by simp; omega)
  replace hC := hC.trans1 hc3 (by first | exact .inr (by omega) | exact .inl (by simp))
  replace h3 := hb3
  replace h3 := h3.all rfl
  refine OL.nil ?_
  refine TE.seq ?_
  refine TE.seq ?_
  refine TE.region ?_
  refine OL.call rfl Tryd.call15 rfl (known_any _ hK hF) ?_
  rintro _ w4 ⟨rfl, hc4⟩
  replace hK := hK.chg0 hc4
  replace hF := hF.chg0 hc4
  replace h3 := h3.chg0 hc4
  replace hC := hC.then_ hc4
  refine ⟨_, rfl, ?_⟩
  refine OL.pure (Pure.not rfl) rfl ?_
  refine OL.pure (Pure.move rfl) rfl ?_
  refine OL.want rfl rfl rfl (Run.loadAll rfl Tryd.underlying34 rfl h3 (rfl)) rfl ?_
  refine OL.callG rfl rfl rfl rfl Tryd.call19 rfl (rcheck_any f (by omega) _) ?_
  rintro _ w5 ⟨rfl, hc5⟩
  replace hK := hK.chg0 hc5
  replace hF := hF.chg0 hc5
  replace h3 := h3.chg0 hc5
  replace hC := hC.then_ hc5
  refine ⟨_, rfl, ?_⟩
  by_cases hok : check f = 0
  ·
    by_cases hcz : c = 0
    ·
      refine OL.want rfl rfl rfl (Pure.neq rfl rfl _) rfl ?_
      refine OL.cast (.bool false) 25 rfl (congrArg Value.bool (decide_eq_false (fun h => h hok))) ?_
      refine OL.pure (Pure.pickF rfl rfl) rfl ?_
      refine OL.pure (Pure.move rfl) rfl ?_
      refine OL.want rfl rfl rfl (Pure.move rfl _) rfl ?_
      refine OL.want rfl rfl rfl (Pure.eql rfl rfl _) rfl ?_
      refine OL.cast (.bool true) 29 rfl (congrArg Value.bool (decide_eq_true (hc0.2 hcz))) ?_
      refine OL.pure (Pure.pickF rfl rfl) rfl ?_
      refine OL.nil ?_
      refine TE.condT rfl rfl ?_
      refine TE.seq ?_
      refine TE.region ?_
      refine OL.call rfl Tryd.call15 rfl (known_any _ hK hF) ?_
      rintro _ w6 ⟨rfl, hc6⟩
      replace hK := hK.chg0 hc6
      replace hF := hF.chg0 hc6
      replace h3 := h3.chg0 hc6
      replace hC := hC.then_ hc6
      refine ⟨_, rfl, ?_⟩
      refine OL.pure (Pure.assign rfl) rfl ?_
      refine OL.nil ?_
      exact TE.ret (vs := [.bool true]) Tryd.results6 (⟨rfl, trivial⟩) ⟨rfl, hC⟩
    ·
      refine OL.want rfl rfl rfl (Pure.neq rfl rfl _) rfl ?_
      refine OL.cast (.bool false) 25 rfl (congrArg Value.bool (decide_eq_false (fun h => h hok))) ?_
      refine OL.pure (Pure.pickF rfl rfl) rfl ?_
      refine OL.pure (Pure.move rfl) rfl ?_
      refine OL.want rfl rfl rfl (Pure.move rfl _) rfl ?_
      refine OL.want rfl rfl rfl (Pure.eql rfl rfl _) rfl ?_
      refine OL.cast (.bool false) 29 rfl (congrArg Value.bool (decide_eq_false (fun h => hcz (hc0.1 h)))) ?_
      refine OL.pure (Pure.pickF rfl rfl) rfl ?_
      refine OL.nil ?_
      refine TE.condF rfl rfl ?_
      refine TE.skip ?_
      refine TE.seq ?_
      refine TE.region ?_
      refine OL.val (Run.loadAll rfl Tryd.underlying34 rfl h3 (rfl)) rfl ?_
      refine OL.call rfl Tryd.call20 rfl (rencode_any f hok _) ?_
      rintro _ w7 ⟨rfl, hc7⟩
      replace hK := hK.chg0 hc7
      replace hF := hF.chg0 hc7
      replace h3 := h3.chg0 hc7
      replace hC := hC.then_ hc7
      refine ⟨_, rfl, ?_⟩
      have hel := encode_len f
      obtain ⟨s, hs⟩ : ∃ s, s = encode f := ⟨_, rfl⟩
      rw [← hs] at hel
      refine OL.pure (Pure.assign rfl) rfl ?_
      refine OL.cast (.string (str s)) 7 rfl (by rw [hs]) ?_
      refine OL.nil ?_
      refine TE.seq ?_
      refine TE.region ?_
      refine OL.pure (Pure.move rfl) rfl ?_
      refine OL.toBytes Tryd.underlying9 Tryd.underlying24 Tryd.underlying5 rfl rfl ?_
      intro v0 w8 hv0 hc8 ho_v0
      have hm_v0 : Mine w.heap.size v0 := Mine.new ho_v0 (by have := hC.size; omega)
      replace hK := hK.chg0 hc8
      replace hF := hF.chg0 hc8
      replace h3 := h3.chg0 hc8
      replace hC := hC.then_ hc8
      refine OL.pure (Pure.assign rfl) rfl ?_
      obtain ⟨gv, cap, cs, rfl, hvb, hvc, hvl, hvt⟩ := hv0.form (by omega)
      rw [Nat.mul_one] at hvt hvl
      have hgv := hm_v0 gv (by simp [own])
      have h3v : g3 ≠ gv := fun h => by subst h; exact absurd (h3.same hvb) (by decide)
      obtain ⟨k, hk⟩ : ∃ k, k = n % s.length := ⟨_, rfl⟩
      have hkl : k < s.length := by rw [hk]; exact Nat.mod_lt _ (by omega)
      have hkc : k < cs.length := by omega
      obtain ⟨x, hx⟩ : ∃ x, x = s.getD k 0 ^^^ c := ⟨_, rfl⟩
      have hxn : x ≠ s.getD k 0 := by rw [hx]; exact u8_xor_ne hcz
      refine OL.nil ?_
      refine TE.seq ?_
      refine TE.region ?_
      refine OL.pure (Pure.move rfl) rfl ?_
      refine OL.pure (Pure.move rfl) rfl ?_
      refine OL.pure (Pure.conv Tryd.runUnderlying25 Tryd.runUnderlying3 rfl (i64in (by omega) (by omega))) rfl ?_
      refine OL.pure (Pure.move rfl) rfl ?_
      refine OL.pure (Pure.lenSlice Tryd.runUnderlying24 rfl) rfl ?_
      refine OL.pure (Pure.rem rfl rfl (by omega) (by omega)) rfl ?_
      refine OL.cast (.int .i64 (k : Int)) 41 rfl (congrArg (Value.int .i64) (by rw [hk]; exact (Int.natCast_emod _ _).symm)) ?_
      refine OL.pure (Pure.indexAddrS (r := k) Tryd.runUnderlying24 Tryd.sizeOf5 rfl rfl (by omega) (by omega) (by omega)) rfl ?_
      refine OL.val (Run.load (i := k) rfl Tryd.isAgg5 hvb (by omega) (blk_get hvt hkl)) rfl ?_
      refine OL.pure (Pure.move rfl) rfl ?_
      refine OL.pure (Pure.bits rfl rfl rfl) rfl ?_
      refine OL.cast (.int .u8 ((x.toNat : Nat) : Int)) 45 rfl (by rw [hx]; exact congrArg (Value.int .u8) (u8xor8 _ _)) ?_
      refine OL.pure (Pure.indexAddrS (r := k) Tryd.runUnderlying24 Tryd.sizeOf5 rfl rfl (by omega) (by omega) (by omega)) rfl ?_
      refine OL.store (j := k) rfl rfl Tryd.sizeOf5 rfl hvb (by omega) (blk_get hvt hkl) ?_
      intro w9 hb9 hc9
      replace hK := hK.chg hc9 (by simp; omega)
      replace hF := hF.chg hc9 (by simp; omega)
      replace h3 := h3.chg hc9 (by simp; exact h3v)
      replace hC := hC.trans1 hc9 (by first | exact .inr (by omega) | exact .inl (by simp))
      replace hvb := hb9
      replace hvt := take_set (j := k) hvt x
      obtain ⟨b, hb⟩ : ∃ b, b = s.set k x := ⟨_, rfl⟩
      rw [← hb] at hvt
      have hbl : b.length = s.length := by rw [hb]; simp
      refine OL.nil ?_
      refine TE.seq ?_
      refine TE.region ?_
      refine OL.pure (Pure.move rfl) rfl ?_
      refine OL.val (Run.toStr (bs := b) Tryd.underlying24 Tryd.underlying5 Tryd.underlying9 rfl hvb hbl (by simpa using hvt)) rfl ?_
      obtain ⟨d, m, e, hd⟩ : ∃ d m e, Frm.decode b = (d, m, e) := ⟨_, _, _, rfl⟩
      refine OL.call rfl Tryd.call13 rfl (decode_any b (by omega) d m e hd _ hK hF) ?_
      rintro _ w10 ⟨rfl, hc10⟩
      replace hK := hK.chg0 hc10
      replace hF := hF.chg0 hc10
      replace h3 := h3.chg0 hc10
      replace hvb := hvb.chg0 hc10
      replace hC := hC.then_ hc10
      refine ⟨_, rfl, ?_⟩
      refine OL.pure (Pure.move rfl) rfl ?_
      refine OL.pure (Pure.extract (vs := [.agg (d).cells.toArray, .int .i64 ((m : Nat) : Int), .int .i64 e]) (i := 0) rfl rfl) rfl ?_
      refine OL.pure (Pure.extract (vs := [.agg (d).cells.toArray, .int .i64 ((m : Nat) : Int), .int .i64 e]) (i := 1) rfl rfl) rfl ?_
      refine OL.pure (Pure.extract (vs := [.agg (d).cells.toArray, .int .i64 ((m : Nat) : Int), .int .i64 e]) (i := 2) rfl rfl) rfl ?_
      refine OL.alloc Tryd.zeroValue30 rfl ?_
      intro g9 w11 h9 hc11 hg_g9
      have lt_1_g9 : 1 < g9 := by have := hK.lt; omega
      have lt_0_g9 : 0 < g9 := by have := hF.lt; omega
      have lt_g3_g9 : g3 < g9 := by have := h3.lt; omega
      have lt_gv_g9 : gv < g9 := by have := hvb.lt; omega
      have ge_g9 : w.heap.size ≤ g9 := by have := hC.size; omega
      replace hK := hK.chg0 hc11
      replace hF := hF.chg0 hc11
      replace h3 := h3.chg0 hc11
      replace hvb := hvb.chg0 hc11
      replace hC := hC.then_ hc11
      have h9 : Blk w11 g9 30 (Fr.zero.cells) := h9
      refine OL.storeRow (vs := (d).cells) rfl rfl (rfl) (by simp [Fr.cells, Value.oneCell']) h9 (Nat.le_refl 4) ?_
      intro w12 hb12 hc12
      replace hK := hK.chg hc12 (by simp; omega)
      replace hF := hF.chg hc12 (by simp; omega)
      replace h3 := h3.chg hc12 (by simpa using h3.ne h9 (by decide))
      replace hvb := hvb.chg hc12 (by simp; omega)
      replace hC := hC.trans1 hc12 (by first | exact .inr (by omega) | exact .inl (by simp))
      replace h9 := hb12
      replace h9 := h9.all rfl
      by_cases he : e = 0
      ·
        obtain ⟨t1, t2⟩ := tamper hok (i := k) (x := x) (by rw [← hs]; exact hkl) (by rw [← hs]; exact hxn) (by rw [← hs, ← hb, hd]; exact he)
        rw [← hs, ← hb] at t1 t2
        rw [hd] at t2
        refine OL.pure (Pure.assign rfl) rfl ?_
        refine OL.pure (Pure.assign rfl) rfl ?_
        refine OL.nil ?_
        refine TE.seq ?_
        refine TE.seq ?_
        refine TE.region ?_
        refine OL.pure (Pure.move rfl) rfl ?_
        refine OL.pure (Pure.neq rfl rfl) rfl ?_
        refine OL.cast (.bool false) 55 rfl (congrArg Value.bool (decide_eq_false (fun h => h he))) ?_
        refine OL.nil ?_
        refine TE.condF rfl rfl ?_
        refine TE.skip ?_
        refine TE.seq ?_
        refine TE.planAll (.cons (0, true) (.cons (1, true) (.cons (2, true) (.cons (3, true) (.cons (4, true) (.cons (5, true) (.cons (6, true) .nil))))))) (fun w_ => Chg [] w12 w_) rfl (by kernel_rfl) ?_
        have hS13 : Chg [] w12 w12.drew := Chg.drew _ _
        replace hK := hK.chg0 hS13
        replace hF := hF.chg0 hS13
        replace h3 := h3.chg0 hS13
        replace hvb := hvb.chg0 hS13
        replace h9 := h9.chg0 hS13
        replace hC := hC.then_ hS13
        refine PL.takeP rfl (Pure.move rfl) rfl hS13 ?_
        refine PL.takeP rfl (Pure.sliceTo (l := s) (q := 18) Tryd.underlying9 rfl rfl (by omega) (by omega)) rfl hS13 ?_
        refine PL.takeP rfl (Pure.move rfl) rfl hS13 ?_
        refine PL.takeP rfl (Pure.sliceSlTo (q := 18) Tryd.runUnderlying24 Tryd.sizeOf5 rfl rfl rfl (by omega)) rfl hS13 ?_
        refine PL.takeS (fun w_ => Chg [] w12.drew w_) (fun _ h_ => hS13.then_ h_) rfl (fun w_ h_ => Run.toStr (bs := b.take 18) Tryd.underlying24 Tryd.underlying5 Tryd.underlying9 rfl (hvb.chg0 h_) (by simp; omega) (take_part hvt (by omega))) rfl (Chg.refl _ _) ?_
        have hP14 : Chg [] w12.drew w12.drew := Chg.refl _ _
        refine PL.takeP rfl (Pure.assign rfl) rfl hP14 ?_
        refine PL.takeP rfl (Pure.assign rfl) rfl hP14 ?_
        refine PL.nil ?_
        have hs18 : (s.take 18).length = 18 := by simp; omega
        have hb18 : (b.take 18).length = 18 := by simp; omega
        refine TE.seq ?_
        refine TE.seq ?_
        refine TE.region ?_
        refine OL.pure (Pure.move rfl) rfl ?_
        refine OL.pure (Pure.move rfl) rfl ?_
        refine OL.pure (Pure.strNeq (l := (s.take 18)) (m := (b.take 18)) rfl rfl) rfl ?_
        refine OL.nil ?_
        refine TE.ite rfl (fun hne => ?_) (fun hne => ?_)
        ·
          obtain ⟨u1, u2⟩ := t1 hne
          refine TE.seq ?_
          refine TE.region ?_
          refine OL.pure (Pure.move rfl) rfl ?_
          refine OL.buildSlice (cs := tv [(s.take 18)]) rfl Tryd.runUnderlying22 Tryd.sizeOf9 Tryd.zeroValue9 (by decide) (by decide) (by kernel_rfl) rfl ?_
          intro q1 w15 hq0 hc15 hg_q1
          have lt_1_q1 : 1 < q1 := by have := hK.lt; omega
          have lt_0_q1 : 0 < q1 := by have := hF.lt; omega
          have lt_g3_q1 : g3 < q1 := by have := h3.lt; omega
          have lt_g9_q1 : g9 < q1 := by have := h9.lt; omega
          have ge_q1 : w.heap.size ≤ q1 := by have := hC.size; omega
          replace hK := hK.chg0 hc15
          replace hF := hF.chg0 hc15
          replace h3 := h3.chg0 hc15
          replace h9 := h9.chg0 hc15
          replace hC := hC.then_ hc15
          have hjb0 : (jparts [(s.take 18)]).length ≤ 4294967200 := by simp only [jparts, List.flatMap_cons, List.flatMap_nil, List.append_nil, jpart_len]; omega
          refine OL.call rfl Tryd.call21 rfl (rjoin_any 10 _ 1 [(s.take 18)] (by simp) (by omega) _ (Cells.of_blk hq0)) ?_
          rintro _ w16 ⟨rfl, hc16⟩
          replace hK := hK.chg0 hc16
          replace hF := hF.chg0 hc16
          replace h3 := h3.chg0 hc16
          replace h9 := h9.chg0 hc16
          replace hq0 := hq0.chg0 hc16
          replace hC := hC.then_ hc16
          refine ⟨_, rfl, ?_⟩
          refine OL.pure (Pure.move rfl) rfl ?_
          refine OL.pure (Pure.extract (vs := [.string (str (join 10 [(s.take 18)])), .int .i64 0]) (i := 0) rfl rfl) rfl ?_
          refine OL.pure (Pure.extract (vs := [.string (str (join 10 [(s.take 18)])), .int .i64 0]) (i := 1) rfl rfl) rfl ?_
          refine OL.pure (Pure.assign rfl) rfl ?_
          refine OL.pure (Pure.assign rfl) rfl ?_
          refine OL.nil ?_
          refine TE.seq ?_
          refine TE.region ?_
          refine OL.pure (Pure.move rfl) rfl ?_
          refine OL.buildSlice (cs := tv [(b.take 18)]) rfl Tryd.runUnderlying22 Tryd.sizeOf9 Tryd.zeroValue9 (by decide) (by decide) (by kernel_rfl) rfl ?_
          intro q2 w17 hq1 hc17 hg_q2
          have lt_1_q2 : 1 < q2 := by have := hK.lt; omega
          have lt_0_q2 : 0 < q2 := by have := hF.lt; omega
          have lt_g3_q2 : g3 < q2 := by have := h3.lt; omega
          have lt_g9_q2 : g9 < q2 := by have := h9.lt; omega
          have ge_q2 : w.heap.size ≤ q2 := by have := hC.size; omega
          replace hK := hK.chg0 hc17
          replace hF := hF.chg0 hc17
          replace h3 := h3.chg0 hc17
          replace h9 := h9.chg0 hc17
          replace hC := hC.then_ hc17
          have hjb1 : (jparts [(b.take 18)]).length ≤ 4294967200 := by simp only [jparts, List.flatMap_cons, List.flatMap_nil, List.append_nil, jpart_len]; omega
          refine OL.call rfl Tryd.call21 rfl (rjoin_any 10 _ 1 [(b.take 18)] (by simp) (by omega) _ (Cells.of_blk hq1)) ?_
          rintro _ w18 ⟨rfl, hc18⟩
          replace hK := hK.chg0 hc18
          replace hF := hF.chg0 hc18
          replace h3 := h3.chg0 hc18
          replace h9 := h9.chg0 hc18
          replace hq1 := hq1.chg0 hc18
          replace hC := hC.then_ hc18
          refine ⟨_, rfl, ?_⟩
          refine OL.pure (Pure.move rfl) rfl ?_
          refine OL.pure (Pure.extract (vs := [.string (str (join 10 [(b.take 18)])), .int .i64 0]) (i := 0) rfl rfl) rfl ?_
          refine OL.pure (Pure.extract (vs := [.string (str (join 10 [(b.take 18)])), .int .i64 0]) (i := 1) rfl rfl) rfl ?_
          refine OL.pure (Pure.assign rfl) rfl ?_
          refine OL.pure (Pure.assign rfl) rfl ?_
          refine OL.nil ?_
          refine TE.seq ?_
          refine TE.region ?_
          refine OL.pure (Pure.move rfl) rfl ?_
          refine OL.pure (Pure.move rfl) rfl ?_
          refine OL.pure (Pure.strNeq (l := (join 10 [(s.take 18)])) (m := (join 10 [(b.take 18)])) rfl rfl) rfl ?_
          refine OL.cast (.bool true) 85 rfl (congrArg Value.bool (decide_eq_true u1)) ?_
          refine OL.pure (Pure.move rfl) rfl ?_
          refine OL.want rfl rfl rfl (Pure.move rfl _) rfl ?_
          refine OL.callG rfl rfl rfl rfl Tryd.call17 rfl (rfirst_any (s.take 18) (by omega) _) ?_
          rintro _ w19 ⟨rfl, hc19⟩
          replace hK := hK.chg0 hc19
          replace hF := hF.chg0 hc19
          replace h3 := h3.chg0 hc19
          replace h9 := h9.chg0 hc19
          replace hC := hC.then_ hc19
          refine ⟨_, rfl, ?_⟩
          refine OL.want rfl rfl rfl (Pure.move rfl _) rfl ?_
          refine OL.callG rfl rfl rfl rfl Tryd.call17 rfl (rfirst_any (b.take 18) (by omega) _) ?_
          rintro _ w20 ⟨rfl, hc20⟩
          replace hK := hK.chg0 hc20
          replace hF := hF.chg0 hc20
          replace h3 := h3.chg0 hc20
          replace h9 := h9.chg0 hc20
          replace hC := hC.then_ hc20
          refine ⟨_, rfl, ?_⟩
          refine OL.want rfl rfl rfl (Pure.strEql (l := (first (s.take 18))) (m := (first (b.take 18))) rfl rfl _) rfl ?_
          refine OL.cast (.bool true) 91 rfl (congrArg Value.bool (decide_eq_true u2)) ?_
          refine OL.pure (Pure.pickT rfl rfl) rfl ?_
          refine OL.pure (Pure.assign rfl) rfl ?_
          refine OL.nil ?_
          exact TE.ret (vs := [.bool true]) Tryd.results6 (⟨rfl, trivial⟩) ⟨rfl, hC⟩
        ·
          obtain ⟨u1, u2⟩ := t2 (Decidable.byContradiction hne)
          have hdl : d.payload.length ≤ 262144 := by have := dec_pay b; rw [hd] at this; exact this
          refine TE.skip ?_
          refine TE.seq ?_
          refine TE.planAll (.cons (0, true) (.cons (1, true) (.cons (2, true) (.cons (3, true) (.cons (4, true) (.cons (5, true) (.cons (6, true) (.cons (7, true) (.cons (8, true) (.cons (10, true) (.cons (11, true) (.cons (12, true) (.cons (9, false) (.cons (13, false) (.cons (14, true) (.cons (15, true) (.cons (16, true) .nil))))))))))))))))) (fun w_ => Chg [] w12.drew w_) rfl (by kernel_rfl) ?_
          have hS21 : Chg [] w12.drew w12.drew.drew := Chg.drew _ _
          replace hK := hK.chg0 hS21
          replace hF := hF.chg0 hS21
          replace h3 := h3.chg0 hS21
          replace h9 := h9.chg0 hS21
          replace hC := hC.then_ hS21
          refine PL.takeP rfl (Pure.fieldAddr (r := 3) Tryd.runUnderlying30 rfl Tryd.sizeOf9 rfl rfl) rfl hS21 ?_
          refine PL.takeS (fun w_ => Chg [] w12.drew.drew w_) (fun _ h_ => hS21.then_ h_) rfl (fun w_ h_ => Run.load (i := 3) rfl Tryd.isAgg9 (h9.chg0 h_) (by omega) rfl) rfl (Chg.refl _ _) ?_
          have hP22 : Chg [] w12.drew.drew w12.drew.drew := Chg.refl _ _
          refine PL.takeP rfl (Pure.fieldAddr (r := 3) Tryd.runUnderlying34 rfl Tryd.sizeOf9 rfl rfl) rfl hP22 ?_
          refine PL.takeS (fun w_ => Chg [] w12.drew.drew w_) (fun _ h_ => hP22.then_ h_) rfl (fun w_ h_ => Run.load (i := 3) rfl Tryd.isAgg9 (h3.chg0 h_) (by omega) rfl) rfl (Chg.refl _ _) ?_
          have hP23 : Chg [] w12.drew.drew w12.drew.drew := Chg.refl _ _
          refine PL.takeP rfl (Pure.strNeq (l := d.payload) (m := f.payload) rfl rfl) rfl hP23 ?_
          refine PL.cast (.bool true) 97 rfl (congrArg Value.bool (decide_eq_true u1)) ?_
          refine PL.takeP rfl (Pure.move rfl) rfl hP23 ?_
          refine PL.takeG (fun w_ => Chg [] w12.drew.drew w_) (fun _ h_ => hP23.then_ h_) rfl rfl rfl rfl (fun w_ h_ => Pure.move rfl _) rfl (Chg.refl _ _) ?_
          have hP24 : Chg [] w12.drew.drew w12.drew.drew := Chg.refl _ _
          refine PL.takeG (fun w_ => Chg [] w12.drew.drew w_) (fun _ h_ => hP24.then_ h_) rfl rfl rfl rfl (fun w_ h_ => Pure.fieldAddr (r := 3) Tryd.runUnderlying34 rfl Tryd.sizeOf9 rfl rfl _) rfl (Chg.refl _ _) ?_
          have hP25 : Chg [] w12.drew.drew w12.drew.drew := Chg.refl _ _
          refine PL.takeG (fun w_ => Chg [] w12.drew.drew w_) (fun _ h_ => hP25.then_ h_) rfl rfl rfl rfl (fun w_ h_ => Run.load (i := 3) rfl Tryd.isAgg9 (h3.chg0 h_) (by omega) rfl) rfl (Chg.refl _ _) ?_
          have hP26 : Chg [] w12.drew.drew w12.drew.drew := Chg.refl _ _
          refine PL.takeG (fun w_ => Chg [] w12.drew.drew w_) (fun _ h_ => hP26.then_ h_) rfl rfl rfl rfl (fun w_ h_ => Pure.move rfl _) rfl (Chg.refl _ _) ?_
          have hP27 : Chg [] w12.drew.drew w12.drew.drew := Chg.refl _ _
          refine PL.takeG (fun w_ => Chg [] w12.drew.drew w_) (fun _ h_ => hP27.then_ h_) rfl rfl rfl rfl (fun w_ h_ => Pure.fieldAddr (r := 3) Tryd.runUnderlying30 rfl Tryd.sizeOf9 rfl rfl _) rfl (Chg.refl _ _) ?_
          have hP28 : Chg [] w12.drew.drew w12.drew.drew := Chg.refl _ _
          refine PL.takeG (fun w_ => Chg [] w12.drew.drew w_) (fun _ h_ => hP28.then_ h_) rfl rfl rfl rfl (fun w_ h_ => Run.load (i := 3) rfl Tryd.isAgg9 (h9.chg0 h_) (by omega) rfl) rfl (Chg.refl _ _) ?_
          have hP29 : Chg [] w12.drew.drew w12.drew.drew := Chg.refl _ _
          refine PL.callG rfl rfl rfl rfl rfl Tryd.call22 rfl (rsecond_any (s.take 18) f.payload (by omega) (by omega) _) ?_
          rintro _ w30 ⟨rfl, hc30⟩
          have hc30s := hP29.then_ hc30
          replace hK := hK.chg0 hc30
          replace hF := hF.chg0 hc30
          replace h3 := h3.chg0 hc30
          replace h9 := h9.chg0 hc30
          replace hC := hC.then_ hc30
          refine ⟨_, rfl, hc30s, ?_⟩
          refine PL.callG rfl rfl rfl rfl rfl Tryd.call22 rfl (rsecond_any (b.take 18) d.payload (by omega) (by omega) _) ?_
          rintro _ w31 ⟨rfl, hc31⟩
          have hc31s := hc30s.then_ hc31
          replace hK := hK.chg0 hc31
          replace hF := hF.chg0 hc31
          replace h3 := h3.chg0 hc31
          replace h9 := h9.chg0 hc31
          replace hC := hC.then_ hc31
          refine ⟨_, rfl, hc31s, ?_⟩
          refine PL.takeG (fun w_ => Chg [] w31 w_) (fun _ h_ => hc31s.then_ h_) rfl rfl rfl rfl (fun w_ h_ => Pure.strEql (l := (second (s.take 18) f.payload)) (m := (second (b.take 18) d.payload)) rfl rfl _) rfl (Chg.refl _ _) ?_
          have hP32 : Chg [] w31 w31 := Chg.refl _ _
          refine PL.cast (.bool true) 107 rfl (congrArg Value.bool (decide_eq_true u2)) ?_
          refine PL.takeP rfl (Pure.pickT rfl rfl) rfl hP32 ?_
          refine PL.takeP rfl (Pure.assign rfl) rfl hP32 ?_
          refine PL.nil ?_
          exact TE.ret (vs := [.bool true]) Tryd.results6 (⟨rfl, trivial⟩) ⟨rfl, hC⟩
      ·
        obtain ⟨hz, hm0⟩ := dec_no (s := b) (by rw [hd]; exact he)
        rw [hd] at hz hm0
        replace hz : d = Fr.zero := hz
        replace hm0 : m = 0 := hm0
        rw [hz] at h9
        refine OL.pure (Pure.assign rfl) rfl ?_
        refine OL.pure (Pure.assign rfl) rfl ?_
        refine OL.nil ?_
        refine TE.seq ?_
        refine TE.seq ?_
        refine TE.region ?_
        refine OL.pure (Pure.move rfl) rfl ?_
        refine OL.pure (Pure.neq rfl rfl) rfl ?_
        refine OL.cast (.bool true) 55 rfl (congrArg Value.bool (decide_eq_true (he))) ?_
        refine OL.nil ?_
        refine TE.condT rfl rfl ?_
        refine TE.seq ?_
        refine TE.region ?_
        refine OL.val (Run.loadAll rfl Tryd.underlying30 rfl h9 (rfl)) rfl ?_
        refine OL.pure (Pure.build (cs := Fr.zero.cells) rfl (by kernel_rfl)) rfl ?_
        refine OL.pure (Pure.eqlStruct (t := 30) (by kernel_rfl) (by kernel_rfl) (by kernel_rfl) rfl rfl (frm_eq Fr.zero Fr.zero)) rfl ?_
        refine OL.cast (.bool true) 58 rfl (congrArg Value.bool (frSame_self _)) ?_
        refine OL.pure (Pure.move rfl) rfl ?_
        refine OL.want rfl rfl rfl (Pure.move rfl _) rfl ?_
        refine OL.want rfl rfl rfl (Pure.eql rfl rfl _) rfl ?_
        refine OL.cast (.bool true) 61 rfl (congrArg Value.bool (decide_eq_true (by rw [hm0]; rfl))) ?_
        refine OL.pure (Pure.pickT rfl rfl) rfl ?_
        refine OL.pure (Pure.assign rfl) rfl ?_
        refine OL.nil ?_
        exact TE.ret (vs := [.bool true]) Tryd.results6 (⟨rfl, trivial⟩) ⟨rfl, hC⟩
  ·
    refine OL.want rfl rfl rfl (Pure.neq rfl rfl _) rfl ?_
    refine OL.cast (.bool true) 25 rfl (congrArg Value.bool (decide_eq_true (hok))) ?_
    refine OL.pure (Pure.pickF rfl rfl) rfl ?_
    refine OL.pure (Pure.move rfl) rfl ?_
    refine OL.pass rfl rfl rfl rfl rfl ?_
    refine OL.pass rfl rfl rfl rfl rfl ?_
    refine OL.pure (Pure.pickT rfl rfl) rfl ?_
    refine OL.nil ?_
    refine TE.condT rfl rfl ?_
    refine TE.seq ?_
    refine TE.region ?_
    refine OL.call rfl Tryd.call15 rfl (known_any _ hK hF) ?_
    rintro _ w33 ⟨rfl, hc33⟩
    replace hK := hK.chg0 hc33
    replace hF := hF.chg0 hc33
    replace h3 := h3.chg0 hc33
    replace hC := hC.then_ hc33
    refine ⟨_, rfl, ?_⟩
    refine OL.pure (Pure.assign rfl) rfl ?_
    refine OL.nil ?_
    exact TE.ret (vs := [.bool true]) Tryd.results6 (⟨rfl, trivial⟩) ⟨rfl, hC⟩

end Go.Proofs.YtigjmemoaapmgaaDoor
